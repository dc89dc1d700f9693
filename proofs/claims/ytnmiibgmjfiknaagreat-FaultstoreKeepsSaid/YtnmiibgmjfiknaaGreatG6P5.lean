/- Helpers: functions of the program as Lean functions, and what they compute. No condition. -/
import Derived.Test.YtnmiibgmjfiknaaGreatG6P4
import Derived.Test.YtnmiibgmjfiknaaGreatE6P4
import Derived.Test.YtnmiibgmjfiknaaGreatE6P2
import Derived.Test.YtnmiibgmjfiknaaGreatG6P1
import Derived.Test.YtnmiibgmjfiknaaGreatG6P2
import Derived.Test.YtnmiibgmjfiknaaGreatG6P3
set_option maxRecDepth 10000
set_option linter.unusedVariables false
set_option linter.unusedSimpArgs false
open Go.IntKind (wrap i64 i32 i16 i8 u64 u32 u16 u8)
open List (getD length take drop replicate)
open Int (toNat)
open Go.Ev.Sp
set_option linter.unusedSimpArgs false
set_option linter.unusedVariables false
namespace Go.Ev
open Go
set_option maxRecDepth 100000
set_option maxHeartbeats 4000000
theorem pgl_w{f0:FlT}:∀(ws:List Int)(a:Nat){t:RsT},SG f0 t->t.2.2.1=0->W32l ws->a+ws.length<=f0.1.length->(∀i,a<=i->i<a+ws.length->t.1.1.getD i 0=4294967295)->(Sp.dol (Sp.pgl ws a) t).2.2.1=0->
 SG f0 (Sp.dol (Sp.pgl ws a) t)/\(∀i,a<=i->i<a+ws.length->(Sp.dol (Sp.pgl ws a) t).1.1.getD i 0=ws.getD (i-a) 0)/\(∀i,i<a\/a+ws.length<=i->(Sp.dol (Sp.pgl ws a) t).1.1.getD i 0=t.1.1.getD i 0)
 |[],a,t,g,e,hw,hl,hb,h0=>⟨g,fun i h1 h2=>by rw[List.length_nil]at h2;omega,fun _ _=>rfl⟩
 |w::ws,a,t,g,e,hw,hl,hb,h0=>by
  rw[List.length_cons]at hl hb
  have hw0:=hw w (List.mem_cons_self ..)
  rw[Sp.pgl,Sp.dol,if_pos e]at h0⊢
  have es:Sp.dop t (false,(a:Int),w,())=Sp.prg t.1 a w t.2.1:=by
   unfold Sp.dop
   dsimp only
   rw[if_neg Bool.false_ne_true,Int.toNat_natCast]
  rw[es,show(a:Int)+1=((a+1:Nat):Int) by push_cast;rfl]at h0⊢
  have g2:=prg_sg g a w
  have e2:(Sp.prg t.1 a w t.2.1).2.2.1=0:=by
   rcases g2.e with z|z
   ·exact z
   ·exfalso
    rw[dol_stop _ (by rw[z];decide),z]at h0
    exact absurd h0 (by decide)
  have hf:=prg_b hw0.1 hw0.2 (by rw[g.l];omega) (hb a (Nat.le_refl _) (by omega)) e2
  have gt:∀i,(Sp.prg t.1 a w t.2.1).1.1.getD i 0=if a=i then w else t.1.1.getD i 0:=fun i=>by
   rw[hf];exact getD_set _ _ _ _ _ (by rw[g.l];omega)
  obtain⟨r1,r2,r3⟩:=pgl_w ws (a+1) g2 e2 (fun x hx=>hw x (List.mem_cons_of_mem _ hx)) (by omega) (fun i h1 h2=>by rw[gt,if_neg (by omega)];exact hb i (by omega) (by omega)) h0
  refine⟨r1,fun i h1 h2=> ?_,fun i hi=> ?_⟩
  ·rw[List.length_cons]at h2
   by_cases c:i=a
   ·rw[r3 i (by omega),gt,if_pos c.symm,c,Nat.sub_self];rfl
   ·rw[r2 i (by omega) (by omega)]
    obtain⟨d,rfl⟩:∃d,i=a+(d+1):=⟨i-a-1,by omega⟩
    rw[show a+(d+1)-(a+1)=d by omega,show a+(d+1)-a=d+1 by omega]
    rfl
  ·rw[List.length_cons]at hi
   rw[r3 i (by omega),gt,if_neg (by omega)]
theorem nmb_rcd{key:Int}{d:List Int}(h0:0<=key)(h1:key<=254)(hd:d.length<=24):Sp.nmb (Sp.prw (256*key+d.length))=(key*256+(d.length:Int),true):=by
 rw[(prw_b (n:=256*key+d.length) (by omega) (by omega)).2.2,Int.mul_comm]
theorem getD_mid(a b:List Int)(i:Nat):(a++b).getD (a.length+i) 0=b.getD i 0:=by
 rw[List.getD_eq_getElem?_getD,List.getD_eq_getElem?_getD,List.getElem?_append_right (by omega),show a.length+i-a.length=i by omega]
theorem put_end{acc:List EnT}{key:Int}(h:Asc acc)(hk:∀i,i<acc.length->(acc.getD i Sp.dE).1<key)(d:List Int):Sp.putE acc key d=acc++[(key,d,())]:=by
 have pe:Sp.plE acc key=acc.length:=by
  have:=plE_le acc key
  by_cases c:Sp.plE acc key<acc.length
  ·have a1:=(plE_at h key).2 _ (Nat.le_refl _) c
   have a2:=hk _ c
   omega
  ·omega
 have sk:skE acc key=0:=by unfold skE;rw[if_neg (fun z=>by have:=z.1;omega)]
 rw[putE_eq,sk,pe,List.take_length,Nat.add_zero,List.drop_length,List.append_nil]
theorem rdl_rcs(k:Nat):∀(post acc:List EnT)(hd:List Int)(f:Nat),Asc (acc++post)->KOK post->
 ∀l,l=hd++(Sp.rcs post++replicate k 4294967295)->post.length<f->Sp.rdl l f hd.length acc=(hd.length+(Sp.rcs post).length,acc++post)
 |[],acc,hd,f,ha,hk,l,hl,hf=>by
  obtain⟨f,rfl⟩:∃j,f=j+1:=⟨f-1,by simp at hf;omega⟩
  have hl:l=hd++replicate k 4294967295:=hl
  have:¬(hd.length<l.length/\(Sp.nmb (l.getD hd.length 0)).2=true):=fun z=>by
   rw[hl,List.length_append,List.length_replicate]at z
   have e:=getD_mid hd (replicate k 4294967295) 0
   rw[Nat.add_zero]at e
   rw[e,List.getD_eq_getElem?_getD,List.getElem?_replicate,if_pos (by omega)]at z
   exact absurd z.2 (by decide)
  rw[Sp.rdl,if_neg (fun z=>this ⟨z.1,z.2.1⟩),List.append_nil]
  rfl
 |e::post,acc,hd,f,ha,hk,l,hl,hf=>by
  obtain⟨f,rfl⟩:∃j,f=j+1:=⟨f-1,by simp at hf;omega⟩
  obtain⟨key,d,⟨⟩⟩:=e
  have hk1:=hk _ (List.mem_cons_self ..)
  dsimp only at hk1
  obtain⟨⟨k0,k1⟩,kd,kw⟩:=hk1
  have rl:=rcd_len key d
  have e0:Sp.rcs ((key,d,())::post)=Sp.rcd key d++Sp.rcs post:=by unfold Sp.rcs;rw[List.flatMap_cons]
  have hl2:l=hd++(Sp.rcd key d++(Sp.rcs post++replicate k 4294967295)):=by rw[hl,e0,List.append_assoc]
  have g:∀i,i<d.length+2->l.getD (hd.length+i) 0=(Sp.rcd key d).getD i 0:=fun i hi=>by
   rw[hl2,getD_mid,List.getD_eq_getElem?_getD,List.getD_eq_getElem?_getD,List.getElem?_append_left (by omega)]
  have ll:l.length=hd.length+(d.length+2+((Sp.rcs post).length+k)):=by
   rw[hl2,List.length_append,List.length_append,List.length_append,List.length_replicate,rl]
  have w0:l.getD hd.length 0=Sp.prw (256*key+d.length):=by
   have:=g 0 (by omega)
   rw[Nat.add_zero]at this
   rw[this];rfl
  have hD:HD l hd.length d.length key true:=⟨by rw[w0];exact nmb_rcd k0 k1 kd,by omega,k0,by omega⟩
  have dr:drop hd.length l=Sp.rcd key d++(Sp.rcs post++replicate k 4294967295):=by rw[hl2,List.drop_left]
  have tk:take (d.length+1) (drop hd.length l)=[Sp.prw (256*key+d.length)]++d:=by
   rw[dr]
   unfold Sp.rcd
   rw[List.append_assoc ([_]++d)]
   exact List.take_left' (by rw[List.length_append,List.length_singleton];omega)
  have td:take d.length (drop (hd.length+1) l)=d:=by
   rw[<-List.drop_drop,dr]
   unfold Sp.rcd
   rw[List.append_assoc,List.append_assoc,List.singleton_append,List.drop_one,List.tail_cons]
   exact List.take_left' rfl
  have w1:l.getD (hd.length+d.length+1) 0=Sp.prw (Sp.smw ([Sp.prw (256*key+d.length)]++d)):=by
   rw[Nat.add_assoc,g (d.length+1) (by omega)]
   unfold Sp.rcd
   have e:=getD_mid ([Sp.prw (256*key+d.length)]++d) [Sp.prw (Sp.smw ([Sp.prw (256*key+d.length)]++d))] 0
   rw[List.length_append,List.length_singleton,Nat.add_zero,Nat.add_comm 1]at e
   rw[e];rfl
  have sb:=smw_b ([Sp.prw (256*key+d.length)]++d) 0 (by decide) (by decide)
  have n1:Sp.nmb (Sp.prw (Sp.smw ([Sp.prw (256*key+d.length)]++d)))=(Sp.smw ([Sp.prw (256*key+d.length)]++d),true):=(prw_b (n:=Sp.smw ([Sp.prw (256*key+d.length)]++d)) sb.1 sb.2).2.2
  have ac:Asc acc:=fun i j h1 h2=>by
   have:=ha i j h1 (by rw[List.length_append];omega)
   rw[List.getD_eq_getElem?_getD,List.getD_eq_getElem?_getD,List.getElem?_append_left (by omega),List.getElem?_append_left h2,<-List.getD_eq_getElem?_getD,<-List.getD_eq_getElem?_getD]at this
   exact this
  have pe:=put_end (key:=key) ac (fun i hi=>by
   have:=ha i acc.length hi (by rw[List.length_append,List.length_cons];omega)
   rw[List.getD_eq_getElem?_getD,List.getD_eq_getElem?_getD,List.getElem?_append_left hi,List.getElem?_append_right (Nat.le_refl _),Nat.sub_self,<-List.getD_eq_getElem?_getD]at this
   exact this) d
  rw[rdl_s hD,if_pos ⟨by omega,rfl,k1,kd,by omega⟩,w1,n1,tk,if_pos ⟨rfl,rfl⟩,td,pe]
  have ih:=rdl_rcs k post (acc++[(key,d,())]) (hd++Sp.rcd key d) f (by rw[List.append_assoc];exact ha) (fun x hx=>hk x (List.mem_cons_of_mem _ hx)) l (by rw[hl2,List.append_assoc]) (by rw[List.length_cons]at hf;omega)
  rw[List.length_append,rl]at ih
  rw[show hd.length+d.length+2=hd.length+(d.length+2) by omega,ih,e0,List.length_append,rl,List.append_assoc]
  refine Prod.ext (by dsimp only;omega) rfl
theorem rcs_w:∀ {es:List EnT},KOK es->W32l (Sp.rcs es)
 |[],_=>fun x hx=>by cases hx
 |e::es,h=>fun x hx=>by
  unfold Sp.rcs at hx
  rw[List.flatMap_cons]at hx
  rcases List.mem_append.1 hx with hx|hx
  ·have he:=h e (List.mem_cons_self ..)
   unfold Sp.rcd at hx
   rcases List.mem_append.1 hx with hx|hx
   ·exact rcd_w he.1.1 he.1.2 he.2.1 he.2.2 x hx
   ·rw[List.mem_singleton.1 hx]
    have sb:=smw_b ([Sp.prw (256*e.1+e.2.1.length)]++e.2.1) 0 (by decide) (by decide)
    have:=prw_b (n:=Sp.smw ([Sp.prw (256*e.1+e.2.1.length)]++e.2.1)) sb.1 sb.2
    exact⟨this.1,this.2.1⟩
  ·exact rcs_w (fun y hy=>h y (List.mem_cons_of_mem _ hy)) x hx
theorem col_ok{m:MeT}(hw:W32f m.1)(hm:Sp.mvl m=true){es:List EnT}(hk:KOK es)(ha:Asc es)(hl:es.length<=600){p:PwT}(h0:0<=p.1)(h1:p.1<=1099511627776)(hz:1+(Sp.rcs es).length<=Sp.hsz m)(hwo:Sp.wor m.1 (Sp.hc m) (Sp.frs m)=false)(hg:Sp.gnr m (Sp.acv m)≠65535)
 (s:RsT) (hs:s=Sp.dol (Sp.cst m es) (m.1,p,0,())) (e0:s.2.2.1=0):SG m.1 s/\Sp.mvl (s.1,m.2)=true/\Sp.ent (s.1,m.2)=es/\Sp.acv (s.1,m.2)=Sp.oh m/\(Sp.rdv (Sp.hwr (s.1,m.2) (Sp.acv (s.1,m.2)))).2.2.1=(Sp.hsz m:Int)-(1+(Sp.rcs es).length):=by
 obtain⟨hv,hp,hac⟩:=mvl_d hm
 obtain⟨p1,p2,p3,p4,p5⟩:=plc_iff.1 hp
 have ob:=oh_b hv hp
 have b:=pl_b hv hp
 have v:=fv_iff.1 hv
 have bo:=pl_k hv hp ob.1
 have gb:=gnr_b hw (Sp.acv m)
 have E:=erl_b (f0:=m.1) (a:=Sp.frs m) (Sp.hc m) 0 (EB.init hv hw h0 h1 (Sp.frs m)) (by omega) (by rw[Nat.add_zero];exact hwo)
 rw[Nat.add_zero,Nat.zero_add]at E
 unfold Sp.cst at hs
 rw[List.append_assoc,dol_app,dol_app,dol_one]at hs
 generalize Sp.dol (Sp.erl (Sp.hc m) (Sp.frs m)) (m.1,p,0,())=t at E hs
 rw[show(Sp.hbs m (Sp.oh m):Int)+1=((Sp.hbs m (Sp.oh m)+1:Nat):Int) by push_cast;rfl]at hs
 generalize hu:Sp.dol (Sp.pgl (Sp.rcs es) ((Sp.hbs m (Sp.oh m)+1:Nat):Int)) t=u at hs
 have eu:u.2.2.1=0:=by
  by_cases c:u.2.2.1=0
  ·exact c
  ·rw[if_neg c]at hs
   rw[hs]at e0
   exact absurd e0 c
 have et:t.2.2.1=0:=by
  by_cases c:t.2.2.1=0
  ·exact c
  ·rw[dol_stop _ c]at hu
   rw[hu]at c
   exact absurd eu c
 have tb:=E.b et
 have W:=pgl_w (f0:=m.1) (Sp.rcs es) (Sp.hbs m (Sp.oh m)+1) E.g et (rcs_w hk) (by omega) (fun i h1 h2=>tb i (by omega) (by omega)) (by rw[hu];exact eu)
 rw[hu]at W
 obtain⟨gu,ui,uo⟩:=W
 rw[if_pos eu]at hs
 have hs:s=Sp.prg u.1 (Sp.hbs m (Sp.oh m)) (Sp.prw (Sp.gnr m (Sp.acv m)+1)) u.2.1:=by
  rw[hs]
  unfold Sp.dop
  dsimp only
  rw[if_neg Bool.false_ne_true,Int.toNat_natCast]
 have G:=prg_sg gu (Sp.hbs m (Sp.oh m)) (Sp.prw (Sp.gnr m (Sp.acv m)+1))
 rw[<-hs]at G
 have pw:=prw_b (n:=Sp.gnr m (Sp.acv m)+1) (by omega) (by omega)
 have ub:u.1.1.getD (Sp.hbs m (Sp.oh m)) 0=4294967295:=by
  rw[uo _ (by omega)]
  exact tb _ (by omega) (by omega)
 have hf:=prg_b (p:=u.2.1) pw.1 pw.2.1 (by rw[gu.l];omega) ub (by rw[<-hs];exact e0)
 rw[<-hs]at hf
 have gs:∀i,s.1.1.getD i 0=if Sp.hbs m (Sp.oh m)=i then Sp.prw (Sp.gnr m (Sp.acv m)+1)else u.1.1.getD i 0:=fun i=>by
  rw[hf];exact getD_set _ _ _ _ _ (by rw[gu.l];omega)
 have hp2:Sp.plc (s.1,m.2)=true:=plc_iff.2 ⟨p1,p2,p3,p4,(by dsimp only;rw[G.n];exact p5)⟩
 have bs:∀k,Sp.hbs (s.1,m.2) k=Sp.hbs m k:=fun _=>rfl
 have zs:Sp.hsz (s.1,m.2)=Sp.hsz m:=rfl
 have nl:=hwr_len (m:=(s.1,m.2)) G.v hp2 ob.1
 have old:Sp.hwr (s.1,m.2) (Sp.acv m)=Sp.hwr m (Sp.acv m):=by
  have l1:=hwr_len (m:=(s.1,m.2)) G.v hp2 (acv_lt m)
  have l2:=hwr_len hv hp (acv_lt m)
  refine list_ext 0 (by rw[l1,l2];rfl) (fun i hi=> ?_)
  rw[l1,zs]at hi
  have out:Sp.hbs m (Sp.acv m)+i<64*Sp.frs m\/64*(Sp.frs m+Sp.hc m)<=Sp.hbs m (Sp.acv m)+i:=by
   have ha:=acv_lt m
   have hbe:Sp.hbs m (Sp.acv m)=64*m.2.1.toNat+Sp.acv m*Sp.hsz m:=rfl
   have hbo:Sp.hbs m (Sp.oh m)=64*m.2.1.toNat+Sp.oh m*Sp.hsz m:=rfl
   have oe:Sp.oh m=1-Sp.acv m:=rfl
   match hh:Sp.acv m,ha with
   |0,_=>
    rw[hh]at oe hbe
    have o2:Sp.oh m*Sp.hsz m=Sp.hsz m:=by rw[show Sp.oh m=1 from oe,Nat.one_mul]
    left;omega
   |1,_=>
    rw[hh]at oe hbe
    have o2:Sp.oh m*Sp.hsz m=0:=by rw[show Sp.oh m=0 from oe,Nat.zero_mul]
    right;omega
  rw[<-hwr_at (m:=(s.1,m.2)) G.v hp2 (acv_lt m) hi,<-hwr_at hv hp (acv_lt m) hi,bs,gs,if_neg (by omega),uo _ (by omega)]
  exact E.o _ out
 have new:Sp.hwr (s.1,m.2) (Sp.oh m)=[Sp.prw (Sp.gnr m (Sp.acv m)+1)]++(Sp.rcs es++replicate (Sp.hsz m-(1+(Sp.rcs es).length)) 4294967295):=by
  refine list_ext 0 (by rw[nl,zs,List.length_append,List.length_append,List.length_replicate,List.length_singleton];omega) (fun i hi=> ?_)
  rw[nl,zs]at hi
  rw[<-hwr_at (m:=(s.1,m.2)) G.v hp2 ob.1 hi,bs,gs]
  cases i with
  |zero=>rw[Nat.add_zero,if_pos rfl];rfl
  |succ i=>
   rw[if_neg (by omega)]
   show _=(Sp.rcs es++replicate (Sp.hsz m-(1+(Sp.rcs es).length)) 4294967295).getD i 0
   by_cases c:i<(Sp.rcs es).length
   ·rw[ui _ (by omega) (by omega),show Sp.hbs m (Sp.oh m)+(i+1)-(Sp.hbs m (Sp.oh m)+1)=i by omega,List.getD_eq_getElem?_getD,List.getD_eq_getElem?_getD,List.getElem?_append_left c]
   ·rw[uo _ (by omega),tb _ (by omega) (by omega),List.getD_eq_getElem?_getD,List.getElem?_append_right (by omega),List.getElem?_replicate,if_pos (by omega)]
    rfl
 have gO:Sp.gnr (s.1,m.2) (Sp.oh m)=Sp.gnr m (Sp.acv m)+1:=by
  have w:(Sp.hwr (s.1,m.2) (Sp.oh m)).getD 0 0=Sp.prw (Sp.gnr m (Sp.acv m)+1):=by rw[new];rfl
  show(bif(Sp.nmb ((Sp.hwr (s.1,m.2) (Sp.oh m)).getD 0 0)).2 then(Sp.nmb ((Sp.hwr (s.1,m.2) (Sp.oh m)).getD 0 0)).1 else 0)=_
  rw[w,pw.2.2];rfl
 have gA:Sp.gnr (s.1,m.2) (Sp.acv m)=Sp.gnr m (Sp.acv m):=by unfold Sp.gnr;rw[old]
 have av:Sp.acv (s.1,m.2)=Sp.oh m/\Sp.acb (s.1,m.2)=true:=by
  have ha:=acv_lt m
  have oe:Sp.oh m=1-Sp.acv m:=rfl
  match hh:Sp.acv m,ha with
  |0,_=>
   rw[hh]at oe gO gA gb
   have oe:Sp.oh m=1:=oe
   rw[oe]at gO⊢
   unfold Sp.acv Sp.acb
   rw[gO,gA,decide_eq_true (by omega)]
   exact⟨rfl,rfl⟩
  |1,_=>
   rw[hh]at oe gO gA gb
   have oe:Sp.oh m=0:=oe
   rw[oe]at gO⊢
   unfold Sp.acv Sp.acb
   rw[gO,gA,decide_eq_false (by omega),decide_eq_true (p:=Sp.gnr m 1+1>0) (by omega)]
   exact⟨rfl,rfl⟩
 have R:=rdl_rcs (Sp.hsz m-(1+(Sp.rcs es).length)) es [] [Sp.prw (Sp.gnr m (Sp.acv m)+1)] (Sp.hwr (s.1,m.2) (Sp.oh m)).length (by rw[List.nil_append];exact ha) hk _ new (by
  rw[nl,zs]
  have:∀ {es:List EnT},2*es.length<=(Sp.rcs es).length:=by
   intro es
   induction es with
   |nil=>exact Nat.zero_le _
   |cons e es ih=>
    unfold Sp.rcs at ih⊢
    rw[List.flatMap_cons,List.length_append,rcd_len,List.length_cons]
    omega
  have:= @this es
  omega)
 rw[List.length_singleton,List.nil_append]at R
 refine⟨G,?_,?_,av.1,?_⟩
 ·unfold Sp.mvl;rw[G.v,hp2,av.2];rfl
 ·unfold Sp.ent Sp.rdv
  rw[av.1,R]
 ·unfold Sp.rdv
  rw[av.1,R]
  dsimp only
  have bk:Sp.blk (Sp.hwr (s.1,m.2) (Sp.oh m)) (1+(Sp.rcs es).length)=true:=by
   unfold Sp.blk
   rw[new,<-List.append_assoc,List.drop_left' (by rw[List.length_append,List.length_singleton]),List.all_replicate]
   split<;>rfl
  rw[bk,if_pos rfl,nl,zs]
  push_cast
  rfl
theorem prg_o{f:FlT}{k:Nat}{w:Int}{p:PwT}{i:Nat}(h:i≠k):(Sp.prg f k w p).1.1.getD i 0=f.1.getD i 0:=by
 have q:∀b,(Sp.pw f k w b).1.getD i 0=f.1.getD i 0:=fun b=>by
  unfold Sp.pw
  dsimp only
  rw[List.getD_eq_getElem?_getD,List.getElem?_set_ne (Ne.symm h),<-List.getD_eq_getElem?_getD]
 unfold Sp.prg
 split
 ·rfl
 split
 ·exact q _
 ·exact q _
theorem pgl_o:∀(ws:List Int)(a:Nat)(s:RsT)(i:Nat),i<a\/a+ws.length<=i->(Sp.dol (Sp.pgl ws a) s).1.1.getD i 0=s.1.1.getD i 0
 |[],_,_,_,_=>rfl
 |w::ws,a,s,i,h=>by
  rw[List.length_cons]at h
  rw[Sp.pgl,Sp.dol]
  split
  ·rw[show(a:Int)+1=((a+1:Nat):Int) by push_cast;rfl,pgl_o ws (a+1) _ i (by omega)]
   unfold Sp.dop
   dsimp only
   rw[if_neg Bool.false_ne_true,Int.toNat_natCast]
   exact prg_o (by omega)
  ·rfl
theorem pg_o{m:MeT}(hw:W32f m.1)(hm:Sp.mvl m=true){key:Int}{d:List Int}(h:((Sp.rcd key d).length:Int)<=Sp.frl m){p:PwT}(s:RsT)(g:SG m.1 s)(hp2:Sp.plc (s.1,m.2)=true)(hs:s=Sp.dol (Sp.pgl (Sp.rcd key d) ((Sp.hbs m (Sp.acv m):Int)+(Sp.rdv (Sp.hwr m (Sp.acv m))).2.1)) (m.1,p,0,())) :
 ∀k,k<2->∀i,i<Sp.hsz m->(i:Int)<(Sp.rdv (Sp.hwr m (Sp.acv m))).2.1\/k≠Sp.acv m\/(Sp.rdv (Sp.hwr m (Sp.acv m))).2.1+((Sp.rcd key d).length:Int)<=i->(Sp.hwr (s.1,m.2) k).getD i 0=(Sp.hwr m k).getD i 0:=by
 intro k hk i hz hi
 obtain⟨hv,hp,_⟩:=mvl_d hm
 have b:=pl_b hv hp
 have fb:=frl_b hw hm
 have rl:=rcd_len key d
 have ps:(Sp.hbs m (Sp.acv m):Int)+(Sp.rdv (Sp.hwr m (Sp.acv m))).2.1=((Sp.hbs m (Sp.acv m)+(Sp.rdv (Sp.hwr m (Sp.acv m))).2.1.toNat:Nat):Int):=by omega
 have al:=acv_lt m
 rw[<-hwr_at (m:=(s.1,m.2)) g.v hp2 hk (i:=i) hz,<-hwr_at hv hp hk (i:=i) hz,show Sp.hbs (s.1,m.2) k=Sp.hbs m k from rfl,hs,ps]
 refine pgl_o _ _ _ _ ?_
 have hbe:Sp.hbs m (Sp.acv m)=64*m.2.1.toNat+Sp.acv m*Sp.hsz m:=rfl
 have hbk:Sp.hbs m k=64*m.2.1.toNat+k*Sp.hsz m:=rfl
 have hl:((Sp.rcd key d).length:Int)<=(Sp.hsz m:Int)-(Sp.rdv (Sp.hwr m (Sp.acv m))).2.1:=by
  rcases fb.2.2 with q|q
  ·omega
  ·omega
 generalize (Sp.rdv (Sp.hwr m (Sp.acv m))).2.1=e at *
 generalize Sp.hbs m (Sp.acv m)=ba at *
 generalize Sp.hbs m k=bk at *
 generalize (Sp.rcd key d).length=n at *
 rw[hbe,hbk]
 rcases Nat.lt_or_ge k 1 with c1|c1
 ·have k0:k=0:=by omega
  subst k0
  rcases Nat.lt_or_ge (Sp.acv m) 1 with c2|c2
  ·have a0:Sp.acv m=0:=by omega
   rw[a0]at hi⊢
   rw[Nat.zero_mul]
   omega
  ·have a1:Sp.acv m=1:=by omega
   rw[a1,Nat.zero_mul,Nat.one_mul]
   omega
 ·have k1:k=1:=by omega
  subst k1
  rcases Nat.lt_or_ge (Sp.acv m) 1 with c2|c2
  ·have a0:Sp.acv m=0:=by omega
   rw[a0,Nat.zero_mul,Nat.one_mul]
   omega
  ·have a1:Sp.acv m=1:=by omega
   rw[a1]at hi⊢
   rw[Nat.one_mul]
   omega
theorem pg_g{m:MeT}(hw:W32f m.1)(hm:Sp.mvl m=true){key:Int}{d:List Int}(h:((Sp.rcd key d).length:Int)<=Sp.frl m){p:PwT}(s:RsT)(g:SG m.1 s)(hs:s=Sp.dol (Sp.pgl (Sp.rcd key d) ((Sp.hbs m (Sp.acv m):Int)+(Sp.rdv (Sp.hwr m (Sp.acv m))).2.1)) (m.1,p,0,())) :
 Sp.plc (s.1,m.2)=true/\Sp.mvl (s.1,m.2)=true/\Sp.acv (s.1,m.2)=Sp.acv m:=by
 obtain⟨hv,hp,hac⟩:=mvl_d hm
 obtain⟨p1,p2,p3,p4,p5⟩:=plc_iff.1 hp
 have b:=pl_b hv hp
 have fb:=frl_b hw hm
 have hp2:Sp.plc (s.1,m.2)=true:=plc_iff.2 ⟨p1,p2,p3,p4,(by dsimp only;rw[g.n];exact p5)⟩
 have gn:∀k,k<2->Sp.gnr (s.1,m.2) k=Sp.gnr m k:=fun k hk=>by unfold Sp.gnr;rw[pg_o hw hm h s g hp2 hs k hk 0 (by omega) (by omega)]
 refine⟨hp2,?_,?_⟩
 ·unfold Sp.mvl Sp.acb at *
  rw[gn 0 (by omega),gn 1 (by omega)]
  dsimp only
  rw[g.v,hp2,hac]
  rfl
 ·unfold Sp.acv
  rw[gn 0 (by omega),gn 1 (by omega)]
theorem wr_ok{m:MeT}(hw:W32f m.1)(hm:Sp.mvl m=true){key:Int}{d:List Int}(k0:0<=key)(k1:key<=254)(k2:d.length<=24)(hd:W32l d){p:PwT}(h0:0<=p.1)(h1:p.1<=1099511627776)(c:(Sp.wrs m key d).2.1=0)
 (s:RsT) (hs:s=Sp.dol (Sp.wrs m key d).1 (m.1,p,0,())) (e0:s.2.2.1=0):SG m.1 s/\Sp.mvl (s.1,m.2)=true:=by
 have g:=(wrs_sv hw hm c).2 p h0 h1
 rw[<-hs]at g
 refine⟨g,?_⟩
 obtain⟨hv,hp,hac⟩:=mvl_d hm
 revert c hs
 unfold Sp.wrs
 split
 ·rename_i h
  intro _ hs
  exact(pg_g hw hm h s g hs).2.1
 ·intro c hs
  have s1:=cov_sv hv hp c
  rw[s1.1]at hs
  have eb:=ent_b hw hm
  have el:=ent_l hw hm
  have kp:=eb.1.put (key:=key) (by omega) (by omega) (data:=d) (by omega) hd
  have pl:=putE_len (Sp.ent m) key d
  have ha:Asc (Sp.ent m):=(rlog_pv hw hv hp (acv_lt m)).2
  have c2:=c
  unfold Sp.cov at c2
  split at c2
  ·cases c2
  split at c2
  ·cases c2
  split at c2
  ·cases c2
  rename_i z1 z2 z3
  exact(col_ok hw hm kp (ha.put key d) (by omega) h0 h1 (by omega) s1.2.1 z3 s hs e0).2.1
theorem rdl_ge(l:List Int):∀(f i:Nat)(es:List EnT),i<=(Sp.rdl l f i es).1
 |0,_,_=>Nat.le_refl _
 |f+1,i,es=>by
  rw[Sp.rdl]
  split
  ·refine Nat.le_trans ?_ (rdl_ge l f _ _)
   omega
  ·exact Nat.le_refl _
theorem rdl_fu(l:List Int):∀(f g i:Nat)(es:List EnT),l.length-i<=f->l.length-i<=g->Sp.rdl l f i es=Sp.rdl l g i es
 |0,0,_,_,_,_=>rfl
 |0,g+1,i,es,h,_=>by rw[Sp.rdl,Sp.rdl,if_neg (fun z=>by omega)]
 |f+1,0,i,es,_,h=>by rw[Sp.rdl,Sp.rdl,if_neg (fun z=>by omega)]
 |f+1,g+1,i,es,h,h2=>by
  rw[Sp.rdl,Sp.rdl]
  split
  ·exact rdl_fu l f g _ _ (by omega) (by omega)
  ·rfl
theorem sub_eq{l l':List Int}(hl:l'.length=l.length){a n:Nat}(h:∀j,a<=j->j<a+n->l'.getD j 0=l.getD j 0):take n (drop a l')=take n (drop a l):=by
 refine list_ext 0 (by simp only[List.length_take,List.length_drop,hl]) (fun i hi=> ?_)
 rw[List.length_take,List.length_drop]at hi
 have e:∀x:List Int,(take n (drop a x)).getD i 0=x.getD (a+i) 0:=fun x=>by
  rw[List.getD_eq_getElem?_getD,List.getElem?_take,if_pos (by omega),List.getElem?_drop,<-List.getD_eq_getElem?_getD]
 rw[e,e]
 exact h _ (by omega) (by omega)
theorem rdl_ext{l l':List Int}(hw:W32l l)(hl:l'.length=l.length):∀(f i:Nat)(es:List EnT),(∀j,j<(Sp.rdl l f i es).1->l'.getD j 0=l.getD j 0)->Sp.rdl l' l'.length i es=Sp.rdl l' l'.length (Sp.rdl l f i es).1 (Sp.rdl l f i es).2
 |0,_,_,_=>rfl
 |f+1,i,es,h=>by
  obtain⟨n,k,ok,hd⟩:=hd_at hw i
  revert h
  rw[rdl_s hd]
  split
  rotate_left
  ·intro _;rfl
  rename_i c
  intro h
  have ge:=rdl_ge l f (i+n+2) (if(Sp.nmb (l.getD (i+n+1) 0)).2=true/\(Sp.nmb (l.getD (i+n+1) 0)).1=Sp.smw (take (n+1) (drop i l))then Sp.putE es k (take n (drop (i+1) l))else es)
  rw[<-rdl_ext hw hl f _ _ h]
  obtain⟨q,hq⟩:∃q,l'.length=q+1:=⟨l'.length-1,by omega⟩
  have hd':HD l' i n k ok:=⟨by rw[h i (by omega)];exact hd.e,hd.n,hd.k0,hd.k1⟩
  rw[rdl_fu l' l'.length (q+1) i es (by omega) (by omega),rdl_s hd',if_pos ⟨by omega,c.2.1,c.2.2.1,c.2.2.2.1,by omega⟩,h (i+n+1) (by omega),sub_eq hl (a:=i) (n:=n+1) (fun j h1 h2=>h j (by omega)),sub_eq hl (a:=i+1) (n:=n) (fun j h1 h2=>h j (by omega))]
  exact rdl_fu l' _ _ _ _ (by omega) (by omega)
theorem rdl_end{l:List Int}{i:Nat}(h:i<l.length->l.getD i 0=4294967295):∀(f:Nat)(es:List EnT),Sp.rdl l f i es=(i,es)
 |0,_=>rfl
 |f+1,es=>by
  rw[Sp.rdl,if_neg (fun z=>by rw[h z.1]at z;exact absurd z.2.1 (by decide))]
theorem drop_get(l:List Int)(a i:Nat):(drop a l).getD i 0=l.getD (a+i) 0:=by
 rw[List.getD_eq_getElem?_getD,List.getElem?_drop,<-List.getD_eq_getElem?_getD]
theorem rdl_one{l:List Int}{e:Nat}{key:Int}{d:List Int}(k0:0<=key)(k1:key<=254)(k2:d.length<=24)(hl:e+d.length+2<=l.length)(hr:∀i,i<d.length+2->l.getD (e+i) 0=(Sp.rcd key d).getD i 0)(hb:e+d.length+2<l.length->l.getD (e+d.length+2) 0=4294967295)(acc:List EnT) :
 Sp.rdl l l.length e acc=(e+d.length+2,Sp.putE acc key d):=by
 have rl:=rcd_len key d
 obtain⟨q,hq⟩:∃q,l.length=q+1:=⟨l.length-1,by omega⟩
 have w0:l.getD e 0=Sp.prw (256*key+d.length):=by
  have:=hr 0 (by omega)
  rw[Nat.add_zero]at this
  rw[this];rfl
 have hD:HD l e d.length key true:=⟨by rw[w0];exact nmb_rcd k0 k1 k2,by omega,k0,by omega⟩
 have dr:drop e l=Sp.rcd key d++drop (e+d.length+2) l:=by
  refine list_ext 0 (by rw[List.length_append,List.length_drop,List.length_drop,rl];omega) (fun i hi=> ?_)
  rw[List.length_drop]at hi
  rw[drop_get]
  by_cases c:i<d.length+2
  ·rw[hr i c,List.getD_eq_getElem?_getD,List.getD_eq_getElem?_getD,List.getElem?_append_left (by omega)]
  ·have q:(Sp.rcd key d++drop (e+d.length+2) l).getD i 0=(drop (e+d.length+2) l).getD (i-(Sp.rcd key d).length) 0:=by
    rw[List.getD_eq_getElem?_getD,List.getElem?_append_right (by omega),<-List.getD_eq_getElem?_getD]
   rw[q,drop_get,rl]
   congr 1
   omega
 have tk:take (d.length+1) (drop e l)=[Sp.prw (256*key+d.length)]++d:=by
  rw[dr]
  unfold Sp.rcd
  rw[List.append_assoc ([_]++d)]
  exact List.take_left' (by rw[List.length_append,List.length_singleton];omega)
 have td:take d.length (drop (e+1) l)=d:=by
  rw[<-List.drop_drop,dr]
  unfold Sp.rcd
  rw[List.append_assoc,List.append_assoc,List.singleton_append,List.drop_one,List.tail_cons]
  exact List.take_left' rfl
 have w1:l.getD (e+d.length+1) 0=Sp.prw (Sp.smw ([Sp.prw (256*key+d.length)]++d)):=by
  rw[Nat.add_assoc,hr (d.length+1) (by omega)]
  unfold Sp.rcd
  have e:=getD_mid ([Sp.prw (256*key+d.length)]++d) [Sp.prw (Sp.smw ([Sp.prw (256*key+d.length)]++d))] 0
  rw[List.length_append,List.length_singleton,Nat.add_zero,Nat.add_comm 1]at e
  rw[e];rfl
 have sb:=smw_b ([Sp.prw (256*key+d.length)]++d) 0 (by decide) (by decide)
 have n1:Sp.nmb (Sp.prw (Sp.smw ([Sp.prw (256*key+d.length)]++d)))=(Sp.smw ([Sp.prw (256*key+d.length)]++d),true):=(prw_b (n:=Sp.smw ([Sp.prw (256*key+d.length)]++d)) sb.1 sb.2).2.2
 rw[rdl_fu l l.length (q+1) e acc (by omega) (by omega),rdl_s hD,if_pos ⟨by omega,rfl,k1,k2,by omega⟩,w1,n1,tk,if_pos ⟨rfl,rfl⟩,td]
 exact rdl_end hb _ _
theorem blk_at{l:List Int}{e:Nat}(h:Sp.blk l e=true){i:Nat}(h1:e<=i)(h2:i<l.length):l.getD i 0=4294967295:=by
 unfold Sp.blk at h
 rw[List.all_eq_true]at h
 have:=h (l.getD i 0) (by
  rw[List.mem_iff_getElem]
  refine⟨i-e,by rw[List.length_drop];omega,?_⟩
  rw[List.getElem_drop,getD_at 0 h2]
  congr 1
  omega)
 exact beq_iff_eq.1 this
theorem wr_ent{m:MeT}(hw:W32f m.1)(hm:Sp.mvl m=true){key:Int}{d:List Int}(k0:0<=key)(k1:key<=254)(k2:d.length<=24)(hd:W32l d){p:PwT}(h0:0<=p.1)(h1:p.1<=1099511627776)(c:(Sp.wrs m key d).2.1=0)
 (s:RsT) (hs:s=Sp.dol (Sp.wrs m key d).1 (m.1,p,0,())) (e0:s.2.2.1=0):Sp.ent (s.1,m.2)=Sp.putE (Sp.ent m) key d:=by
 have g:=(wrs_sv hw hm c).2 p h0 h1
 rw[<-hs]at g
 obtain⟨hv,hp,hac⟩:=mvl_d hm
 have b:=pl_b hv hp
 revert c hs
 unfold Sp.wrs
 split
 ·rename_i h
  intro _ hs
  dsimp only at hs
  obtain⟨hp2,hm2,ha2⟩:=pg_g hw hm h s g hs
  have fb:=frl_b hw hm
  have rl:=rcd_len key d
  have al:=acv_lt m
  have bk:=pl_k hv hp al
  obtain⟨q1,q2⟩:Sp.frl m=(Sp.hsz m:Int)-(Sp.rdv (Sp.hwr m (Sp.acv m))).2.1/\Sp.blk (Sp.hwr m (Sp.acv m)) (Sp.rdl (Sp.hwr m (Sp.acv m)) (Sp.hwr m (Sp.acv m)).length 1 []).1=true:=by
   rcases fb.2.2 with q|q
   ·exact q
   ·omega
  have hwl:W32l (Sp.hwr m (Sp.acv m)):=hw.half (Sp.acv m)
  have po:=pg_o hw hm h s g hp2 hs (Sp.acv m) al
  have ln:=hwr_len hv hp al
  have ln2:=hwr_len (m:=(s.1,m.2)) g.v hp2 al
  have ee:(Sp.rdv (Sp.hwr m (Sp.acv m))).2.1=((Sp.rdl (Sp.hwr m (Sp.acv m)) (Sp.hwr m (Sp.acv m)).length 1 []).1:Int):=rfl
  have en:Sp.ent m=(Sp.rdl (Sp.hwr m (Sp.acv m)) (Sp.hwr m (Sp.acv m)).length 1 []).2:=rfl
  have en2:Sp.ent (s.1,m.2)=(Sp.rdl (Sp.hwr (s.1,m.2) (Sp.acv m)) (Sp.hwr (s.1,m.2) (Sp.acv m)).length 1 []).2:=by
   unfold Sp.ent Sp.rdv
   rw[ha2]
  have zs:Sp.hsz (s.1,m.2)=Sp.hsz m:=rfl
  rw[zs]at ln2
  rw[ee]at hs fb q1 po
  have W:=pgl_w (f0:=m.1) (Sp.rcd key d) (Sp.hbs m (Sp.acv m)+(Sp.rdl (Sp.hwr m (Sp.acv m)) (Sp.hwr m (Sp.acv m)).length 1 []).1) (SG.init hv hw h0 h1) rfl
   (fun x hx=>by
    unfold Sp.rcd at hx
    rcases List.mem_append.1 hx with hx|hx
    ·exact rcd_w k0 k1 k2 hd x hx
    ·rw[List.mem_singleton.1 hx]
     have sb:=smw_b ([Sp.prw (256*key+d.length)]++d) 0 (by decide) (by decide)
     have:=prw_b (n:=Sp.smw ([Sp.prw (256*key+d.length)]++d)) sb.1 sb.2
     exact⟨this.1,this.2.1⟩)
   (by omega)
   (fun i i1 i2=>by
    obtain⟨j,rfl⟩:∃j,i=Sp.hbs m (Sp.acv m)+j:=⟨i-Sp.hbs m (Sp.acv m),by omega⟩
    show m.1.1.getD _ 0=_
    rw[hwr_at hv hp al (by omega)]
    exact blk_at q2 (by omega) (by omega))
   (by rw[Int.natCast_add,<-hs];exact e0)
  rw[Int.natCast_add,<-hs]at W
  rw[en2,rdl_ext hwl (by rw[ln,ln2]) (Sp.hwr m (Sp.acv m)).length 1 [] (fun j hj=>po j (by omega) (by omega)),<-en]
  have:=rdl_one (l:=Sp.hwr (s.1,m.2) (Sp.acv m)) (e:=(Sp.rdl (Sp.hwr m (Sp.acv m)) (Sp.hwr m (Sp.acv m)).length 1 []).1) k0 k1 k2 (by omega)
   (fun i hi=>by
    rw[<-hwr_at (m:=(s.1,m.2)) g.v hp2 al (by omega),show Sp.hbs (s.1,m.2) (Sp.acv m)=Sp.hbs m (Sp.acv m)from rfl,<-Nat.add_assoc,W.2.1 _ (by omega) (by omega)]
    congr 1
    omega)
   (fun z=>by
    rw[po _ (by omega) (by omega)]
    exact blk_at q2 (by omega) (by omega)) (Sp.ent m)
  rw[this]
 ·intro c hs
  have s1:=cov_sv hv hp c
  rw[s1.1]at hs
  have eb:=ent_b hw hm
  have el:=ent_l hw hm
  have kp:=eb.1.put (key:=key) (by omega) (by omega) (data:=d) (by omega) hd
  have pl:=putE_len (Sp.ent m) key d
  have ha:Asc (Sp.ent m):=(rlog_pv hw hv hp (acv_lt m)).2
  have c2:=c
  unfold Sp.cov at c2
  split at c2
  ·cases c2
  split at c2
  ·cases c2
  split at c2
  ·cases c2
  rename_i z1 z2 z3
  exact(col_ok hw hm kp (ha.put key d) (by omega) h0 h1 (by omega) s1.2.1 z3 s hs e0).2.2.1
abbrev CfT:=Int×Int×Int×Int×Int×Int×Bool×Int×Unit
abbrev FaT:=Int×Int×Int×Int×Int×List Int×Int×Unit
abbrev FsT:=List CfT×List FaT×Int×Bool×Unit
namespace Sp
noncomputable def inr(x l h:Int):Bool:=decide (x>=l)&&decide (x<=h)
noncomputable def cfg(c:CfT):Bool:=inr c.1 1 16777215&&(inr c.2.1 1 100&&(inr c.2.2.1 1 100&&(inr c.2.2.2.1 1 100&&(inr c.2.2.2.2.1 c.2.2.2.1 255&&(inr c.2.2.2.2.2.1 0 255&&inr c.2.2.2.2.2.2.2.1 0 8)))))
noncomputable def val(x:Int):Bool:=inr x (-1099511627776) 1099511627776
noncomputable def vals(l:List Int):Bool:=(List.range l.length).all fun j=>val (l.getD j 0)
noncomputable def bt(f:FaT)(k:Int):Bool:=andI .i64 f.1 k==k
noncomputable def kno(f:FaT):Bool:=decide (f.2.2.2.2.1>=1)&&(decide (f.2.2.1>=1)&&decide (f.2.2.2.2.2.2.1>=1))
noncomputable def unk(f:FaT):Bool:=(f.2.2.1==0)&&((f.2.2.2.1==0)&&((f.2.2.2.2.1==0)&&(f.2.2.2.2.2.2.1==0)))
noncomputable def q2(f:FaT):Bool:= !(bt f 2&&(f.2.2.2.1 !=0))
noncomputable def q1(c:CfT)(f:FaT):Bool:=(bt f 4==(f.2.2.1==2))&&(!bt f 16||(bt f 4&&c.2.2.2.2.2.2.1))
noncomputable def q0(cyc:Int)(f:FaT):Bool:= !bt f 1||((bt f 2&&bt f 8)&&(f.2.2.2.2.2.2.1==cyc))
noncomputable def rngs(c:CfT)(f:FaT)(cyc:Int):Bool:=inr f.1 0 31&&(inr f.2.1 (0-c.2.2.1) c.2.1&&(inr f.2.2.1 0 2&&(inr f.2.2.2.1 0 (c.2.2.2.2.1-1)&&(inr f.2.2.2.2.1 0 255&&inr f.2.2.2.2.2.2.1 0 cyc))))
noncomputable def frq(c:CfT)(f:FaT):Bool:=(((f.2.2.2.2.2.1.length:Int)==0)||((f.2.2.2.2.2.1.length:Int)==c.2.2.2.2.2.2.2.1))&&vals f.2.2.2.2.2.1
noncomputable def fin(c:CfT)(f:FaT):Bool:=bif bt f 2||bt f 4 then kno f&&((f.2.2.2.2.2.1.length:Int)==c.2.2.2.2.2.2.2.1)else unk f&&((f.2.2.2.2.2.1.length:Int)==0)
noncomputable def rgt(c:CfT)(f:FaT)(cyc:Int):Bool:=rngs c f cyc&&(frq c f&&((q0 cyc f&&(q1 c f&&q2 f))&&fin c f))
end Sp
theorem inr_iff{x l h:Int}:Sp.inr x l h=true↔l<=x/\x<=h:=by simp[Sp.inr]
theorem wit_ok(x l h:Int):F_84 x l h=some (Sp.inr x l h,()):=by
 unfold F_84 Sp.inr
 cases decide (x>=l)<;>rfl
theorem wit_pv(x l h:Int):p_84 x l h=true/\v_84 x l h=(Sp.inr x l h,()):=pv_84 x l h (wit_ok x l h)
theorem cfg_ok(c:CfT):F_117 c=some (Sp.cfg c,()):=by
 unfold F_117 Sp.cfg
 simp only[wit_pv,gd_tt]
 cases Sp.inr c.1 1 16777215<;>try rfl
 cases Sp.inr c.2.1 1 100<;>try rfl
 cases Sp.inr c.2.2.1 1 100<;>try rfl
 cases Sp.inr c.2.2.2.1 1 100<;>try rfl
 cases Sp.inr c.2.2.2.2.1 c.2.2.2.1 255<;>try rfl
 cases Sp.inr c.2.2.2.2.2.1 0 255<;>rfl
theorem cfg_pv(c:CfT):p_117 c=true/\v_117 c=(Sp.cfg c,()):=pv_117 c (cfg_ok c)
theorem has_pv(f:FaT)(k:Int):p_119 f k=true/\v_119 f k=(Sp.bt f k,()):=pv_119 f k rfl
theorem tab(P:Int->Bool)(h:(List.range 32).all (fun n=>P (n:Int))=true){s:Int}(h0:0<=s)(h1:s<=31):P s=true:=by
 obtain⟨n,rfl⟩:=Int.eq_ofNat_of_zero_le h0
 rw[List.all_eq_true]at h
 exact h n (by rw[List.mem_range];omega)
theorem bt_ne{s:Int}(h0:0<=s)(h1:s<=31):((Sp.andI .i64 s 1 !=0)=(Sp.andI .i64 s 1==1)/\(Sp.andI .i64 s 2 !=0)=(Sp.andI .i64 s 2==2)/\(Sp.andI .i64 s 4 !=0)=(Sp.andI .i64 s 4==4))/\((Sp.andI .i64 s 8 !=0)=(Sp.andI .i64 s 8==8)/\(Sp.andI .i64 s 16 !=0)=(Sp.andI .i64 s 16==16))/\(Sp.andI .i64 s 10==10)=((Sp.andI .i64 s 2==2)&&(Sp.andI .i64 s 8==8))/\(Sp.andI .i64 s 6 !=0)=((Sp.andI .i64 s 2==2)||(Sp.andI .i64 s 4==4)):=by
 have:=tab (fun s=>((((Sp.andI .i64 s 1 !=0)==(Sp.andI .i64 s 1==1))&&((Sp.andI .i64 s 2 !=0)==(Sp.andI .i64 s 2==2))&&((Sp.andI .i64 s 4 !=0)==(Sp.andI .i64 s 4==4))))&&((((Sp.andI .i64 s 8 !=0)==(Sp.andI .i64 s 8==8))&&((Sp.andI .i64 s 16 !=0)==(Sp.andI .i64 s 16==16))))&&((Sp.andI .i64 s 10==10)==((Sp.andI .i64 s 2==2)&&(Sp.andI .i64 s 8==8)))&&((Sp.andI .i64 s 6 !=0)==((Sp.andI .i64 s 2==2)||(Sp.andI .i64 s 4==4)))) (by decide+kernel) h0 h1
 simp only[Bool.and_eq_true,beq_iff_eq]at this
 exact⟨⟨this.1.1.1.1.1,this.1.1.1.1.2,this.1.1.1.2⟩,this.1.1.2,this.1.2,this.2⟩
set_option maxRecDepth 100000
set_option maxHeartbeats 4000000
namespace Sp
noncomputable def wi(x h:Int):Bool:=decide (x>=0)&&decide (x<=h)
noncomputable def bval(x:Int):Bool:=decide (x>= -1099511627776)&&decide (x<=1099511627776)
noncomputable def bvals(l:List Int):Bool:=(fnd (fun j=> !bval (l.getD j 0)) l.length 0).isNone
noncomputable def good(f:FaT):Bool:=wi f.1 31&&(wi f.2.2.1 2&&(wi f.2.2.2.1 254&&(wi f.2.2.2.2.1 255&&(wi f.2.2.2.2.2.2.1 1073741824&&(decide ((f.2.2.2.2.2.1.length:Int)<=8)&&bvals f.2.2.2.2.2.1)))))
noncomputable def flat:List Int->List Int
 |[]=>[]
 |v::l=>((v+1099511627776)/4294967296)::((v+1099511627776)%4294967296)::flat l
noncomputable def unflat:List Int->List Int
 |a::b::l=>(a*4294967296+b-1099511627776)::unflat l
 |_=>[]
noncomputable def hdr(f:FaT):Int:=andI .i64 f.1 22+256*f.2.2.1+65536*f.2.2.2.1+16777216*f.2.2.2.2.1
noncomputable def wpk(f:FaT):List Int:=[hdr f,f.2.2.2.2.2.2.1,(f.2.2.2.2.2.1.length:Int)]++flat f.2.2.2.2.2.1
noncomputable def xof(l:List Int):FaT:=(andI .i64 (l.getD 0 0) 255,0,andI .i64 (Int.fdiv (l.getD 0 0) 256) 255,andI .i64 (Int.fdiv (l.getD 0 0) 65536) 255,Int.fdiv (l.getD 0 0) 16777216,unflat (l.drop 3),l.getD 1 0,())
noncomputable def cond(l:List Int):Bool:= !decide ((l.length:Int)<3)&&(!decide (l.getD 2 0>8)&&(((l.length:Int)==3+2*l.getD 2 0)&&(!decide (l.getD 1 0>1073741824)&&((andnI .i64 (andI .i64 (l.getD 0 0) 255) 22==0)&&((fnd (fun j=>decide (l.getD (3+2*j) 0>512)) (l.getD 2 0).toNat 0).isNone&&good (xof l))))))
end Sp
theorem aw:F_7=some (true,()):=by kernel_rfl
theorem aw_pv:p_7=true/\v_7=(true,()):=pv_7 aw
theorem wi_pv(x h:Int):p_72 x h=true/\v_72 x h=(Sp.wi x h,()):=by
 refine pv_72 x h ?_
 unfold F_72 Sp.wi
 cases decide (x>=0)<;>rfl
theorem bval_pv(x:Int):p_75 x=true/\v_75 x=(Sp.bval x,()):=by
 refine pv_75 x ?_
 unfold F_75 Sp.bval
 cases decide (x>= -1099511627776)<;>rfl
theorem wi_iff{x h:Int}:Sp.wi x h=true↔0<=x/\x<=h:=by simp[Sp.wi]
theorem bvals_iff{l:List Int}:Sp.bvals l=true↔∀x∈l,-1099511627776<=x/\x<=1099511627776:=by
 unfold Sp.bvals
 rw[Option.isNone_iff_eq_none,fnd_none]
 constructor
 ·intro h x hx
  obtain⟨j,hj,rfl⟩:=List.getElem_of_mem hx
  have:=h j (by omega) (by omega)
  rw[getD_at 0 hj]at this
  simpa[Sp.bval]using this
 ·intro h j _ hj
  have hj:j<l.length:=by omega
  rw[getD_at 0 hj]
  have:=h l[j] (List.getElem_mem hj)
  simpa[Sp.bval]using this
theorem good_iff{f:FaT}:Sp.good f=true↔(0<=f.1/\f.1<=31)/\(0<=f.2.2.1/\f.2.2.1<=2)/\(0<=f.2.2.2.1/\f.2.2.2.1<=254)/\(0<=f.2.2.2.2.1/\f.2.2.2.2.1<=255)/\(0<=f.2.2.2.2.2.2.1/\f.2.2.2.2.2.2.1<=1073741824)/\f.2.2.2.2.2.1.length<=8/\∀x∈f.2.2.2.2.2.1,-1099511627776<=x/\x<=1099511627776:=by
 simp only[Sp.good,Bool.and_eq_true,wi_iff,decide_eq_true_eq,bvals_iff]
 constructor<;>rintro⟨a,b,c,d,e,g,h⟩<;>exact⟨a,b,c,d,e,by omega,h⟩
theorem and_mod{n:Int}(k:Nat)(hk:k<=40)(h0:0<=n)(h1:n<4611686018427387904):Sp.andI .i64 n (((2^k-1:Nat):Int))=n%((2^k:Nat):Int):=by
 obtain⟨a,rfl⟩:=Int.eq_ofNat_of_zero_le h0
 have ha:a<2^62:=by
  have:(2:Nat)^62=4611686018427387904:=by decide
  omega
 have hb:(2:Nat)^k<=2^40:=Nat.pow_le_pow_right (by decide) hk
 have hb2:(2:Nat)^40<2^62:=by decide
 rw[andI_nat 62 (by decide) ha (by omega),Nat.and_two_pow_sub_one_eq_mod,Int.natCast_emod]
theorem and_255{n:Int}(h0:0<=n)(h1:n<4611686018427387904):Sp.andI .i64 n 255=n%256:=and_mod 8 (by decide) h0 h1
theorem and_32{n:Int}(h0:0<=n)(h1:n<4611686018427387904):Sp.andI .i64 n 4294967295=n%4294967296:=and_mod 32 (by decide) h0 h1
theorem or_sum{a b:Int}(k:Nat)(hk:k<=30)(h0:0<=a)(h1:a<((2^k:Nat):Int))(h2:0<=b)(h3:b<1024):Sp.orI .i64 a (b*((2^k:Nat):Int))=a+b*((2^k:Nat):Int):=by
 obtain⟨x,rfl⟩:=Int.eq_ofNat_of_zero_le h0
 obtain⟨y,rfl⟩:=Int.eq_ofNat_of_zero_le h2
 have hb:(2:Nat)^k<=2^30:=Nat.pow_le_pow_right (by decide) hk
 have e30:(2:Nat)^30=1073741824:=by decide
 have e62:(2:Nat)^62=4611686018427387904:=by decide
 have hxy:y*2^k<=1024*1073741824:=Nat.mul_le_mul (by omega) (by omega)
 have hx:x<2^k:=by exact_mod_cast h1
 rw[<-Int.natCast_mul,orI_nat 62 (by decide) (by omega) (by omega),Nat.or_comm,or_add k hx]
 push_cast
 omega
theorem btab(P:Int->Bool)(N:Nat)(h:(List.range N).all (fun n=>P (n:Int))=true){s:Int}(h0:0<=s)(h1:s<N):P s=true:=by
 obtain⟨n,rfl⟩:=Int.eq_ofNat_of_zero_le h0
 rw[List.all_eq_true]at h
 exact h n (by rw[List.mem_range];omega)
theorem st_22{s:Int}(h0:0<=s)(h1:s<=31):0<=Sp.andI .i64 s 22/\Sp.andI .i64 s 22<=31/\Sp.andnI .i64 (Sp.andI .i64 s 22) 22=0/\Sp.andI .i64 (Sp.andI .i64 s 22) 22=Sp.andI .i64 s 22:=by
 have:=btab (fun s=>decide (0<=Sp.andI .i64 s 22/\Sp.andI .i64 s 22<=31/\Sp.andnI .i64 (Sp.andI .i64 s 22) 22=0/\Sp.andI .i64 (Sp.andI .i64 s 22) 22=Sp.andI .i64 s 22)) 32 (by decide+kernel) h0 (by omega)
 exact of_decide_eq_true this
theorem pfl_len:∀l:List Int,(Sp.flat l).length=2*l.length
 |[]=>rfl
 |_::l=>by simp only[Sp.flat,List.length_cons,pfl_len l];omega
theorem flat_app:∀a b:List Int,Sp.flat (a++b)=Sp.flat a++Sp.flat b
 |[],_=>rfl
 |v::a,b=>by simp[Sp.flat,flat_app a b]
theorem unflat_flat:∀ {l:List Int},Sp.unflat (Sp.flat l)=l
 |[]=>rfl
 |v::l=>by
  simp only[Sp.flat,Sp.unflat,unflat_flat (l:=l)]
  congr 1
  omega
theorem upfl_len:∀(n:Nat)(l:List Int),l.length=2*n->(Sp.unflat l).length=n
 |0,[],_=>rfl
 |n+1,a::b::l,h=>by
  have:=upfl_len n l (by simp only[List.length_cons]at h;omega)
  simp[Sp.unflat,this]
 |0,_::_,h=>by simp at h
 |n+1,[],h=>by simp at h
 |n+1,[_],h=>by exfalso;simp only[List.length_cons,List.length_nil]at h;omega
theorem unflat_snoc:∀(k:Nat)(t:List Int),2*k+1<t.length->Sp.unflat (t.take (2*(k+1)))=Sp.unflat (t.take (2*k))++[t.getD (2*k) 0*4294967296+t.getD (2*k+1) 0-1099511627776]
 |0,a::b::t,_=>by simp[Sp.unflat]
 |k+1,a::b::t,h=>by
  have ih:=unflat_snoc k t (by simp only[List.length_cons]at h;omega)
  rw[show 2*(k+1+1)=2*(k+1)+1+1 by omega,List.take_succ_cons,List.take_succ_cons,show 2*(k+1)=2*k+1+1 by omega,List.take_succ_cons,List.take_succ_cons,Sp.unflat,Sp.unflat,show 2*k+1+1=2*(k+1) by omega,ih]
  rw[show 2*(k+1)=2*k+1+1 by omega]
  simp[List.getD_eq_getElem?_getD]
 |0,[],h=>by simp at h
 |0,[_],h=>by simp at h
 |k+1,[],h=>by simp at h
 |k+1,[_],h=>by exfalso;simp only[List.length_cons,List.length_nil]at h;omega
theorem hdr_ok{f:FaT}(h:Sp.good f=true):wrap .u32 (Sp.orI .i64 (Sp.orI .i64 (Sp.orI .i64 (Sp.andI .i64 f.1 (22:Int)) (wrap .i64 (f.2.2.1*(256:Int)))) (wrap .i64 (f.2.2.2.1*(65536:Int)))) (wrap .i64 (f.2.2.2.2.1*(16777216:Int))))=Sp.hdr f:=by
 obtain⟨h1,h2,h3,h4,h5,h6,h7⟩:=good_iff.1 h
 have hs:=st_22 h1.1 h1.2
 unfold Sp.hdr
 rw[wi64 (n:=f.2.2.1*256) (by omega) (by omega),wi64 (n:=f.2.2.2.1*65536) (by omega) (by omega),wi64 (n:=f.2.2.2.2.1*16777216) (by omega) (by omega)]
 generalize Sp.andI .i64 f.1 22=s at *
 have e1:Sp.orI .i64 s (f.2.2.1*256)=s+f.2.2.1*256:=or_sum 8 (by decide) hs.1 (by omega) h2.1 (by omega)
 have e2:Sp.orI .i64 (s+f.2.2.1*256) (f.2.2.2.1*65536)=s+f.2.2.1*256+f.2.2.2.1*65536:=or_sum 16 (by decide) (by omega) (by omega) h3.1 (by omega)
 have e3:Sp.orI .i64 (s+f.2.2.1*256+f.2.2.2.1*65536) (f.2.2.2.2.1*16777216)=s+f.2.2.1*256+f.2.2.2.1*65536+f.2.2.2.2.1*16777216:=or_sum 24 (by decide) (by omega) (by omega) h4.1 (by omega)
 rw[e1,e2,e3,wu32' (by omega) (by omega)]
 omega
theorem pack_loop(fr base:List Int)(hv:∀x∈fr,-1099511627776<=x/\x<=1099511627776)(hl:fr.length<=8)(hb:base.length<=3):L_34_0 4611686018427387904 fr fr.length 0 base=some (.e0 (base++Sp.flat fr)):=by
 have h:=run0 (fun m i o=>L_34_0 m fr fr.length i o) (n:=fr.length) (fun j=>base++Sp.flat (fr.take j)) (r:=some (.e0 (base++Sp.flat fr))) (by omega) (fun m j hj=>by
  show L_34_0 (m+1) fr fr.length (j:Int) (base++Sp.flat (fr.take j))=L_34_0 m fr fr.length ((j+1:Nat):Int) (base++Sp.flat (fr.take (j+1)))
  have hlen:(base++Sp.flat (fr.take j)).length<=100:=by
   rw[List.length_append,pfl_len,List.length_take];omega
  have hx:fr.getD j 0=fr[j]:=getD_at 0 hj
  have hvj:=hv fr[j] (List.getElem_mem hj)
  rw[List.take_succ_eq_append_getElem hj,flat_app,L_34_0,S_34_0,cond_dtt (by omega),gd_inB (by omega) (by omega),Int.toNat_natCast,hx]
  generalize fr[j]=v at *
  rw[<-List.append_assoc]
  generalize base++Sp.flat (fr.take j)=o at *
  rw[gd_room (by omega) (by omega),gd_room (by rw[List.length_append,List.length_singleton];omega) (by rw[List.length_append,List.length_singleton];omega),wi64 (n:=v+1099511627776) (by omega) (by omega),wi64 (n:=(j:Int)+1) (by omega) (by omega),Int.fdiv_eq_ediv_of_nonneg _ (by decide),and_32 (by omega) (by omega),wu32' (n:=(v+1099511627776)/4294967296) (by omega) (by omega),wu32' (n:=(v+1099511627776)%4294967296) (by omega) (by omega)]
  push_cast
  simp[Sp.flat,List.append_assoc]) (fun m=>by
  show L_34_0 (m+1) fr fr.length fr.length (base++Sp.flat (fr.take fr.length))=_
  rw[L_34_0,S_34_0,cond_dff (by omega),List.take_length])
 simpa[Sp.flat]using h
theorem pack_ok(f:FaT):F_34 f=some (bif Sp.good f then(Sp.wpk f,0,())else([],1,())):=by
 cases hg:Sp.good f
 ·
  have hg2:=hg
  unfold Sp.good at hg2
  unfold F_34
  simp only[wi_pv,gd_tt]
  cases h1:Sp.wi f.1 31
  ·rfl
  cases h2:Sp.wi f.2.2.1 2
  ·rfl
  cases h3:Sp.wi f.2.2.2.1 254
  ·rfl
  cases h4:Sp.wi f.2.2.2.2.1 255
  ·rfl
  cases h5:Sp.wi f.2.2.2.2.2.2.1 1073741824
  ·rfl
  simp only[Bool.not_true,cond_f]
  by_cases h6:(f.2.2.2.2.2.1.length:Int)>8
  ·rw[cond_dtt h6]
  rw[h1,h2,h3,h4,h5,decide_eq_true (by omega)]at hg2
  simp only[Bool.true_and]at hg2
  unfold Sp.bvals at hg2
  have hf:=find0 (fun m i=>L_34_114_0_0 m f.2.2.2.2.2.1 f.2.2.2.2.2.1.length i f) (n:=f.2.2.2.2.2.1.length) (fun j=> !Sp.bval (f.2.2.2.2.2.1.getD j 0)) (ex:=fun j=>some (.e0 (j:Int) f)) (e1:=some (.e1 f)) (by omega) (fun m j hj=>by
   show L_34_114_0_0 (m+1) f.2.2.2.2.2.1 f.2.2.2.2.2.1.length j f=bif !Sp.bval (f.2.2.2.2.2.1.getD j 0)then some (.e0 (j:Int) f)else L_34_114_0_0 m f.2.2.2.2.2.1 f.2.2.2.2.2.1.length ((j+1:Nat):Int) f
   rw[L_34_114_0_0,S_34_114_0_0,cond_dtt (by omega),gd_inB (by omega) (by omega),Int.toNat_natCast,(bval_pv _).1,(bval_pv _).2,gd_tt,wi64 (by omega) (by omega)]
   push_cast
   rfl) (fun m=>by
   show L_34_114_0_0 (m+1) f.2.2.2.2.2.1 f.2.2.2.2.2.1.length f.2.2.2.2.2.1.length f=_
   rw[L_34_114_0_0,S_34_114_0_0,cond_dff (by omega)])
  rw[cond_dff h6,hf]
  cases hk:fnd (fun j=> !Sp.bval (f.2.2.2.2.2.1.getD j 0)) f.2.2.2.2.2.1.length 0 with
  |none=>rw[hk]at hg2;cases hg2
  |some k=>
   simp only[B_34_114_0_0]
   rw[cond_dtt (by omega)]
 ·obtain⟨h1,h2,h3,h4,h5,h6,h7⟩:=good_iff.1 hg
  unfold F_34
  simp only[wi_pv,gd_tt]
  rw[wi_iff.2 h1,wi_iff.2 h2,wi_iff.2 h3,wi_iff.2 h4,wi_iff.2 h5]
  simp only[Bool.not_true,cond_f]
  have hf:=run0 (fun m i(_:Unit)=>L_34_114_0_0 m f.2.2.2.2.2.1 f.2.2.2.2.2.1.length i f) (n:=f.2.2.2.2.2.1.length) (fun _=>()) (r:=some (.e1 f)) (by omega) (fun m j hj=>by
   show L_34_114_0_0 (m+1) f.2.2.2.2.2.1 f.2.2.2.2.2.1.length j f=L_34_114_0_0 m f.2.2.2.2.2.1 f.2.2.2.2.2.1.length ((j+1:Nat):Int) f
   have hvj:=h7 f.2.2.2.2.2.1[j] (List.getElem_mem hj)
   rw[L_34_114_0_0,S_34_114_0_0,cond_dtt (by omega),gd_inB (by omega) (by omega),Int.toNat_natCast,(bval_pv _).1,(bval_pv _).2,gd_tt,getD_at 0 hj,wi64 (by omega) (by omega)]
   have hv:Sp.bval f.2.2.2.2.2.1[j]=true:=by simp[Sp.bval,hvj]
   rw[hv]
   push_cast
   rfl) (fun m=>by
   show L_34_114_0_0 (m+1) f.2.2.2.2.2.1 f.2.2.2.2.2.1.length f.2.2.2.2.2.1.length f=_
   rw[L_34_114_0_0,S_34_114_0_0,cond_dff (by omega)])
  have hf':L_34_114_0_0 4611686018427387904 f.2.2.2.2.2.1 f.2.2.2.2.2.1.length 0 f=_:=hf
  rw[cond_dff (by omega),hf']
  simp only[B_34_114_0_0]
  rw[hdr_ok hg,wu32' (n:=f.2.2.2.2.2.2.1) (by omega) (by omega),wu32' (n:=(f.2.2.2.2.2.1.length:Int)) (by omega) (by omega),pack_loop _ _ h7 h6 (by simp)]
  rfl
theorem pack_pv(f:FaT):p_34 f=true/\v_34 f=(bif Sp.good f then(Sp.wpk f,0,())else([],1,())):=pv_34 f (pack_ok f)
set_option maxRecDepth 100000
set_option maxHeartbeats 4000000
set_option linter.unusedVariables false
noncomputable section
abbrev A_106:List Ty:=[(.pair (.int .i64) (.pair (.int .i64) (.pair (.int .i64) (.pair (.int .i64) (.pair (.int .i64) (.pair (.slice (.int .i64)) (.pair (.int .i64) .unit)))))))]
abbrev R_106:List Ty:=[(.slice (.int .u32))]
noncomputable def sm_106:Nat->Option Summ:=smL []
noncomputable def T_106_0:PS:=⟨53,[(1,.kc (.ptr 0 [])),(3,.kc (.whole 1)),(4,.hv (.int .i64))],[.mem (.hv (.pair (.int .i64) (.pair (.int .i64) (.pair (.int .i64) (.pair (.int .i64) (.pair (.int .i64) (.pair (.slice (.int .i64)) (.pair (.int .i64) .unit)))))))),.vec 51 (.int .u32)],0⟩
inductive Sp.E_106_0 where
 |e0 (p2:List Int)
noncomputable def Sp.B_106_0{R:Type}(r:Option E_106_0)(k0:List Int->Option R):Option R:=match r with
 |none=>none
 |some (.e0 p2)=>k0 p2
noncomputable def Y_106_0{R:Type}(k:Ex->St->Option R):E_106_0->Option R
 | .e0 p2=>k (Ex.exit 0) (sx 53 [(3,CV.whole 0)] [Blk.vec 51 (Ty.int u32) p2])
noncomputable def Sp.S_106_0{R:Type}(K:Int->(Int×Int×Int×Int×Int×List Int×Int×Unit)->List Int->Option R)(k:E_106_0->Option R)(p0:Int)(p1:Int×Int×Int×Int×Int×List Int×Int×Unit)(p2:List Int):Option R:=
 bif decide (p0<(↑(length (p1.2.2.2.2.2.1)):Int))then gd (inB p0 (length (p1.2.2.2.2.2.1))) (gd (room (length p2+2) 4) (K (wrap i64 (p0+1)) p1 (p2++[wrap u32 (Int.fdiv (wrap i64 (getD (p1.2.2.2.2.2.1) (toNat p0) (0:Int)+(1099511627776:Int))) 4294967296),wrap u32 (Int.tmod (wrap i64 (getD (p1.2.2.2.2.2.1) (toNat p0) (0:Int)+(1099511627776:Int))) 4294967296)])))else k (E_106_0.e0 p2)
noncomputable def Sp.L_106_0:Nat->Int->(Int×Int×Int×Int×Int×List Int×Int×Unit)->List Int->Option E_106_0
 |0,_,_,_=>none
 |m+1,p0,p1,p2=>S_106_0 (L_106_0 m) some p0 p1 p2
noncomputable def l_106_0(m:Nat)(a:T_106_0.E):Option E_106_0:=L_106_0 m a.1 a.2.1 a.2.2.1
noncomputable def O_106_0{R:Type}:Orc R:=orL T_106_0 (l_106_0 FU) Y_106_0
noncomputable def F_106(a0:(Int×(Int×(Int×(Int×(Int×((List Int)×(Int×Unit)))))))):Option ((List Int)×Unit) :=
 B_106_0 (L_106_0 4611686018427387904 0 a0 [wrap u32 (wrap i64 (wrap i64 (wrap i64 (Sp.andI i64 (a0.1) 22+wrap i64 (a0.2.2.1*256))+wrap i64 (a0.2.2.2.1*65536))+wrap i64 (a0.2.2.2.2.1*16777216))),wrap u32 (a0.2.2.2.2.2.2.1),wrap u32 (↑(length (a0.2.2.2.2.2.1)):Int)]) fun y1=>some (y1,PUnit.unit)
noncomputable def Sp.p_106(a0:(Int×(Int×(Int×(Int×(Int×((List Int)×(Int×Unit)))))))):Bool:=(F_106 a0).isSome
noncomputable def Sp.v_106(a0:(Int×(Int×(Int×(Int×(Int×((List Int)×(Int×Unit)))))))):(List Int)×Unit:=(F_106 a0).getD (dfH R_106)
noncomputable def s_106:Summ:=shS A_106 R_106 (fun x=>p_106 x.1) (fun x=>v_106 x.1)
end
noncomputable def Sp.zeroF:FaT:=(0,0,0,0,0,[],0,())
noncomputable section
abbrev A_87:List Ty:=[(.pair (.pair (.slice (.int .u32)) (.pair (.slice (.int .i64)) (.pair (.int .i64) .unit))) (.pair (.int .i64) (.pair (.int .i64) .unit)))]
abbrev R_87:List Ty:=[(.slice (.pair (.int .i64) (.pair (.slice (.int .u32)) .unit)))]
noncomputable def sm_87:Nat->Option Summ:=smL [(50,s_50),(99,s_99)]
noncomputable def F_87(a0:(((List Int)×((List Int)×(Int×Unit)))×(Int×(Int×Unit)))):Option ((List (Int×((List Int)×Unit)))×Unit) :=
 gd (p_50 a0) (gd (p_99 a0 ((v_50 a0).1)) (some ((v_99 a0 ((v_50 a0).1)).1,PUnit.unit)))
noncomputable def Sp.p_87(a0:(((List Int)×((List Int)×(Int×Unit)))×(Int×(Int×Unit)))):Bool:=(F_87 a0).isSome
noncomputable def Sp.v_87(a0:(((List Int)×((List Int)×(Int×Unit)))×(Int×(Int×Unit)))):(List (Int×((List Int)×Unit)))×Unit:=(F_87 a0).getD (dfH R_87)
noncomputable def s_87:Summ:=shS A_87 R_87 (fun x=>p_87 x.1) (fun x=>v_87 x.1)
end
noncomputable section
abbrev A_51:List Ty:=[(.pair (.pair (.slice (.int .u32)) (.pair (.slice (.int .i64)) (.pair (.int .i64) .unit))) (.pair (.int .i64) (.pair (.int .i64) .unit))),(.int .i64)]
abbrev R_51:List Ty:=[(.slice (.int .u32)),.bool]
noncomputable def sm_51:Nat->Option Summ:=smL [(87,s_87)]
noncomputable def T_51_0:PS:=⟨28,[(1,.hv (.int .i64)),(6,.hv (.slice (.pair (.int .i64) (.pair (.slice (.int .u32)) .unit)))),(7,.hv (.int .i64))],[],0⟩
inductive Sp.E_51_0 where
 |e0 (p1:List (Int×List Int×Unit)) (p2:Int)
 |e1
noncomputable def Sp.B_51_0{R:Type}(r:Option E_51_0)(k0:(List (Int×List Int×Unit))->Int->Option R)(k1:Option R):Option R:=match r with
 |none=>none
 |some (.e0 p1 p2)=>k0 p1 p2
 |some (.e1)=>k1
noncomputable def Y_51_0{R:Type}(k:Ex->St->Option R):E_51_0->Option R
 | .e0 p1 p2=>k Ex.ret (sx 28 [(4,CV.pure (Ty.slice (Ty.int u32)) (((getD p1 (toNat p2) Zd2).2.1):(List Int))),(5,CV.bool true)] [])
 | .e1=>k (Ex.exit 0) (sx 28 [] [])
noncomputable def Sp.S_51_0{R:Type}(K:Int->(List (Int×List Int×Unit))->Int->Option R)(k:E_51_0->Option R)(p0:Int)(p1:List (Int×List Int×Unit))(p2:Int):Option R:=
 bif decide (p2<(↑(length p1):Int))then gd (inB p2 (length p1)) (bif(getD p1 (toNat p2) Zd2).1==p0 then gd (inB p2 (length p1)) (k (E_51_0.e0 p1 p2))else K p0 p1 (wrap i64 (p2+1)))else k (E_51_0.e1)
noncomputable def Sp.L_51_0:Nat->Int->(List (Int×List Int×Unit))->Int->Option E_51_0
 |0,_,_,_=>none
 |m+1,p0,p1,p2=>S_51_0 (L_51_0 m) some p0 p1 p2
noncomputable def l_51_0(m:Nat)(a:T_51_0.E):Option E_51_0:=L_51_0 m a.1 a.2.1 a.2.2.1
noncomputable def O_51_0{R:Type}:Orc R:=orL T_51_0 (l_51_0 FU) Y_51_0
noncomputable def F_51(a0:(((List Int)×((List Int)×(Int×Unit)))×(Int×(Int×Unit))))(a1:Int):Option ((List Int)×Bool×Unit) :=
 gd (p_87 a0) (B_51_0 (L_51_0 4611686018427387904 a1 ((v_87 a0).1) 0) (fun y2 y3=>some ((getD y2 (toNat y3) Zd2).2.1,true,PUnit.unit)) (some ([],false,PUnit.unit)))
noncomputable def Sp.p_51(a0:(((List Int)×((List Int)×(Int×Unit)))×(Int×(Int×Unit))))(a1:Int):Bool:=(F_51 a0 a1).isSome
noncomputable def Sp.v_51(a0:(((List Int)×((List Int)×(Int×Unit)))×(Int×(Int×Unit))))(a1:Int):(List Int)×Bool×Unit:=(F_51 a0 a1).getD (dfH R_51)
noncomputable def s_51:Summ:=shS A_51 R_51 (fun x=>p_51 x.1 x.2.1) (fun x=>v_51 x.1 x.2.1)
end
noncomputable def Sp.sto(f:FaT):Bool:=Sp.andI .i64 f.1 6 !=0
theorem sto_pv(f:FaT):p_43 f=true/\v_43 f=(Sp.sto f,()):=pv_43 f rfl
theorem rkno_pv(f:FaT):p_53 f=true/\v_53 f=(Sp.sto f,()):=pv_53 f rfl
theorem rin_ok(x l h:Int):F_55 x l h=some (Sp.inr x l h,()):=by
 unfold F_55 Sp.inr
 cases decide (x>=l)<;>rfl
theorem rin_pv(x l h:Int):p_55 x l h=true/\v_55 x l h=(Sp.inr x l h,()):=pv_55 x l h (rin_ok x l h)
theorem rcfg_ok(c:CfT):F_48 c=some (Sp.cfg c,()):=by
 unfold F_48 Sp.cfg
 simp only[rin_pv,gd_tt]
 cases Sp.inr c.1 1 16777215<;>try rfl
 cases Sp.inr c.2.1 1 100<;>try rfl
 cases Sp.inr c.2.2.1 1 100<;>try rfl
 cases Sp.inr c.2.2.2.1 1 100<;>try rfl
 cases Sp.inr c.2.2.2.2.1 c.2.2.2.1 255<;>try rfl
 cases Sp.inr c.2.2.2.2.2.1 0 255<;>rfl
theorem rcfg_pv(c:CfT):p_48 c=true/\v_48 c=(Sp.cfg c,()):=pv_48 c (rcfg_ok c)
theorem vals_ok(l:List Int)(h:l.length<4611686018427387904):F_89 l=some (Sp.vals l,()):=by
 have:=all0 (fun m i=>L_89_0 m l i) (n:=l.length) (fun j=>Sp.val (l.getD j 0)) (e0:=some .e0) (e1:=some .e1) h (fun m j hj=>by
  show L_89_0 (m+1) l j=bif Sp.val (l.getD j 0)then L_89_0 m l ((j+1:Nat):Int)else some .e0
  rw[L_89_0,S_89_0,cond_dtt (by omega),gd_inB (by omega) (by omega),(rin_pv _ _ _).1,(rin_pv _ _ _).2,gd_tt,Int.toNat_natCast,wi64 (by omega) (by omega)]
  push_cast
  show(bif !Sp.val (l.getD j 0)then _ else _)=_
  cases Sp.val (l.getD j 0)<;>rfl) (fun m=>by
  show L_89_0 (m+1) l l.length=_
  rw[L_89_0,S_89_0,cond_dff (by omega)])
 unfold F_89
 rw[this]
 unfold Sp.vals
 cases (List.range l.length).all (fun j=>Sp.val (l.getD j 0))<;>rfl
theorem vals_pv(l:List Int)(h:l.length<4611686018427387904):p_89 l=true/\v_89 l=(Sp.vals l,()):=pv_89 l (vals_ok l h)
section
variable{c:CfT}{f:FaT}{cyc:Int}
theorem rhas_pv{k:Int}(hk:k=1\/k=2\/k=4\/k=8\/k=16)(h0:0<=f.1)(h1:f.1<=31):p_90 f k=true/\v_90 f k=(Sp.bt f k,()):=by
 refine pv_90 f k ?_
 unfold F_90 Sp.bt
 have:=bt_ne h0 h1
 rcases hk with rfl|rfl|rfl|rfl|rfl<;>simp only[this]
theorem rJ3(k:Bool):J_54_3 k c f=some (bif k then(bif Sp.kno f then .e0 c f else .e1)else bif Sp.unk f then .e2 f else .e1):=by
 unfold J_54_3 S_54_3 Sp.kno Sp.unk
 cases k
 ·cases f.2.2.1==0<;>try rfl
  cases f.2.2.2.1==0<;>try rfl
  cases f.2.2.2.2.1==0<;>try rfl
  cases f.2.2.2.2.2.2.1==0<;>rfl
 ·cases decide (f.2.2.2.2.1>=1)<;>try rfl
  cases decide (f.2.2.1>=1)<;>try rfl
  cases decide (f.2.2.2.2.2.2.1>=1)<;>rfl
theorem rJ2(k:Bool)(h0:0<=f.1)(h1:f.1<=31):J_54_2 k c f=some (bif Sp.q2 f then(bif k then(bif Sp.kno f then .e1 c f else .e0)else bif Sp.unk f then .e2 f else .e0)else .e0):=by
 unfold J_54_2 S_54_2 Sp.q2
 rw[(rhas_pv (by decide) h0 h1).1,(rhas_pv (by decide) h0 h1).2,gd_tt,rJ3]
 cases Sp.bt f 2<;>cases f.2.2.2.1 !=0<;>cases k<;>cases Sp.kno f<;>cases Sp.unk f<;>rfl
theorem rJ1(k:Bool)(h0:0<=f.1)(h1:f.1<=31):J_54_1 k c f=some (bif Sp.q1 c f&&Sp.q2 f then(bif k then(bif Sp.kno f then .e1 c f else .e0)else bif Sp.unk f then .e2 f else .e0)else .e0):=by
 unfold J_54_1 S_54_1 Sp.q1
 rw[(rhas_pv (k:=4) (by decide) h0 h1).1,(rhas_pv (k:=4) (by decide) h0 h1).2,(rhas_pv (k:=16) (by decide) h0 h1).1,(rhas_pv (k:=16) (by decide) h0 h1).2,gd_tt,gd_tt,gd_tt,rJ2 k h0 h1]
 dsimp only
 cases Sp.bt f 4<;>cases f.2.2.1==2<;>cases Sp.bt f 16<;>cases c.2.2.2.2.2.2.1<;>cases Sp.q2 f<;>cases k<;>cases Sp.kno f<;>cases Sp.unk f<;>rfl
theorem rJ0(k:Bool)(h0:0<=f.1)(h1:f.1<=31):J_54_0 cyc k c f=some (bif Sp.q0 cyc f&&(Sp.q1 c f&&Sp.q2 f)then(bif k then(bif Sp.kno f then .e1 c f else .e0)else bif Sp.unk f then .e2 f else .e0)else .e0):=by
 unfold J_54_0 S_54_0 Sp.q0
 rw[(rhas_pv (k:=1) (by decide) h0 h1).1,(rhas_pv (k:=1) (by decide) h0 h1).2,(rhas_pv (k:=2) (by decide) h0 h1).1,(rhas_pv (k:=2) (by decide) h0 h1).2,(rhas_pv (k:=8) (by decide) h0 h1).1,(rhas_pv (k:=8) (by decide) h0 h1).2,gd_tt,gd_tt,gd_tt,rJ1 k h0 h1]
 dsimp only
 cases Sp.bt f 1<;>cases Sp.bt f 2<;>cases Sp.bt f 8<;>cases f.2.2.2.2.2.2.1==cyc<;>cases Sp.q1 c f<;>cases Sp.q2 f<;>cases k<;>cases Sp.kno f<;>cases Sp.unk f<;>rfl
theorem rfault_ok(hc:Sp.cfg c=true)(hfr:f.2.2.2.2.2.1.length<4611686018427387904):F_54 c f cyc=some (Sp.rgt c f cyc,()):=by
 simp only[Sp.cfg,Bool.and_eq_true,inr_iff]at hc
 unfold F_54 Sp.rgt Sp.rngs
 simp only[rin_pv,gd_tt]
 rw[wi64 (n:=0-c.2.2.1) (by omega) (by omega),wi64 (n:=c.2.2.2.2.1-1) (by omega) (by omega)]
 cases h1:Sp.inr f.1 0 31
 ·rfl
 have hb:=inr_iff.1 h1
 cases Sp.inr f.2.1 (0-c.2.2.1) c.2.1
 ·rfl
 cases Sp.inr f.2.2.1 0 2
 ·rfl
 cases Sp.inr f.2.2.2.1 0 (c.2.2.2.2.1-1)
 ·rfl
 cases Sp.inr f.2.2.2.2.1 0 255
 ·rfl
 cases Sp.inr f.2.2.2.2.2.2.1 0 cyc
 ·rfl
 simp only[Bool.not_true,cond_f,Bool.and_true,Bool.true_and]
 simp only[vals_pv _ hfr,rhas_pv (k:=2) (by decide) hb.1 hb.2,rhas_pv (k:=4) (by decide) hb.1 hb.2,gd_tt,rJ0 _ hb.1 hb.2]
 unfold Sp.frq Sp.fin
 cases e1:((f.2.2.2.2.2.1.length:Int)==c.2.2.2.2.2.2.2.1)<;>cases he:((f.2.2.2.2.2.1.length:Int)==0)<;>cases Sp.vals f.2.2.2.2.2.1<;>cases Sp.bt f 2<;>cases Sp.bt f 4<;>cases Sp.q0 cyc f&&(Sp.q1 c f&&Sp.q2 f)<;>cases Sp.kno f<;>cases Sp.unk f<;>simp only[bne,he,e1,B_54_0,Bool.not_true,Bool.not_false,cond_true,cond_false,Bool.and_true,Bool.and_false,Bool.true_and,Bool.false_and,Bool.or_true,Bool.or_false,Bool.true_or,Bool.false_or]
end
theorem fnd_all(P:Nat->Bool)(n:Nat):(fnd (fun j=> !P j) n 0=none)↔(List.range n).all P=true:=by
 rw[fnd_none,List.all_eq_true]
 constructor
 ·intro h x hx
  have:=h x (by omega) (by rw[List.mem_range]at hx;omega)
  simpa using this
 ·intro h i _ hi
  rw[h i (by rw[List.mem_range];omega)]
  rfl
namespace Sp
noncomputable def frm(c:CfT)(l:List Int):Bool:=((l.length:Int)==c.2.2.2.2.2.2.2.1)&&vals l
noncomputable def cfgs(l:List CfT):Bool:=(List.range l.length).all fun j=>cfg (l.getD j Zd1)
noncomputable def rgts(F:FsT):Bool:=(List.range F.2.1.length).all fun j=>rgt (F.1.getD j Zd1) (F.2.1.getD j Zd0) F.2.2.1
noncomputable def vf(F:FsT):Bool:=decide (F.1.length<=64)&&(cfgs F.1&&(dst (F.1.map fun c=>c.1)&&(((F.2.1.length:Int)==F.1.length)&&(inr F.2.2.1 0 1073741824&&((!F.2.2.2.1||decide (F.2.2.1>=1))&&rgts F)))))
end Sp
theorem val_pv(x:Int):p_145 x=true/\v_145 x=(Sp.val x,()):=by
 refine pv_145 x ?_
 unfold F_145
 rw[(wit_pv _ _ _).1,(wit_pv _ _ _).2,gd_tt]
 rfl
theorem frm_ok(c:CfT)(l:List Int)(h:l.length<4611686018427387904):F_118 c l=some (Sp.frm c l,()):=by
 unfold F_118 Sp.frm
 cases (l.length:Int)==c.2.2.2.2.2.2.2.1
 ·rfl
 have hf:=find0 (fun m i=>L_118_114_0_0 m l l.length i c) (n:=l.length) (fun j=> !Sp.val (l.getD j 0)) (ex:=fun j=>some (.e0 (j:Int) c)) (e1:=some (.e1 c)) h (fun m j hj=>by
  show L_118_114_0_0 (m+1) l l.length j c=bif !Sp.val (l.getD j 0)then some (.e0 (j:Int) c)else L_118_114_0_0 m l l.length ((j+1:Nat):Int) c
  rw[L_118_114_0_0,S_118_114_0_0,cond_dtt (by omega),gd_inB (by omega) (by omega),Int.toNat_natCast,(val_pv _).1,(val_pv _).2,gd_tt,wi64 (by omega) (by omega)]
  push_cast
  rfl) (fun m=>by
  show L_118_114_0_0 (m+1) l l.length l.length c=_
  rw[L_118_114_0_0,S_118_114_0_0,cond_dff (by omega)])
 rw[hf,cond_t]
 cases hk:fnd (fun j=> !Sp.val (l.getD j 0)) l.length 0 with
 |none=>
  have:Sp.vals l=true:=(fnd_all (fun j=>Sp.val (l.getD j 0)) l.length).1 hk
  rw[this]
  rfl
 |some k=>
  have:Sp.vals l=false:=by
   cases hv:Sp.vals l
   ·rfl
   ·have:=(fnd_all (fun j=>Sp.val (l.getD j 0)) l.length).2 hv
    rw[this]at hk;cases hk
  rw[this]
  simp only[B_118_114_0_0]
  rw[decide_eq_true (by omega)]
  rfl
theorem frm_pv(c:CfT)(l:List Int)(h:l.length<4611686018427387904):p_118 c l=true/\v_118 c l=(Sp.frm c l,()):=pv_118 c l (frm_ok c l h)
section
variable{c:CfT}{f:FaT}{cyc:Int}
theorem kn_pv(h0:0<=f.1)(h1:f.1<=31):p_120 f=true/\v_120 f=(Sp.bt f 2||Sp.bt f 4,()):=by
 refine pv_120 f ?_
 unfold F_120 Sp.bt
 rw[(bt_ne h0 h1).2.2.2]
theorem bt10(h0:0<=f.1)(h1:f.1<=31):Sp.bt f 10=(Sp.bt f 2&&Sp.bt f 8):=(bt_ne h0 h1).2.2.1
theorem gJ3(h0:0<=f.1)(h1:f.1<=31):J_85_3 c f=some (bif Sp.bt f 2||Sp.bt f 4 then(bif Sp.kno f then .e0 c f else .e1)else .e2 c f):=by
 unfold J_85_3 S_85_3 Sp.kno
 rw[(kn_pv h0 h1).1,(kn_pv h0 h1).2,gd_tt]
 cases Sp.bt f 2||Sp.bt f 4<;>try rfl
 cases decide (f.2.2.2.2.1>=1)<;>try rfl
 cases decide (f.2.2.1>=1)<;>try rfl
 cases decide (f.2.2.2.2.2.2.1>=1)<;>rfl
theorem gJ2(h0:0<=f.1)(h1:f.1<=31):J_85_2 c f=some (bif Sp.q2 f then(bif Sp.bt f 2||Sp.bt f 4 then(bif Sp.kno f then .e1 c f else .e0)else .e2 c f)else .e0):=by
 unfold J_85_2 S_85_2 Sp.q2
 simp only[has_pv,gd_tt,gJ3 h0 h1]
 cases Sp.bt f 2<;>cases f.2.2.2.1 !=0<;>cases Sp.bt f 4<;>cases Sp.kno f<;>rfl
theorem gJ1(h0:0<=f.1)(h1:f.1<=31):J_85_1 c f=some (bif Sp.q1 c f&&Sp.q2 f then(bif Sp.bt f 2||Sp.bt f 4 then(bif Sp.kno f then .e1 c f else .e0)else .e2 c f)else .e0):=by
 unfold J_85_1 S_85_1 Sp.q1
 simp only[has_pv,gd_tt,gJ2 h0 h1]
 cases Sp.bt f 4<;>cases f.2.2.1==2<;>cases Sp.bt f 16<;>cases c.2.2.2.2.2.2.1<;>cases Sp.q2 f<;>cases Sp.bt f 2<;>cases Sp.kno f<;>rfl
theorem gJ0(h0:0<=f.1)(h1:f.1<=31):J_85_0 cyc c f=some (bif Sp.q0 cyc f&&(Sp.q1 c f&&Sp.q2 f)then(bif Sp.bt f 2||Sp.bt f 4 then(bif Sp.kno f then .e1 c f else .e0)else bif Sp.unk f then .e2 f else .e0)else .e0):=by
 unfold J_85_0 S_85_0 Sp.q0 Sp.unk
 simp only[has_pv,gd_tt,gJ1 h0 h1,bt10 h0 h1]
 have hz:∀x y:Int,(bif !(x==y)then(some (E_85_0.e0):Option E_85_0)else none)=(bif x !=y then some (E_85_0.e0)else none):=fun _ _=>rfl
 cases e1:f.2.2.1==0<;>cases e2:f.2.2.2.1==0<;>cases e3:f.2.2.2.2.1==0<;>cases e4:f.2.2.2.2.2.2.1==0<;>cases e5:f.2.2.2.2.2.2.1==cyc<;>cases Sp.q1 c f&&Sp.q2 f<;>cases Sp.bt f 1<;>cases Sp.bt f 2<;>cases Sp.bt f 8<;>cases Sp.bt f 4<;>cases Sp.kno f<;>simp only[bne,e1,e2,e3,e4,e5,B_85_1,Bool.not_true,Bool.not_false,cond_true,cond_false,Bool.and_true,Bool.and_false,Bool.true_and,Bool.false_and,Bool.or_true,Bool.or_false,Bool.true_or,Bool.false_or]
theorem right_ok(hc:Sp.cfg c=true)(hfr:f.2.2.2.2.2.1.length<4611686018427387904):F_85 c f cyc=some (Sp.rgt c f cyc,()):=by
 simp only[Sp.cfg,Bool.and_eq_true,inr_iff]at hc
 unfold F_85 Sp.rgt Sp.rngs
 simp only[wit_pv,gd_tt]
 rw[wi64 (n:=0-c.2.2.1) (by omega) (by omega),wi64 (n:=c.2.2.2.2.1-1) (by omega) (by omega)]
 cases h1:Sp.inr f.1 0 31
 ·rfl
 have hb:=inr_iff.1 h1
 cases Sp.inr f.2.1 (0-c.2.2.1) c.2.1
 ·rfl
 cases Sp.inr f.2.2.1 0 2
 ·rfl
 cases Sp.inr f.2.2.2.1 0 (c.2.2.2.2.1-1)
 ·rfl
 cases Sp.inr f.2.2.2.2.1 0 255
 ·rfl
 cases Sp.inr f.2.2.2.2.2.2.1 0 cyc
 ·rfl
 simp only[Bool.not_true,cond_f,Bool.and_true,Bool.true_and]
 simp only[frm_pv _ _ hfr,gd_tt,gJ0 hb.1 hb.2]
 unfold Sp.frq Sp.fin Sp.frm
 by_cases hl:f.2.2.2.2.2.1=[]
 ·have hv:Sp.vals f.2.2.2.2.2.1=true:=by rw[hl];rfl
  have hz:((f.2.2.2.2.2.1.length:Int)==0)=true:=by rw[hl];rfl
  rw[cond_dff (by rw[hl];decide),hv,hz]
  cases e1:((f.2.2.2.2.2.1.length:Int)==c.2.2.2.2.2.2.2.1)<;>cases Sp.bt f 2<;>cases Sp.bt f 4<;>cases Sp.q0 cyc f&&(Sp.q1 c f&&Sp.q2 f)<;>cases Sp.kno f<;>cases Sp.unk f<;>simp only[bne,hz,e1,B_85_0,Bool.not_true,Bool.not_false,cond_true,cond_false,Bool.and_true,Bool.and_false,Bool.true_and,Bool.false_and,Bool.or_true,Bool.or_false,Bool.true_or,Bool.false_or]
 ·have hp:0<f.2.2.2.2.2.1.length:=List.length_pos_iff.2 hl
  have hz:((f.2.2.2.2.2.1.length:Int)==0)=false:=beq_eq_false_iff_ne.2 (by omega)
  rw[cond_dtt (by omega),hz]
  cases e1:((f.2.2.2.2.2.1.length:Int)==c.2.2.2.2.2.2.2.1)<;>cases Sp.vals f.2.2.2.2.2.1<;>cases Sp.bt f 2<;>cases Sp.bt f 4<;>cases Sp.q0 cyc f&&(Sp.q1 c f&&Sp.q2 f)<;>cases Sp.kno f<;>cases Sp.unk f<;>simp only[bne,hz,e1,B_85_0,Bool.not_true,Bool.not_false,cond_true,cond_false,Bool.and_true,Bool.and_false,Bool.true_and,Bool.false_and,Bool.or_true,Bool.or_false,Bool.true_or,Bool.false_or]
theorem right_pv(hc:Sp.cfg c=true)(hfr:f.2.2.2.2.2.1.length<4611686018427387904):p_85 c f cyc=true/\v_85 c f cyc=(Sp.rgt c f cyc,()):=pv_85 c f cyc (right_ok hc hfr)
end
structure Sm(F:FsT):Prop where
 l:F.2.1.length<4611686018427387904
 f:∀j,j<F.2.1.length->(F.2.1.getD j Zd0).2.2.2.2.2.1.length<4611686018427387904
theorem cfgs_at{l:List CfT}(h:Sp.cfgs l=true){j:Nat}(hj:j<l.length):Sp.cfg (l.getD j Zd1)=true:=by
 unfold Sp.cfgs at h
 rw[List.all_eq_true]at h
 exact h j (by rw[List.mem_range];exact hj)
theorem vJ0{F:FsT}(hs:Sm F)(hc:Sp.cfgs F.1=true)(hl:F.2.1.length=F.1.length):J_44_0 F=some (bif Sp.rgts F then .e1 else .e0):=by
 have:=all0 (fun m i=>L_44_1 m F.2.1 F.2.1.length i F) (n:=F.2.1.length) (fun j=>Sp.rgt (F.1.getD j Zd1) (F.2.1.getD j Zd0) F.2.2.1) (e0:=some .e0) (e1:=some .e1) hs.l (fun m j hj=>by
  show L_44_1 (m+1) F.2.1 F.2.1.length j F=bif Sp.rgt (F.1.getD j Zd1) (F.2.1.getD j Zd0) F.2.2.1 then L_44_1 m F.2.1 F.2.1.length ((j+1:Nat):Int) F else some .e0
  have hr:=right_pv (cyc:=F.2.2.1) (cfgs_at hc (j:=j) (by omega)) (hs.f j hj)
  rw[L_44_1,S_44_1,cond_dtt (by omega),gd_inB (by omega) (by omega),gd_inB (by omega) (by omega),Int.toNat_natCast,hr.1,hr.2,gd_tt,wi64 (by have:=hs.l;omega) (by have:=hs.l;omega)]
  push_cast
  cases Sp.rgt (F.1.getD j Zd1) (F.2.1.getD j Zd0) F.2.2.1<;>rfl) (fun m=>by
  show L_44_1 (m+1) F.2.1 F.2.1.length F.2.1.length F=_
  rw[L_44_1,S_44_1,cond_dff (by omega)])
 unfold J_44_0 S_44_0
 rw[this]
 unfold Sp.rgts
 cases (List.range F.2.1.length).all fun j=>Sp.rgt (F.1.getD j Zd1) (F.2.1.getD j Zd0) F.2.2.1<;>rfl
theorem vf_ok{F:FsT}(hs:Sm F):F_44 F=some (Sp.vf F,()):=by
 unfold F_44 Sp.vf
 by_cases h1:(F.1.length:Int)>64
 ·rw[cond_dtt h1,decide_eq_false (by omega)];rfl
 rw[cond_dff h1,decide_eq_true (p:=F.1.length<=64) (by omega),Bool.true_and]
 have hf:=find0 (fun m i=>L_44_116_0_0 m F.1 F.1.length i F) (n:=F.1.length) (fun j=> !Sp.cfg (F.1.getD j Zd1)) (ex:=fun j=>some (.e0 (j:Int) F)) (e1:=some (.e1 F)) (by omega) (fun m j hj=>by
  show L_44_116_0_0 (m+1) F.1 F.1.length j F=bif !Sp.cfg (F.1.getD j Zd1)then some (.e0 (j:Int) F)else L_44_116_0_0 m F.1 F.1.length ((j+1:Nat):Int) F
  rw[L_44_116_0_0,S_44_116_0_0,cond_dtt (by omega),gd_inB (by omega) (by omega),Int.toNat_natCast,(cfg_pv _).1,(cfg_pv _).2,gd_tt,wi64 (by omega) (by omega)]
  push_cast
  rfl) (fun m=>by
  show L_44_116_0_0 (m+1) F.1 F.1.length F.1.length F=_
  rw[L_44_116_0_0,S_44_116_0_0,cond_dff (by omega)])
 rw[hf]
 cases hk:fnd (fun j=> !Sp.cfg (F.1.getD j Zd1)) F.1.length 0 with
 |some k=>
  have:Sp.cfgs F.1=false:=by
   cases hv:Sp.cfgs F.1
   ·rfl
   ·have:=(fnd_all (fun j=>Sp.cfg (F.1.getD j Zd1)) F.1.length).2 hv
    rw[this]at hk;cases hk
  rw[this]
  simp only[B_44_116_0_0]
  rw[cond_dtt (by omega)]
  rfl
 |none=>
  have hc:Sp.cfgs F.1=true:=(fnd_all (fun j=>Sp.cfg (F.1.getD j Zd1)) F.1.length).1 hk
  rw[hc]
  simp only[B_44_116_0_0,Bool.true_and]
  have em:(List.map (fun(y:Ty.den CfgTy)=>Prod.fst y) F.1)=(F.1.map fun c=>c.1):=rfl
  rw[em]
  cases Sp.dst (F.1.map fun c=>c.1)
  ·rfl
  simp only[Bool.not_true,cond_f,Bool.true_and]
  by_cases hl:(F.2.1.length:Int)=(F.1.length:Int)
  rotate_left
  ·rw[cond_ntt hl,beq_eq_false_iff_ne.2 hl];rfl
  rw[cond_nff hl,beq_iff_eq.2 hl,Bool.true_and,(wit_pv _ _ _).1,(wit_pv _ _ _).2,gd_tt]
  cases Sp.inr F.2.2.1 0 1073741824
  ·rfl
  simp only[Bool.not_true,cond_f,Bool.true_and]
  rw[vJ0 hs hc (by omega)]
  cases F.2.2.2.1
  ·cases Sp.rgts F<;>rfl
  ·by_cases hy:F.2.2.1<1
   ·rw[cond_t,cond_dtt hy,decide_eq_false (by omega)]
    rfl
   ·rw[cond_t,cond_dff hy,decide_eq_true (p:=F.2.2.1>=1) (by omega)]
    cases Sp.rgts F<;>rfl
theorem vf_pv{F:FsT}(hs:Sm F):p_44 F=true/\v_44 F=(Sp.vf F,()):=pv_44 F (vf_ok hs)
set_option maxRecDepth 100000
set_option maxHeartbeats 4000000
namespace Sp
noncomputable def codesL(l:List CfT):List Int:=l.map fun c=>c.1
noncomputable def rcc(l:List CfT):Int:=bif decide (l.length<=64)then(bif cfgs l then(bif dst (codesL l)then 0 else 8)else 1)else 5
noncomputable def newF(l:List CfT):FsT×Int×Unit:=bif rcc l==0 then((l,replicate l.length Zd0,0,false,()),0,())else(([],[],0,false,()),rcc l,())
end Sp
theorem codesL_at(l:List CfT){j:Nat}(h:j<l.length):(Sp.codesL l).getD j 0=(l.getD j Zd1).1:=by
 unfold Sp.codesL
 rw[getD_at _ h,getD_at 0 (by simpa using h),List.getElem_map]
set_option maxRecDepth 100000
set_option maxHeartbeats 4000000
theorem dst_all(l:List Int):Sp.dst l=(List.range l.length).all fun i=>(List.range i).all fun k=> !(l.getD k 0==l.getD i 0):=by
 rw[Bool.eq_iff_iff,Sp.dst_nodup,List.Nodup,List.pairwise_iff_getElem]
 simp only[List.all_eq_true,List.mem_range,Bool.not_eq_true',beq_eq_false_iff_ne]
 constructor
 ·intro h i hi k hk
  rw[getD_at 0 (show k<l.length by omega),getD_at 0 hi]
  exact h k i (by omega) hi hk
 ·intro h i j hi hj hij
  have:=h j hj i hij
  rwa [getD_at 0 hi,getD_at 0 hj]at this
theorem rcc_ok(l:List CfT):F_12 l=some (Sp.rcc l,()):=by
 unfold F_12 Sp.rcc
 by_cases h1:(l.length:Int)>64
 ·rw[cond_dtt h1,decide_eq_false (by omega)];rfl
 rw[cond_dff h1,decide_eq_true (p:=l.length<=64) (by omega),cond_t]
 have ha:=all0 (fun m i=>L_12_0 m l i) (n:=l.length) (fun j=>Sp.cfg (l.getD j Zd1)) (e0:=some .e0) (e1:=some (.e1 l)) (by omega) (fun m j hj=>by
  show L_12_0 (m+1) l j=bif Sp.cfg (l.getD j Zd1)then L_12_0 m l ((j+1:Nat):Int)else some .e0
  rw[L_12_0,S_12_0,cond_dtt (by omega),gd_inB (by omega) (by omega),Int.toNat_natCast,(rcfg_pv _).1,(rcfg_pv _).2,gd_tt,wi64 (by omega) (by omega)]
  push_cast
  cases Sp.cfg (l.getD j Zd1)<;>rfl) (fun m=>by
  show L_12_0 (m+1) l l.length=_
  rw[L_12_0,S_12_0,cond_dff (by omega)])
 rw[ha]
 have ec:(List.range l.length).all (fun j=>Sp.cfg (l.getD j Zd1))=Sp.cfgs l:=rfl
 rw[ec]
 cases Sp.cfgs l
 ·rfl
 simp only[cond_t,B_12_0]
 have hin:∀i,i<l.length->L_12_2 4611686018427387904 l (i:Int) 0=bif(List.range i).all (fun k=> !((l.getD k Zd1).1==(l.getD i Zd1).1))then some (.e1 l i)else some .e0:=by
  intro i hi
  exact all0 (fun m k=>L_12_2 m l (i:Int) k) (n:=i) (fun k=> !((l.getD k Zd1).1==(l.getD i Zd1).1)) (e0:=some .e0) (e1:=some (.e1 l i)) (by omega) (fun m k hk=>by
   show L_12_2 (m+1) l (i:Int) (k:Int)=bif !((l.getD k Zd1).1==(l.getD i Zd1).1)then L_12_2 m l (i:Int) ((k+1:Nat):Int)else some .e0
   rw[L_12_2,S_12_2,cond_dtt (by omega),gd_inB (by omega) (by omega),gd_inB (by omega) (by omega),Int.toNat_natCast,Int.toNat_natCast,wi64 (by omega) (by omega)]
   push_cast
   cases (l.getD k Zd1).1==(l.getD i Zd1).1<;>rfl) (fun m=>by
   show L_12_2 (m+1) l (i:Int) (i:Int)=_
   rw[L_12_2,S_12_2,cond_dff (by omega)])
 have ho:=all0 (fun m i=>L_12_1 m l i) (n:=l.length) (fun i=>(List.range i).all (fun k=> !((l.getD k Zd1).1==(l.getD i Zd1).1))) (e0:=some .e0) (e1:=some .e1) (by omega) (fun m i hi=>by
  show L_12_1 (m+1) l i=bif(List.range i).all (fun k=> !((l.getD k Zd1).1==(l.getD i Zd1).1))then L_12_1 m l ((i+1:Nat):Int)else some .e0
  rw[L_12_1,S_12_1,cond_dtt (by omega),hin i hi]
  cases (List.range i).all (fun k=> !((l.getD k Zd1).1==(l.getD i Zd1).1))
  ·rfl
  ·simp only[cond_t,B_12_2]
   rw[wi64 (by omega) (by omega)]
   push_cast
   rfl) (fun m=>by
  show L_12_1 (m+1) l l.length=_
  rw[L_12_1,S_12_1,cond_dff (by omega)])
 rw[ho]
 have ed:(List.range l.length).all (fun i=>(List.range i).all (fun k=> !((l.getD k Zd1).1==(l.getD i Zd1).1)))=Sp.dst (Sp.codesL l):=by
  rw[dst_all,show(Sp.codesL l).length=l.length by simp[Sp.codesL],Bool.eq_iff_iff]
  simp only[List.all_eq_true,List.mem_range]
  constructor
  ·intro h i hi k hk
   rw[codesL_at l hi,codesL_at l (show k<l.length by omega)]
   exact h i hi k hk
  ·intro h i hi k hk
   have:=h i hi k hk
   rwa [codesL_at l hi,codesL_at l (show k<l.length by omega)]at this
 rw[ed]
 cases Sp.dst (Sp.codesL l)<;>rfl
theorem rcc_pv(l:List CfT):p_12 l=true/\v_12 l=(Sp.rcc l,()):=pv_12 l (rcc_ok l)
theorem rvf_ok{F:FsT}(hs:Sm F):F_16 F=some (Sp.vf F,()):=by
 unfold F_16 Sp.vf
 rw[(rcc_pv _).1,(rcc_pv _).2,gd_tt]
 unfold Sp.rcc
 dsimp only
 by_cases h1:F.1.length<=64
 rotate_left
 ·rw[decide_eq_false h1];rfl
 rw[decide_eq_true h1,cond_t,Bool.true_and]
 cases hc:Sp.cfgs F.1
 ·rfl
 rw[cond_t,Bool.true_and]
 have em:(F.1.map fun c=>c.1)=Sp.codesL F.1:=rfl
 rw[em]
 cases Sp.dst (Sp.codesL F.1)
 ·rfl
 rw[cond_t,cond_nff rfl,Bool.true_and]
 by_cases hl:(F.2.1.length:Int)=(F.1.length:Int)
 rotate_left
 ·rw[cond_ntt hl,beq_eq_false_iff_ne.2 hl];rfl
 rw[cond_nff hl,beq_iff_eq.2 hl,Bool.true_and,(rin_pv _ _ _).1,(rin_pv _ _ _).2,gd_tt]
 cases Sp.inr F.2.2.1 0 1073741824
 ·rfl
 have hJ:J_16_0 F=some (bif Sp.rgts F then .e1 else .e0):=by
  have:=all0 (fun m i=>L_16_1 m i F) (n:=F.2.1.length) (fun j=>Sp.rgt (F.1.getD j Zd1) (F.2.1.getD j Zd0) F.2.2.1) (e0:=some .e0) (e1:=some .e1) hs.l (fun m j hj=>by
   show L_16_1 (m+1) j F=bif Sp.rgt (F.1.getD j Zd1) (F.2.1.getD j Zd0) F.2.2.1 then L_16_1 m ((j+1:Nat):Int) F else some .e0
   have hr:=pv_54 _ _ _ (rfault_ok (cyc:=F.2.2.1) (cfgs_at hc (j:=j) (by omega)) (hs.f j hj))
   rw[L_16_1,S_16_1,cond_dtt (by omega),gd_inB (by omega) (by omega),gd_inB (by omega) (by omega),Int.toNat_natCast,hr.1,hr.2,gd_tt,wi64 (by have:=hs.l;omega) (by have:=hs.l;omega)]
   push_cast
   cases Sp.rgt (F.1.getD j Zd1) (F.2.1.getD j Zd0) F.2.2.1<;>rfl) (fun m=>by
   show L_16_1 (m+1) F.2.1.length F=_
   rw[L_16_1,S_16_1,cond_dff (by omega)])
  unfold J_16_0 S_16_0
  rw[this]
  unfold Sp.rgts
  cases (List.range F.2.1.length).all fun j=>Sp.rgt (F.1.getD j Zd1) (F.2.1.getD j Zd0) F.2.2.1<;>rfl
 simp only[Bool.not_true,cond_f,Bool.true_and,hJ]
 cases F.2.2.2.1
 ·cases Sp.rgts F<;>rfl
 ·by_cases hy:F.2.2.1<1
  ·rw[cond_t,cond_dtt hy,decide_eq_false (by omega)]
   rfl
  ·rw[cond_t,cond_dff hy,decide_eq_true (p:=F.2.2.1>=1) (by omega)]
   cases Sp.rgts F<;>rfl
theorem rvf_pv{F:FsT}(hs:Sm F):p_16 F=true/\v_16 F=(Sp.vf F,()):=pv_16 F (rvf_ok hs)
set_option linter.unusedVariables false
noncomputable section
abbrev A_66:List Ty:=[(.pair (.slice (.pair (.int .i64) (.pair (.int .i64) (.pair (.int .i64) (.pair (.int .i64) (.pair (.int .i64) (.pair (.int .i64) (.pair .bool (.pair (.int .i64) .unit))))))))) (.pair (.slice (.pair (.int .i64) (.pair (.int .i64) (.pair (.int .i64) (.pair (.int .i64) (.pair (.int .i64) (.pair (.slice (.int .i64)) (.pair (.int .i64) .unit)))))))) (.pair (.int .i64) (.pair .bool .unit)))),(.int .i64)]
abbrev R_66:List Ty:=[(.slice (.int .u32))]
noncomputable def sm_66:Nat->Option Summ:=smL [(53,s_53),(106,s_106)]
noncomputable def F_66(a0:((List (Int×(Int×(Int×(Int×(Int×(Int×(Bool×(Int×Unit)))))))))×((List (Int×(Int×(Int×(Int×(Int×((List Int)×(Int×Unit))))))))×(Int×(Bool×Unit)))))(a1:Int):Option ((List Int)×Unit) :=
 bif a1==254 then some ([wrap u32 (a0.2.2.1)],PUnit.unit)else gd (inB a1 (length (a0.2.1))) (gd (p_53 (getD (a0.2.1) (toNat a1) Zd0)) (bif !(v_53 (getD (a0.2.1) (toNat a1) Zd0)).1 then some ([],PUnit.unit)else gd (inB a1 (length (a0.1))) (gd (inB a1 (length (a0.2.1))) (gd (p_106 (getD (a0.2.1) (toNat a1) Zd0)) (gd (room (1+length ((v_106 (getD (a0.2.1) (toNat a1) Zd0)).1)) 4) (some ([wrap u32 ((getD (a0.1) (toNat a1) Zd1).1)]++(v_106 (getD (a0.2.1) (toNat a1) Zd0)).1,PUnit.unit)))))))
noncomputable def Sp.p_66(a0:((List (Int×(Int×(Int×(Int×(Int×(Int×(Bool×(Int×Unit)))))))))×((List (Int×(Int×(Int×(Int×(Int×((List Int)×(Int×Unit))))))))×(Int×(Bool×Unit)))))(a1:Int):Bool:=(F_66 a0 a1).isSome
noncomputable def Sp.v_66(a0:((List (Int×(Int×(Int×(Int×(Int×(Int×(Bool×(Int×Unit)))))))))×((List (Int×(Int×(Int×(Int×(Int×((List Int)×(Int×Unit))))))))×(Int×(Bool×Unit)))))(a1:Int):(List Int)×Unit:=(F_66 a0 a1).getD (dfH R_66)
noncomputable def s_66:Summ:=shS A_66 R_66 (fun x=>p_66 x.1 x.2.1) (fun x=>v_66 x.1 x.2.1)
end
noncomputable section
abbrev A_64:List Ty:=[(.pair (.pair (.slice (.int .u32)) (.pair (.slice (.int .i64)) (.pair (.int .i64) .unit))) (.pair (.int .i64) (.pair (.int .i64) .unit))),(.pair (.slice (.pair (.int .i64) (.pair (.int .i64) (.pair (.int .i64) (.pair (.int .i64) (.pair (.int .i64) (.pair (.int .i64) (.pair .bool (.pair (.int .i64) .unit))))))))) (.pair (.slice (.pair (.int .i64) (.pair (.int .i64) (.pair (.int .i64) (.pair (.int .i64) (.pair (.int .i64) (.pair (.slice (.int .i64)) (.pair (.int .i64) .unit)))))))) (.pair (.int .i64) (.pair .bool .unit)))),(.int .i64)]
abbrev R_64:List Ty:=[.bool]
noncomputable def sm_64:Nat->Option Summ:=smL [(51,s_51),(63,s_63),(66,s_66)]
noncomputable def F_64(a0:(((List Int)×((List Int)×(Int×Unit)))×(Int×(Int×Unit))))(a1:((List (Int×(Int×(Int×(Int×(Int×(Int×(Bool×(Int×Unit)))))))))×((List (Int×(Int×(Int×(Int×(Int×((List Int)×(Int×Unit))))))))×(Int×(Bool×Unit)))))(a2:Int):Option (Bool×Unit) :=
 gd (p_51 a0 a2) (gd (p_66 a1 a2) (bif !(v_51 a0 a2).2.1 then bif(↑(length ((v_66 a1 a2).1)):Int)==0 then some (true,PUnit.unit)else bif a2==254 then some (a1.2.2.1==0,PUnit.unit)else some (false,PUnit.unit)else gd (p_63 ((v_51 a0 a2).1) ((v_66 a1 a2).1)) (some ((v_63 ((v_51 a0 a2).1) ((v_66 a1 a2).1)).1,PUnit.unit))))
noncomputable def Sp.p_64(a0:(((List Int)×((List Int)×(Int×Unit)))×(Int×(Int×Unit))))(a1:((List (Int×(Int×(Int×(Int×(Int×(Int×(Bool×(Int×Unit)))))))))×((List (Int×(Int×(Int×(Int×(Int×((List Int)×(Int×Unit))))))))×(Int×(Bool×Unit)))))(a2:Int):Bool:=(F_64 a0 a1 a2).isSome
noncomputable def Sp.v_64(a0:(((List Int)×((List Int)×(Int×Unit)))×(Int×(Int×Unit))))(a1:((List (Int×(Int×(Int×(Int×(Int×(Int×(Bool×(Int×Unit)))))))))×((List (Int×(Int×(Int×(Int×(Int×((List Int)×(Int×Unit))))))))×(Int×(Bool×Unit)))))(a2:Int):Bool×Unit:=(F_64 a0 a1 a2).getD (dfH R_64)
noncomputable def s_64:Summ:=shN A_64 R_64 (fun x=>p_64 x.1 x.2.1 x.2.2.1) (fun x=>v_64 x.1 x.2.1 x.2.2.1)
end
namespace Sp
noncomputable def sw(a b:List Int):Bool:=bif(a.length:Int)!=(b.length:Int)then false else(fnd (fun j=>a.getD j 0 !=b.getD j 0) a.length 0).isNone
noncomputable def dat(F:FsT)(key:Int):List Int:=if key=254 then [wrap .u32 F.2.2.1]else if sto (F.2.1.getD key.toNat Zd0)=true then [wrap .u32 (F.1.getD key.toNat Zd1).1]++wpk (F.2.1.getD key.toNat Zd0)else []
noncomputable def utd(m:MeT)(key:Int)(d:List Int):Bool:=bif(rdk m key).2.1 !=0 then(bif(d.length:Int)==0 then true else bif key==254 then d.getD 0 0==0 else false)else sw (rdk m key).1 d
end Sp
theorem good_of{c:CfT}{f:FaT}{cy:Int}(hc:Sp.cfg c=true)(h:Sp.rgt c f cy=true)(h1:cy<=1073741824):Sp.good f=true:=by
 unfold Sp.rgt Sp.rngs Sp.frq at h
 unfold Sp.cfg at hc
 simp only[Bool.and_eq_true,inr_iff]at h hc
 obtain⟨⟨r1,r2,r3,r4,r5,r6⟩,⟨q1,q2⟩,_⟩:=h
 have l8:f.2.2.2.2.2.1.length<=8:=by
  simp only[Bool.or_eq_true,beq_iff_eq]at q1
  rcases q1 with z|z<;>omega
 refine good_iff.2 ⟨r1,r3,⟨r4.1,by omega⟩,r5,⟨r6.1,by omega⟩,l8,fun x hx=> ?_⟩
 unfold Sp.vals at q2
 rw[List.all_eq_true]at q2
 obtain⟨j,hj,rfl⟩:=List.mem_iff_getElem.1 hx
 have:=q2 j (List.mem_range.2 hj)
 rw[getD_at 0 hj]at this
 exact inr_iff.1 this
theorem vf_d{F:FsT}(h:Sp.vf F=true):F.1.length<=64/\Sp.cfgs F.1=true/\F.2.1.length=F.1.length/\0<=F.2.2.1/\F.2.2.1<=1073741824/\Sp.rgts F=true:=by
 unfold Sp.vf at h
 simp only[Bool.and_eq_true,inr_iff,decide_eq_true_eq,beq_iff_eq]at h
 obtain⟨a,b,c,d,e,f,g⟩:=h
 exact⟨a,b,by omega,e.1,e.2,g⟩
theorem vf_good{F:FsT}(h:Sp.vf F=true){j:Nat}(hj:j<F.2.1.length):Sp.good (F.2.1.getD j Zd0)=true:=by
 obtain⟨a,b,c,d,e,g⟩:=vf_d h
 unfold Sp.rgts at g
 rw[List.all_eq_true]at g
 exact good_of (cfgs_at b (by omega)) (g j (List.mem_range.2 hj)) e
theorem wu32_b(n:Int):0<=wrap .u32 n/\wrap .u32 n<4294967296:=by
 rw[u32_mod];omega
theorem flat_w:∀ {l:List Int},(∀x∈l,-1099511627776<=x/\x<=1099511627776)->∀x∈Sp.flat l,0<=x/\x<4294967296
 |[],_,x,hx=>absurd hx (List.not_mem_nil)
 |a::l,h,x,hx=>by
  have ha:=h a (List.mem_cons_self ..)
  rw[Sp.flat]at hx
  simp only[List.mem_cons]at hx
  rcases hx with rfl|rfl|hx
  ·constructor<;>omega
  ·constructor<;>omega
  ·exact flat_w (fun y hy=>h y (List.mem_cons_of_mem _ hy)) x hx
theorem wpk_w{f:FaT}(h:Sp.good f=true):W32l (Sp.wpk f)/\(Sp.wpk f).length=3+2*f.2.2.2.2.2.1.length:=by
 obtain⟨g1,g2,g3,g4,g5,g6,g7⟩:=good_iff.1 h
 have s:=st_22 g1.1 g1.2
 have fl:=pfl_len f.2.2.2.2.2.1
 unfold Sp.wpk
 refine⟨fun x hx=> ?_,by rw[List.length_append,fl];rfl⟩
 rcases List.mem_append.1 hx with z|z
 ·unfold Sp.hdr at z
  simp only[List.mem_cons,List.not_mem_nil,or_false]at z
  rcases z with rfl|rfl|rfl
  ·constructor<;>omega
  ·constructor<;>omega
  ·constructor<;>omega
 ·exact flat_w g7 x z
theorem dat_b{F:FsT}(hv:Sp.vf F=true){key:Int}(hk:key=254\/0<=key/\key<(F.2.1.length:Int)):W32l (Sp.dat F key)/\(Sp.dat F key).length<=20:=by
 unfold Sp.dat
 split
 ·exact⟨fun x hx=>by rw[List.mem_singleton.1 hx];exact wu32_b _,by show 1<=20;decide⟩
 ·split
  ·rename_i h1 h2
   have g:=vf_good hv (j:=key.toNat) (by omega)
   have w:=wpk_w g
   have l8:=(good_iff.1 g).2.2.2.2.2.1
   refine⟨fun x hx=> ?_,by rw[List.length_append,w.2];simp only[List.length_cons,List.length_nil];omega⟩
   rcases List.mem_append.1 hx with z|z
   ·rw[List.mem_singleton.1 z];exact wu32_b _
   ·exact w.1 x z
  ·exact⟨fun x hx=>absurd hx (List.not_mem_nil),by decide⟩
theorem sw_pv(a b:List Int)(ha:a.length<=1000000)(hb:b.length<=1000000):p_35 a b=true/\v_35 a b=(Sp.sw a b,()):=by
 refine pv_35 a b ?_
 unfold F_35 Sp.sw
 by_cases c:(a.length:Int)=(b.length:Int)
 rotate_left
 ·rw[cond_ntt c,cond_ntt c]
 rw[cond_nff c,cond_nff c]
 have hf:=find0 (fun q i=>L_35_0 q a b a.length i) (n:=a.length) (fun j=>a.getD j 0 !=b.getD j 0) (ex:=fun _=>some .e0) (e1:=some .e1) (by omega) (fun q j hj=>by
  show L_35_0 (q+1) a b a.length (j:Int)=bif a.getD j 0 !=b.getD j 0 then some .e0 else L_35_0 q a b a.length ((j+1:Nat):Int)
  rw[L_35_0,S_35_0,cond_dtt (by omega),gd_inB (by omega) (by omega),Int.toNat_natCast,gd_inB (by omega) (by omega),wi64 (by omega) (by omega)]
  push_cast
  rfl) (fun q=>by
  show L_35_0 (q+1) a b a.length (a.length:Int)=_
  rw[L_35_0,S_35_0,cond_dff (by omega)])
 refine(congrArg (fun z=>B_35_0 z _ _) hf).trans ?_
 cases fnd (fun j=>a.getD j 0 !=b.getD j 0) a.length 0<;>rfl
theorem utd_pv{m:MeT}(hw:W32f m.1){key:Int}{d:List Int}(hd:d.length<=1000):p_60 m key d=true/\v_60 m key d=(Sp.utd m key d,()):=by
 have r:=rdk_pv hw key
 have b:=rdk_b hw key
 have s:=sw_pv (Sp.rdk m key).1 d (by omega) (by omega)
 refine pv_60 m key d ?_
 unfold F_60 Sp.utd
 rw[r.1,r.2,gd_tt]
 by_cases e:(Sp.rdk m key).2.1=0
 ·rw[cond_nff e,cond_nff e,s.1,s.2,gd_tt]
 ·rw[cond_ntt e,cond_ntt e]
  by_cases l:(d.length:Int)=0
  ·rw[cond_ett l,cond_ett l]
  ·rw[cond_eff l,cond_eff l]
   by_cases k:key=254
   ·rw[cond_ett k,cond_ett k,gd_inB (by omega) (by omega)]
   ·rw[cond_eff k,cond_eff k]
set_option maxRecDepth 100000
set_option maxHeartbeats 4000000
set_option linter.unusedVariables false
noncomputable section
abbrev Zt24_0:Type:=List (Int×Int×Int×Int×Int×Int×Bool×Int×Unit)×List (Int×Int×Int×Int×Int×List Int×Int×Unit)×Int×Bool×Unit
abbrev Zt24_1:Type:=(List Int×List Int×Int×Unit)×Int×Int×Unit
abbrev Zy24_2:Ty:=(.pair (.slice (.pair (.int .i64) (.pair (.int .i64) (.pair (.int .i64) (.pair (.int .i64) (.pair (.int .i64) (.pair (.int .i64) (.pair .bool (.pair (.int .i64) .unit))))))))) (.pair (.slice (.pair (.int .i64) (.pair (.int .i64) (.pair (.int .i64) (.pair (.int .i64) (.pair (.int .i64) (.pair (.slice (.int .i64)) (.pair (.int .i64) .unit)))))))) (.pair (.int .i64) (.pair .bool .unit))))
abbrev Zt24_3:Type:=Int×Int×Unit
abbrev Zy24_4:Ty:=(.pair (.pair (.slice (.int .u32)) (.pair (.slice (.int .i64)) (.pair (.int .i64) .unit))) (.pair (.int .i64) (.pair (.int .i64) .unit)))
abbrev Zy24_5:Ty:=(.pair (.int .i64) (.pair (.int .u32) .unit))
abbrev A_24:List Ty:=[(.pair (.pair (.slice (.int .u32)) (.pair (.slice (.int .i64)) (.pair (.int .i64) .unit))) (.pair (.int .i64) (.pair (.int .i64) .unit))),(.pair (.slice (.pair (.int .i64) (.pair (.int .i64) (.pair (.int .i64) (.pair (.int .i64) (.pair (.int .i64) (.pair (.int .i64) (.pair .bool (.pair (.int .i64) .unit))))))))) (.pair (.slice (.pair (.int .i64) (.pair (.int .i64) (.pair (.int .i64) (.pair (.int .i64) (.pair (.int .i64) (.pair (.slice (.int .i64)) (.pair (.int .i64) .unit)))))))) (.pair (.int .i64) (.pair .bool .unit)))),(.pair (.int .i64) (.pair (.int .u32) .unit))]
abbrev R_24:List Ty:=[(.pair (.pair (.slice (.int .u32)) (.pair (.slice (.int .i64)) (.pair (.int .i64) .unit))) (.pair (.int .i64) (.pair (.int .i64) .unit))),(.pair (.int .i64) (.pair (.int .u32) .unit)),(.int .i64)]
noncomputable def sm_24:Nat->Option Summ:=smL [(64,s_64),(65,s_65),(66,s_66),(67,s_67)]
noncomputable def T_24_0:PS:=⟨74,[(3,.kc (.ptr 0 [])),(4,.kc (.ptr 1 [])),(5,.kc (.ptr 2 [])),(6,.kc (.ptr 3 [])),(7,.kc (.ptr 6 [])),(9,.kc (.whole 7)),(10,.hv (.int .i64))],[.mem (.hv Zy24_4),.mem (.hv Zy24_2),.mem (.hv Zy24_5),.mem (.pr (.pr (.kc (.whole 4)) (.pr (.kc (.whole 5)) (.hv (.pair (.int .i64) .unit)))) (.hv (.pair (.int .i64) (.pair (.int .i64) .unit)))),.vec 51 (.int .u32),.vec 3 (.int .i64),.mem (.hv Zy24_5),.vec 3 (.int .i64)],0⟩
inductive Sp.E_24_0 where
 |e0 (p1:Zt24_1) (p2:Zt24_0) (p3:Zt24_3) (p4:Int×Unit) (p5:Zt24_3) (p6 p7:List Int) (p8:Zt24_3) (p9:List Int)
noncomputable def Sp.B_24_0{R:Type}(r:Option E_24_0)(k0:Zt24_1->Zt24_0->Zt24_3->(Int×Unit)->Zt24_3->List Int->List Int->Zt24_3->List Int->Option R):Option R:=match r with
 |none=>none
 |some (.e0 p1 p2 p3 p4 p5 p6 p7 p8 p9)=>k0 p1 p2 p3 p4 p5 p6 p7 p8 p9
noncomputable def Y_24_0{R:Type}(k:Ex->St->Option R):E_24_0->Option R
 | .e0 p1 p2 p3 p4 p5 p6 p7 p8 p9=>k (Ex.exit 0) (sx 74 [(3,CV.ptr 0 []),(4,CV.ptr 1 []),(5,CV.ptr 2 []),(6,CV.ptr 3 []),(7,CV.ptr 6 []),(9,CV.whole 7)] [Blk.mem (CV.pure (Ty.pair (Ty.pair (Ty.slice (Ty.int u32)) (Ty.pair (Ty.slice (Ty.int i64)) (Ty.pair (Ty.int i64) Ty.unit))) (Ty.pair (Ty.int i64) (Ty.pair (Ty.int i64) Ty.unit))) p1),Blk.mem (CV.pure (Ty.pair (Ty.slice (Ty.pair (Ty.int i64) (Ty.pair (Ty.int i64) (Ty.pair (Ty.int i64) (Ty.pair (Ty.int i64) (Ty.pair (Ty.int i64) (Ty.pair (Ty.int i64) (Ty.pair Ty.bool (Ty.pair (Ty.int i64) Ty.unit))))))))) (Ty.pair (Ty.slice (Ty.pair (Ty.int i64) (Ty.pair (Ty.int i64) (Ty.pair (Ty.int i64) (Ty.pair (Ty.int i64) (Ty.pair (Ty.int i64) (Ty.pair (Ty.slice (Ty.int i64)) (Ty.pair (Ty.int i64) Ty.unit)))))))) (Ty.pair (Ty.int i64) (Ty.pair Ty.bool Ty.unit)))) p2),Blk.mem (CV.pure (Ty.pair (Ty.int i64) (Ty.pair (Ty.int u32) Ty.unit)) p3),Blk.mem (CV.pair (CV.pair (CV.whole 4) (CV.pair (CV.whole 5) (CV.pure (Ty.pair (Ty.int i64) Ty.unit) p4))) (CV.pure (Ty.pair (Ty.int i64) (Ty.pair (Ty.int i64) Ty.unit)) p5)),Blk.vec 51 (Ty.int u32) p6,Blk.vec 3 (Ty.int i64) p7,Blk.mem (CV.pure (Ty.pair (Ty.int i64) (Ty.pair (Ty.int u32) Ty.unit)) p8),Blk.vec 3 (Ty.int i64) p9])
noncomputable def Sp.S_24_0{R:Type}(K:Int->((List Int×List Int×Int×Unit)×Int×Int×Unit)->(List (Int×Int×Int×Int×Int×Int×Bool×Int×Unit)×List (Int×Int×Int×Int×Int×List Int×Int×Unit)×Int×Bool×Unit)->(Int×Int×Unit)->(Int×Unit)->(Int×Int×Unit)->List Int->List Int->(Int×Int×Unit)->List Int->Option R)(k:E_24_0->Option R)(p0:Int)(p1:(List Int×List Int×Int×Unit)×Int×Int×Unit)(p2:List (Int×Int×Int×Int×Int×Int×Bool×Int×Unit)×List (Int×Int×Int×Int×Int×List Int×Int×Unit)×Int×Bool×Unit)(p3:Int×Int×Unit)(p4:Int×Unit)(p5:Int×Int×Unit)(p6 p7:List Int)(p8:Int×Int×Unit)(p9:List Int):Option R:=
 bif decide (p0<(↑(length (p2.2.1)):Int))then gd (room (length p9+1) 8) (K (wrap i64 (p0+1)) p1 p2 p3 p4 p5 p6 p7 p8 (p9++[p0]))else k (E_24_0.e0 p1 p2 p3 p4 p5 p6 p7 p8 p9)
noncomputable def Sp.L_24_0:Nat->Int->((List Int×List Int×Int×Unit)×Int×Int×Unit)->(List (Int×Int×Int×Int×Int×Int×Bool×Int×Unit)×List (Int×Int×Int×Int×Int×List Int×Int×Unit)×Int×Bool×Unit)->(Int×Int×Unit)->(Int×Unit)->(Int×Int×Unit)->List Int->List Int->(Int×Int×Unit)->List Int->Option E_24_0
 |0,_,_,_,_,_,_,_,_,_,_=>none
 |m+1,p0,p1,p2,p3,p4,p5,p6,p7,p8,p9=>S_24_0 (L_24_0 m) some p0 p1 p2 p3 p4 p5 p6 p7 p8 p9
noncomputable def l_24_0(m:Nat)(a:T_24_0.E):Option E_24_0:=L_24_0 m a.1 a.2.1 a.2.2.1 a.2.2.2.1 a.2.2.2.2.1 a.2.2.2.2.2.1 a.2.2.2.2.2.2.1 a.2.2.2.2.2.2.2.1 a.2.2.2.2.2.2.2.2.1 a.2.2.2.2.2.2.2.2.2.1
noncomputable def O_24_0{R:Type}:Orc R:=orL T_24_0 (l_24_0 FU) Y_24_0
noncomputable def T_24_1:PS:=⟨74,[(3,.kc (.ptr 0 [])),(4,.kc (.ptr 1 [])),(5,.kc (.ptr 2 [])),(6,.kc (.ptr 3 [])),(7,.kc (.ptr 6 [])),(9,.kc (.whole 7)),(11,.hv (.int .i64))],[.mem (.hv Zy24_4),.mem (.hv Zy24_2),.mem (.hv Zy24_5),.mem (.pr (.pr (.kc (.whole 4)) (.pr (.kc (.whole 5)) (.hv (.pair (.int .i64) .unit)))) (.hv (.pair (.int .i64) (.pair (.int .i64) .unit)))),.vec 51 (.int .u32),.vec 3 (.int .i64),.mem (.hv Zy24_5),.vec 3 (.int .i64)],0⟩
inductive Sp.E_24_1 where
 |e0 (p0:Int) (p1:Zt24_1) (p2:Zt24_0) (p9:List Int)
 |e1 (p0:Int) (p1:Zt24_1) (p2:Zt24_0) (p3:Zt24_3) (p9:List Int)
 |e2 (p1:Zt24_1) (p3:Zt24_3) (p4:Int×Unit) (p5:Zt24_3) (p6 p7:List Int) (p8:Zt24_3)
noncomputable def Sp.B_24_1{R:Type}(r:Option E_24_1)(k0:Int->Zt24_1->Zt24_0->List Int->Option R)(k1:Int->Zt24_1->Zt24_0->Zt24_3->List Int->Option R)(k2:Zt24_1->Zt24_3->(Int×Unit)->Zt24_3->List Int->List Int->Zt24_3->Option R):Option R:=match r with
 |none=>none
 |some (.e0 p0 p1 p2 p9)=>k0 p0 p1 p2 p9
 |some (.e1 p0 p1 p2 p3 p9)=>k1 p0 p1 p2 p3 p9
 |some (.e2 p1 p3 p4 p5 p6 p7 p8)=>k2 p1 p3 p4 p5 p6 p7 p8
noncomputable def Y_24_1{R:Type}(k:Ex->St->Option R):E_24_1->Option R
 | .e0 p0 p1 p2 p9=>k Ex.ret (sx 74 [(6,CV.ptr 0 []),(7,CV.ptr 3 []),(8,CV.int i64 ((v_65 p1 (getD p9 (toNat p0) 0) ((v_66 p2 (getD p9 (toNat p0) 0)).1)).2.1))] [Blk.mem (CV.pair (CV.pair (CV.whole 1) (CV.pair (CV.whole 2) (CV.pure (Ty.pair (Ty.int i64) Ty.unit) ((0,PUnit.unit):(Int×Unit))))) (CV.pure (Ty.pair (Ty.int i64) (Ty.pair (Ty.int i64) Ty.unit)) ((0,0,PUnit.unit):(Int×(Int×Unit))))),Blk.vec 51 (Ty.int u32) [],Blk.vec 3 (Ty.int i64) [],Blk.mem (CV.pure (Ty.pair (Ty.int i64) (Ty.pair (Ty.int u32) Ty.unit)) ((0,0,PUnit.unit):(Int×(Int×Unit))))])
 | .e1 p0 p1 p2 p3 p9=>k Ex.ret (sx 74 [(6,CV.ptr 0 []),(7,CV.ptr 1 []),(8,CV.int i64 ((v_67 p1 ((v_65 p1 (getD p9 (toNat p0) 0) ((v_66 p2 (getD p9 (toNat p0) 0)).1)).1) p3).2.2.1))] [Blk.mem (CV.pure (Ty.pair (Ty.pair (Ty.slice (Ty.int u32)) (Ty.pair (Ty.slice (Ty.int i64)) (Ty.pair (Ty.int i64) Ty.unit))) (Ty.pair (Ty.int i64) (Ty.pair (Ty.int i64) Ty.unit))) (((v_67 p1 ((v_65 p1 (getD p9 (toNat p0) 0) ((v_66 p2 (getD p9 (toNat p0) 0)).1)).1) p3).1):(((List Int)×((List Int)×(Int×Unit)))×(Int×(Int×Unit))))),Blk.mem (CV.pure (Ty.pair (Ty.int i64) (Ty.pair (Ty.int u32) Ty.unit)) (((v_67 p1 ((v_65 p1 (getD p9 (toNat p0) 0) ((v_66 p2 (getD p9 (toNat p0) 0)).1)).1) p3).2.1):(Int×(Int×Unit))))])
 | .e2 p1 p3 p4 p5 p6 p7 p8=>k (Ex.exit 2) (sx 74 [(3,CV.ptr 0 []),(5,CV.ptr 1 []),(6,CV.ptr 2 []),(7,CV.ptr 5 [])] [Blk.mem (CV.pure (Ty.pair (Ty.pair (Ty.slice (Ty.int u32)) (Ty.pair (Ty.slice (Ty.int i64)) (Ty.pair (Ty.int i64) Ty.unit))) (Ty.pair (Ty.int i64) (Ty.pair (Ty.int i64) Ty.unit))) p1),Blk.mem (CV.pure (Ty.pair (Ty.int i64) (Ty.pair (Ty.int u32) Ty.unit)) p3),Blk.mem (CV.pair (CV.pair (CV.whole 3) (CV.pair (CV.whole 4) (CV.pure (Ty.pair (Ty.int i64) Ty.unit) p4))) (CV.pure (Ty.pair (Ty.int i64) (Ty.pair (Ty.int i64) Ty.unit)) p5)),Blk.vec 51 (Ty.int u32) p6,Blk.vec 3 (Ty.int i64) p7,Blk.mem (CV.pure (Ty.pair (Ty.int i64) (Ty.pair (Ty.int u32) Ty.unit)) p8)])
noncomputable def Sp.S_24_1{R:Type}(K:Int->((List Int×List Int×Int×Unit)×Int×Int×Unit)->(List (Int×Int×Int×Int×Int×Int×Bool×Int×Unit)×List (Int×Int×Int×Int×Int×List Int×Int×Unit)×Int×Bool×Unit)->(Int×Int×Unit)->(Int×Unit)->(Int×Int×Unit)->List Int->List Int->(Int×Int×Unit)->List Int->Option R)(k:E_24_1->Option R)(p0:Int)(p1:(List Int×List Int×Int×Unit)×Int×Int×Unit)(p2:List (Int×Int×Int×Int×Int×Int×Bool×Int×Unit)×List (Int×Int×Int×Int×Int×List Int×Int×Unit)×Int×Bool×Unit)(p3:Int×Int×Unit)(p4:Int×Unit)(p5:Int×Int×Unit)(p6 p7:List Int)(p8:Int×Int×Unit)(p9:List Int):Option R:=
 bif decide (p0<(↑(length p9):Int))then gd (inB p0 (length p9)) (gd (decide (toNat p0<length p9)&&true) (gd (p_64 p1 p2 (getD p9 (toNat p0) 0)) (bif(v_64 p1 p2 (getD p9 (toNat p0) 0)).1 then K (wrap i64 (p0+1)) p1 p2 p3 p4 p5 p6 p7 p8 p9 else gd (inB p0 (length p9)) (gd (decide (toNat p0<length p9)&&true) (gd (inB p0 (length p9)) (gd (decide (toNat p0<length p9)&&true) (gd (p_66 p2 (getD p9 (toNat p0) 0)) (gd (p_65 p1 (getD p9 (toNat p0) 0) ((v_66 p2 (getD p9 (toNat p0) 0)).1)) (bif(v_65 p1 (getD p9 (toNat p0) 0) ((v_66 p2 (getD p9 (toNat p0) 0)).1)).2.1 !=0 then k (E_24_1.e0 p0 p1 p2 p9)else gd (p_67 p1 ((v_65 p1 (getD p9 (toNat p0) 0) ((v_66 p2 (getD p9 (toNat p0) 0)).1)).1) p3) (bif(v_67 p1 ((v_65 p1 (getD p9 (toNat p0) 0) ((v_66 p2 (getD p9 (toNat p0) 0)).1)).1) p3).2.2.1 !=0 then k (E_24_1.e1 p0 p1 p2 p3 p9)else K (wrap i64 (p0+1)) ((v_67 p1 ((v_65 p1 (getD p9 (toNat p0) 0) ((v_66 p2 (getD p9 (toNat p0) 0)).1)).1) p3).1) p2 ((v_67 p1 ((v_65 p1 (getD p9 (toNat p0) 0) ((v_66 p2 (getD p9 (toNat p0) 0)).1)).1) p3).2.1) p4 p5 p6 p7 p8 p9))))))))))else k (E_24_1.e2 p1 p3 p4 p5 p6 p7 p8)
noncomputable def Sp.L_24_1:Nat->Int->((List Int×List Int×Int×Unit)×Int×Int×Unit)->(List (Int×Int×Int×Int×Int×Int×Bool×Int×Unit)×List (Int×Int×Int×Int×Int×List Int×Int×Unit)×Int×Bool×Unit)->(Int×Int×Unit)->(Int×Unit)->(Int×Int×Unit)->List Int->List Int->(Int×Int×Unit)->List Int->Option E_24_1
 |0,_,_,_,_,_,_,_,_,_,_=>none
 |m+1,p0,p1,p2,p3,p4,p5,p6,p7,p8,p9=>S_24_1 (L_24_1 m) some p0 p1 p2 p3 p4 p5 p6 p7 p8 p9
noncomputable def l_24_1(m:Nat)(a:T_24_1.E):Option E_24_1:=L_24_1 m a.1 a.2.1 a.2.2.1 a.2.2.2.1 a.2.2.2.2.1 a.2.2.2.2.2.1 a.2.2.2.2.2.2.1 a.2.2.2.2.2.2.2.1 a.2.2.2.2.2.2.2.2.1 a.2.2.2.2.2.2.2.2.2.1
noncomputable def O_24_1{R:Type}:Orc R:=orL T_24_1 (l_24_1 FU) Y_24_1
noncomputable def F_24(a0:(((List Int)×((List Int)×(Int×Unit)))×(Int×(Int×Unit))))(a1:((List (Int×(Int×(Int×(Int×(Int×(Int×(Bool×(Int×Unit)))))))))×((List (Int×(Int×(Int×(Int×(Int×((List Int)×(Int×Unit))))))))×(Int×(Bool×Unit)))))(a2:(Int×(Int×Unit))):Option ((((List Int)×((List Int)×(Int×Unit)))×(Int×(Int×Unit)))×(Int×(Int×Unit))×Int×Unit) :=
 B_24_0 (L_24_0 4611686018427387904 0 a0 a1 a2 (0,PUnit.unit) (0,0,PUnit.unit) [] [] (0,0,PUnit.unit) [254]) fun y25 y26 y27 y28 y29 y30 y31 y32 y33=>B_24_1 (L_24_1 4611686018427387904 0 y25 y26 y27 y28 y29 y30 y31 y32 y33) (fun y34 y35 y36 y37=>some ((([],[],0,PUnit.unit),0,0,PUnit.unit),(0,0,PUnit.unit),(v_65 y35 (getD y37 (toNat y34) 0) ((v_66 y36 (getD y37 (toNat y34) 0)).1)).2.1,PUnit.unit)) (fun y38 y39 y40 y41 y42=>some ((v_67 y39 ((v_65 y39 (getD y42 (toNat y38) 0) ((v_66 y40 (getD y42 (toNat y38) 0)).1)).1) y41).1,(v_67 y39 ((v_65 y39 (getD y42 (toNat y38) 0) ((v_66 y40 (getD y42 (toNat y38) 0)).1)).1) y41).2.1,(v_67 y39 ((v_65 y39 (getD y42 (toNat y38) 0) ((v_66 y40 (getD y42 (toNat y38) 0)).1)).1) y41).2.2.1,PUnit.unit)) fun y43 y44 y45 y46 y47 y48 y49=>some (y43,y44,0,PUnit.unit)
noncomputable def Sp.p_24(a0:(((List Int)×((List Int)×(Int×Unit)))×(Int×(Int×Unit))))(a1:((List (Int×(Int×(Int×(Int×(Int×(Int×(Bool×(Int×Unit)))))))))×((List (Int×(Int×(Int×(Int×(Int×((List Int)×(Int×Unit))))))))×(Int×(Bool×Unit)))))(a2:(Int×(Int×Unit))):Bool:=(F_24 a0 a1 a2).isSome
noncomputable def Sp.v_24(a0:(((List Int)×((List Int)×(Int×Unit)))×(Int×(Int×Unit))))(a1:((List (Int×(Int×(Int×(Int×(Int×(Int×(Bool×(Int×Unit)))))))))×((List (Int×(Int×(Int×(Int×(Int×((List Int)×(Int×Unit))))))))×(Int×(Bool×Unit)))))(a2:(Int×(Int×Unit))):(((List Int)×((List Int)×(Int×Unit)))×(Int×(Int×Unit)))×(Int×(Int×Unit))×Int×Unit:=(F_24 a0 a1 a2).getD (dfH R_24)
noncomputable def s_24:Summ:=shS A_24 R_24 (fun x=>p_24 x.1 x.2.1 x.2.2.1) (fun x=>v_24 x.1 x.2.1 x.2.2.1)
end
namespace Sp
noncomputable def svl(F:FsT):Nat->Nat->MeT->PwT->OuM
 |0,_,m,p=>(m,p,0,())
 |d+1,i,m,p=>if utd m i (dat F i)=true then svl F d (i+1) m p else if(wrv m i (dat F i) p).2.2.1=0 then svl F d (i+1) (wrv m i (dat F i) p).1 (wrv m i (dat F i) p).2.1 else wrv m i (dat F i) p
noncomputable def svw(F:FsT)(m:MeT)(p:PwT):OuM:=if utd m 254 (dat F 254)=true then svl F F.2.1.length 0 m p else if(wrv m 254 (dat F 254) p).2.2.1=0 then svl F F.2.1.length 0 (wrv m 254 (dat F 254) p).1 (wrv m 254 (dat F 254) p).2.1 else wrv m 254 (dat F 254) p
noncomputable def svv(m:MeT)(F:FsT)(p:PwT):OuM:=if mvl m=true/\vf F=true/\pok p=true then svw F m p else(zM,(0,0,()),1,())
end Sp
structure MG(m:MeT)(p:PwT):Prop where
 w:W32f m.1
 v:Sp.mvl m=true
 p0:0<=p.1
 p1:p.1<=1099511627776
theorem MG.pok{m:MeT}{p:PwT}(g:MG m p):Sp.pok p=true:=by
 unfold Sp.pok
 rw[decide_eq_true g.p0,decide_eq_true g.p1];rfl
theorem wrv_r{m:MeT}{p:PwT}(g:MG m p){key:Int}{d:List Int}(k0:0<=key)(k1:key<=254)(k2:d.length<=24)(hd:W32l d):((Sp.wrs m key d).2.1≠0->Sp.wrv m key d p=(Sp.zM,(0,0,()),(Sp.wrs m key d).2.1,()))/\((Sp.wrs m key d).2.1=0->Sp.wrv m key d p=Sp.rdo m (Sp.wrs m key d).1 p/\SG m.1 (Sp.dol (Sp.wrs m key d).1 (m.1,p,0,()))):=by
 unfold Sp.wrv
 rw[if_pos ⟨g.v,g.pok⟩,if_pos ⟨k0,k1,k2⟩]
 refine⟨fun c=>by rw[if_neg c],fun c=> ?_⟩
 have s:=(wrs_sv g.w g.v c).2 p g.p0 g.p1
 rw[if_pos c]
 refine⟨?_,s⟩
 unfold Sp.dov Sp.rdo
 rw[if_pos s.e]
theorem wrv_go{m:MeT}{p:PwT}(g:MG m p){key:Int}{d:List Int}(k0:0<=key)(k1:key<=254)(k2:d.length<=24)(hd:W32l d)(e:(Sp.wrv m key d p).2.2.1=0):MG (Sp.wrv m key d p).1 (Sp.wrv m key d p).2.1:=by
 have r:=wrv_r g k0 k1 k2 hd
 by_cases c:(Sp.wrs m key d).2.1=0
 rotate_left
 ·rw[r.1 c]at e;exact absurd e c
 rw[(r.2 c).1]at e⊢
 have o:=wr_ok g.w g.v k0 k1 k2 hd g.p0 g.p1 c _ rfl e
 exact⟨o.1.w,o.2,o.1.p0,o.1.p1⟩
theorem mg_len{m:MeT}{p:PwT}(g:MG m p):m.1.1.length<=1000000/\m.1.2.1.length<=1000000:=by
 have v:=fv_iff.1 (mvl_d g.v).1
 omega
theorem bj1{R:Type}{m:MeT}{p:PwT}(hw:W32f m.1){key:Int}{d:List Int}(k2:d.length<=24)(hd:W32l d)(p1 p2 p3 p5 p7 p8 p9 p10 p11 p12 p13 k0 k1 kk):(B_21_91_1_1 (J_21_91_1_1 key p1 p2 p3 m p5 p p7 p8 p9 p10 p11 p12 p13 d) k0 k1 kk:Option R)=if Sp.utd m key d=true then k0 key p1 p2 p3 m p5 p p7 p8 p9 p10 p11 p12 p13 d else if(Sp.wrv m key d p).2.2.1=0 then kk key p1 p2 p3 m p5 p p7 p8 p9 p10 p11 p12 p13 d else k1 key m p5 p p11 p12 p13 d:=by
 have u:=utd_pv hw (key:=key) (d:=d) (by omega)
 have w:=wrv_pv hw (key:=key) hd p
 unfold J_21_91_1_1 S_21_91_1_1
 rw[u.1,u.2,gd_tt]
 dsimp only
 cases Sp.utd m key d
 ·rw[cond_f,w.1,w.2,gd_tt,if_neg Bool.false_ne_true]
  by_cases e:(Sp.wrv m key d p).2.2.1=0
  ·rw[cond_nff e,if_pos e];rfl
  ·rw[cond_ntt e,if_neg e];rfl
 ·rfl
theorem bj0{R:Type}{w r:List Int}{l:Int×Unit}{fc p:PwT}(hw:W32f (w,r,l)){key:Int}{d:List Int}(k2:d.length<=24)(hd:W32l d)(p1 p2 p3 p6 p8 p9 p10 p11 p14 k0 k1 kk):(B_21_91_1_0 (J_21_91_1_0 key p1 p2 p3 l fc p6 p p8 p9 p10 p11 w r p14 d) k0 k1 kk:Option R)=if Sp.utd ((w,r,l),fc) key d=true then k0 key p1 p2 p3 l fc p6 p p8 p9 p10 p11 w r p14 d else if(Sp.wrv ((w,r,l),fc) key d p).2.2.1=0 then kk key p1 p2 p3 l fc p6 p p8 p9 p10 p11 w r p14 d else k1 key l fc p6 p w r p14 d:=by
 have u:=utd_pv (m:=((w,r,l),fc)) hw (key:=key) (d:=d) (by omega)
 have wv:=wrv_pv (m:=((w,r,l),fc)) hw (key:=key) hd p
 unfold J_21_91_1_0 S_21_91_1_0
 rw[u.1,u.2,gd_tt]
 dsimp only
 cases Sp.utd ((w,r,l),fc) key d
 ·rw[cond_f,wv.1,wv.2,gd_tt,if_neg Bool.false_ne_true]
  by_cases e:(Sp.wrv ((w,r,l),fc) key d p).2.2.1=0
  ·rw[cond_nff e,if_pos e];rfl
  ·rw[cond_ntt e,if_neg e];rfl
 ·rfl
theorem dat_i{F:FsT}{i:Nat}(hi:i<=64):Sp.dat F i=if Sp.sto (F.2.1.getD i Zd0)=true then [wrap .u32 (F.1.getD i Zd1).1]++Sp.wpk (F.2.1.getD i Zd0)else []:=by
 unfold Sp.dat
 rw[if_neg (by omega),Int.toNat_natCast]
theorem sv1{F:FsT}(hv:Sp.vf F=true)(F4:FsT)(p6:Int×Unit)(p7 p8:PwT)(p9:Int)(p10 p11:List Int):∀(d q i:Nat)(m:MeT)(p:PwT),MG m p->i+d=F.2.1.length->d<q->
 B_21_91_0_1 (L_21_91_0_1 q F.2.1 F.2.1.length i m F4 p p6 p7 p8 p9 p10 p11 F) (fun(y80:Int)(y81:MeT)(y82:FsT)(y83:PwT)(y84 y85:List Int)(y86:FsT)(y87:List Int)=>some ((v_61 y81 y80 y87 y83).1,(v_61 y81 y80 y87 y83).2.1,(v_61 y81 y80 y87 y83).2.2.1,())) (fun(y88:MeT)(y89:FsT)(y90:PwT)(y91:Int×Unit)(y92 y93:PwT)(y94:Int)(y95 y96:List Int)(y97:FsT)=>some (y88,y90,0,()))=some (Sp.svl F d i m p)
 |0,q,i,m,p,g,hi,hq=>by
  obtain⟨q,rfl⟩:∃k,q=k+1:=⟨q-1,by omega⟩
  rw[L_21_91_0_1,S_21_91_0_1,cond_dff (by omega)];rfl
 |d+1,q,i,m,p,g,hi,hq=>by
  obtain⟨q,rfl⟩:∃k,q=k+1:=⟨q-1,by omega⟩
  have ih:=fun(m':MeT)(p':PwT)(g':MG m' p')=>sv1 hv F4 p6 p7 p8 p9 p10 p11 d q (i+1) m' p' g' (by omega) (by omega)
  have vd:=vf_d hv
  have st:=sto_pv (F.2.1.getD i Zd0)
  have gg:=vf_good hv (j:=i) (by omega)
  have pk:=pack_pv (F.2.1.getD i Zd0)
  rw[gg,cond_t]at pk
  have pw:=wpk_w gg
  have l8:=(good_iff.1 gg).2.2.2.2.2.1
  have db:=dat_b hv (key:=(i:Int)) (.inr ⟨by omega,by omega⟩)
  have ei:wrap .i64 ((i:Int)+1)=((i+1:Nat):Int):=by rw[wi64 (by omega) (by omega)];push_cast;rfl
  have ed:=dat_i (F:=F) (i:=i) (by omega)
  have wv:=wrv_pv g.w (key:=(i:Int)) db.1 p
  have fin:∀D,D=Sp.dat F i->B_21_91_0_1 (B_21_91_1_1 (J_21_91_1_1 (i:Int) F.2.1 F.2.1.length i m F4 p p6 p7 p8 p9 p10 p11 F D) (fun(y76:Int)(y77:List FaT)(y78 y79:Int)(y80:MeT)(y81:FsT)(y82:PwT)(y83:Int×Unit)(y84 y85:PwT)(y86:Int)(y87 y88:List Int)(y89:FsT)(y90:List Int)=>L_21_91_0_1 q y77 y78 (wrap .i64 (y79+1)) y80 y81 y82 y83 y84 y85 y86 y87 y88 y89) (fun(y91:Int)(y92:MeT)(y93:FsT)(y94:PwT)(y95 y96:List Int)(y97:FsT)(y98:List Int)=>some (.e0 y91 y92 y93 y94 y95 y96 y97 y98)) fun(y99:Int)(y100:List FaT)(y101 y102:Int)(y103:MeT)(y104:FsT)(y105:PwT)(y106:Int×Unit)(y107 y108:PwT)(y109:Int)(y110 y111:List Int)(y112:FsT)(y113:List Int)=>L_21_91_0_1 q y100 y101 (wrap .i64 (y102+1)) (v_61 y103 y99 y113 y105).1 y104 (v_61 y103 y99 y113 y105).2.1 y106 y107 y108 y109 y110 y111 y112) (fun(y80:Int)(y81:MeT)(y82:FsT)(y83:PwT)(y84 y85:List Int)(y86:FsT)(y87:List Int)=>some ((v_61 y81 y80 y87 y83).1,(v_61 y81 y80 y87 y83).2.1,(v_61 y81 y80 y87 y83).2.2.1,())) (fun(y88:MeT)(y89:FsT)(y90:PwT)(y91:Int×Unit)(y92 y93:PwT)(y94:Int)(y95 y96:List Int)(y97:FsT)=>some (y88,y90,0,()))=some (Sp.svl F (d+1) i m p):=by
   rintro D rfl
   rw[bj1 g.w (by omega) db.1,Sp.svl]
   by_cases u:Sp.utd m i (Sp.dat F i)=true
   ·rw[if_pos u,if_pos u,ei]
    exact ih m p g
   ·rw[if_neg u,if_neg u]
    by_cases e:(Sp.wrv m i (Sp.dat F i) p).2.2.1=0
    ·rw[if_pos e,if_pos e,ei,wv.2]
     exact ih _ _ (wrv_go g (by omega) (by omega) (by omega) db.1 e)
    ·rw[if_neg e,if_neg e]
     show some ((v_61 m i (Sp.dat F i) p).1,(v_61 m i (Sp.dat F i) p).2.1,(v_61 m i (Sp.dat F i) p).2.2.1,())=_
     rw[wv.2]
  rw[L_21_91_0_1,S_21_91_0_1,cond_dtt (by omega),gd_inB (by omega) (by omega),Int.toNat_natCast,st.1,st.2,gd_tt]
  dsimp only
  cases hs:Sp.sto (F.2.1.getD i Zd0)
  ·rw[hs,if_neg Bool.false_ne_true]at ed
   rw[cond_f]
   exact fin [] ed.symm
  ·rw[hs,if_pos rfl]at ed
   rw[cond_t,pk.1,pk.2,gd_tt,gd_inB (by omega) (by omega),gd_room (by dsimp only;omega) (by dsimp only;omega)]
   exact fin _ ed.symm
theorem bb01{R:Type}(x:Option E_21_91_0_1)(k0 k1 k2 k3):(B_21_91_0_0 (B_21_91_0_1 x (fun(y91:Int)(y92:MeT)(y93:FsT)(y94:PwT)(y95 y96:List Int)(y97:FsT)(y98:List Int)=>some (E_21_91_0_0.e2 y91 y92 y93 y94 y95 y96 y97 y98)) (fun(p3:MeT)(p4:FsT)(p5:PwT)(p6:Int×Unit)(p7 p8:PwT)(p9:Int)(p10 p11:List Int)(p12:FsT)=>some (E_21_91_0_0.e3 p3 p4 p5 p6 p7 p8 p9 p10 p11 p12))) k0 k1 k2 k3:Option R)=B_21_91_0_1 x k2 k3:=by
 cases x with
 |none=>rfl
 |some x=>cases x<;>rfl
theorem sv0{F:FsT}(hv:Sp.vf F=true)(F4:FsT)(z6:Int×Unit)(z7 z8:PwT)(z9:Int){w r:List Int}{l:Int×Unit}{fc p:PwT}(g:MG ((w,r,l),fc) p):∀(d q i:Nat),i+d=F.2.1.length->d+1<q->
 B_21_91_0_0 (L_21_91_0_0 q F.2.1 F.2.1.length i l fc F4 p z6 z7 z8 z9 w r F) (fun(y60:Int)(y61:Int×Unit)(y62:PwT)(y63:FsT)(y64:PwT)(y65 y66:List Int)(y67:FsT)(y68:List Int)=>some ((v_61 ((y65,y66,y61),y62) y60 y68 y64).1,(v_61 ((y65,y66,y61),y62) y60 y68 y64).2.1,(v_61 ((y65,y66,y61),y62) y60 y68 y64).2.2.1,())) (fun(y69:Int×Unit)(y70:PwT)(y71:FsT)(y72:PwT)(y73:Int×Unit)(y74 y75:PwT)(y76:Int)(y77 y78:List Int)(y79:FsT)=>some (((y77,y78,y69),y70),y72,0,())) (fun(y80:Int)(y81:MeT)(y82:FsT)(y83:PwT)(y84 y85:List Int)(y86:FsT)(y87:List Int)=>some ((v_61 y81 y80 y87 y83).1,(v_61 y81 y80 y87 y83).2.1,(v_61 y81 y80 y87 y83).2.2.1,())) (fun(y88:MeT)(y89:FsT)(y90:PwT)(y91:Int×Unit)(y92 y93:PwT)(y94:Int)(y95 y96:List Int)(y97:FsT)=>some (y88,y90,0,()))=some (Sp.svl F d i ((w,r,l),fc) p)
 |0,q,i,hi,hq=>by
  obtain⟨q,rfl⟩:∃k,q=k+1:=⟨q-1,by omega⟩
  rw[L_21_91_0_0,S_21_91_0_0,cond_dff (by omega)];rfl
 |d+1,q,i,hi,hq=>by
  obtain⟨q,rfl⟩:∃k,q=k+1:=⟨q-1,by omega⟩
  have ih:=sv0 hv F4 z6 z7 z8 z9 g d q (i+1) (by omega) (by omega)
  have vd:=vf_d hv
  have st:=sto_pv (F.2.1.getD i Zd0)
  have gg:=vf_good hv (j:=i) (by omega)
  have pk:=pack_pv (F.2.1.getD i Zd0)
  rw[gg,cond_t]at pk
  have pw:=wpk_w gg
  have l8:=(good_iff.1 gg).2.2.2.2.2.1
  have db:=dat_b hv (key:=(i:Int)) (.inr ⟨by omega,by omega⟩)
  have ei:wrap .i64 ((i:Int)+1)=((i+1:Nat):Int):=by rw[wi64 (by omega) (by omega)];push_cast;rfl
  have ed:=dat_i (F:=F) (i:=i) (by omega)
  have wv:=wrv_pv (m:=((w,r,l),fc)) g.w (key:=(i:Int)) db.1 p
  have fin:∀D,D=Sp.dat F i->B_21_91_0_0 (B_21_91_1_0 (J_21_91_1_0 (i:Int) F.2.1 F.2.1.length i l fc F4 p z6 z7 z8 z9 w r F D) (fun(y82:Int)(y83:List FaT)(y84 y85:Int)(y86:Int×Unit)(y87:PwT)(y88:FsT)(y89:PwT)(y90:Int×Unit)(y91 y92:PwT)(y93:Int)(y94 y95:List Int)(y96:FsT)(y97:List Int)=>L_21_91_0_0 q y83 y84 (wrap .i64 (y85+1)) y86 y87 y88 y89 y90 y91 y92 y93 y94 y95 y96) (fun(y98:Int)(y99:Int×Unit)(y100:PwT)(y101:FsT)(y102:PwT)(y103 y104:List Int)(y105:FsT)(y106:List Int)=>some (.e0 y98 y99 y100 y101 y102 y103 y104 y105 y106)) fun(y107:Int)(y108:List FaT)(y109 y110:Int)(y111:Int×Unit)(y112:PwT)(y113:FsT)(y114:PwT)(y115:Int×Unit)(y116 y117:PwT)(y118:Int)(y119 y120:List Int)(y121:FsT)(y122:List Int)=>(fun q0 q1 q2 q3 q4 q5 q6 q7 q8 q9 q10 q11 q12=>B_21_91_0_1 (L_21_91_0_1 q q0 q1 q2 q3 q4 q5 q6 q7 q8 q9 q10 q11 q12) (fun(y91:Int)(y92:MeT)(y93:FsT)(y94:PwT)(y95 y96:List Int)(y97:FsT)(y98:List Int)=>some (E_21_91_0_0.e2 y91 y92 y93 y94 y95 y96 y97 y98)) (fun(p3:MeT)(p4:FsT)(p5:PwT)(p6:Int×Unit)(p7 p8:PwT)(p9:Int)(p10 p11:List Int)(p12:FsT)=>some (E_21_91_0_0.e3 p3 p4 p5 p6 p7 p8 p9 p10 p11 p12))) y108 y109 (wrap .i64 (y110+1)) (v_61 ((y119,y120,y111),y112) y107 y122 y114).1 y113 (v_61 ((y119,y120,y111),y112) y107 y122 y114).2.1 y115 y116 y117 y118 y119 y120 y121) (fun(y60:Int)(y61:Int×Unit)(y62:PwT)(y63:FsT)(y64:PwT)(y65 y66:List Int)(y67:FsT)(y68:List Int)=>some ((v_61 ((y65,y66,y61),y62) y60 y68 y64).1,(v_61 ((y65,y66,y61),y62) y60 y68 y64).2.1,(v_61 ((y65,y66,y61),y62) y60 y68 y64).2.2.1,())) (fun(y69:Int×Unit)(y70:PwT)(y71:FsT)(y72:PwT)(y73:Int×Unit)(y74 y75:PwT)(y76:Int)(y77 y78:List Int)(y79:FsT)=>some (((y77,y78,y69),y70),y72,0,())) (fun(y80:Int)(y81:MeT)(y82:FsT)(y83:PwT)(y84 y85:List Int)(y86:FsT)(y87:List Int)=>some ((v_61 y81 y80 y87 y83).1,(v_61 y81 y80 y87 y83).2.1,(v_61 y81 y80 y87 y83).2.2.1,())) (fun(y88:MeT)(y89:FsT)(y90:PwT)(y91:Int×Unit)(y92 y93:PwT)(y94:Int)(y95 y96:List Int)(y97:FsT)=>some (y88,y90,0,()))=some (Sp.svl F (d+1) i ((w,r,l),fc) p):=by
   rintro D rfl
   rw[bj0 g.w (by omega) db.1,Sp.svl]
   by_cases u:Sp.utd ((w,r,l),fc) i (Sp.dat F i)=true
   ·rw[if_pos u,if_pos u,ei]
    exact ih
   ·rw[if_neg u,if_neg u]
    by_cases e:(Sp.wrv ((w,r,l),fc) i (Sp.dat F i) p).2.2.1=0
    ·rw[if_pos e,if_pos e,ei,wv.2]
     dsimp only
     rw[bb01]
     exact sv1 hv F4 z6 z7 z8 z9 w r d q (i+1) _ _ (wrv_go g (by omega) (by omega) (by omega) db.1 e) (by omega) (by omega)
    ·rw[if_neg e,if_neg e]
     show some ((v_61 ((w,r,l),fc) i (Sp.dat F i) p).1,(v_61 ((w,r,l),fc) i (Sp.dat F i) p).2.1,(v_61 ((w,r,l),fc) i (Sp.dat F i) p).2.2.1,())=_
     rw[wv.2]
  rw[L_21_91_0_0,S_21_91_0_0,cond_dtt (by omega),gd_inB (by omega) (by omega),Int.toNat_natCast,st.1,st.2,gd_tt]
  dsimp only
  cases hs:Sp.sto (F.2.1.getD i Zd0)
  ·rw[hs,if_neg Bool.false_ne_true]at ed
   rw[cond_f]
   exact fin [] ed.symm
  ·rw[hs,if_pos rfl]at ed
   rw[cond_t,pk.1,pk.2,gd_tt,gd_inB (by omega) (by omega),gd_room (by dsimp only;omega) (by dsimp only;omega)]
   exact fin _ ed.symm
theorem save_pv{m:MeT}{F:FsT}(hw:W32f m.1)(sm:Sm F)(p:PwT):p_21 m F p=true/\v_21 m F p=Sp.svv m F p:=by
 have v:=mvl_pv hw
 have f:=vf_pv sm
 refine pv_21 m F p ?_
 unfold F_21 Sp.svv
 rw[v.1,v.2,gd_tt]
 dsimp only
 cases hm:Sp.mvl m
 ·rw[Bool.not_false,cond_t,if_neg (fun z=>Bool.noConfusion z.1)];rfl
 rw[Bool.not_true,cond_f,f.1,f.2,gd_tt]
 dsimp only
 cases hf:Sp.vf F
 ·rw[Bool.not_false,cond_t,if_neg (fun z=>Bool.noConfusion z.2.1)];rfl
 rw[Bool.not_true,cond_f]
 by_cases h0:p.1<0
 ·rw[cond_dtt h0,if_neg (fun z=>by have:=z.2.2;unfold Sp.pok at this;simp at this;omega)];rfl
 by_cases h1:p.1>1099511627776
 ·rw[cond_dff h0,cond_dtt h1,if_neg (fun z=>by have:=z.2.2;unfold Sp.pok at this;simp at this;omega)];rfl
 have g:MG m p:=⟨hw,hm,by omega,by omega⟩
 have vd:=vf_d hf
 have fl:=fv_iff.1 (mvl_d hm).1
 have db:=dat_b hf (key:=254) (.inl rfl)
 have d0:Sp.dat F 254=[wrap .u32 F.2.2.1]:=by unfold Sp.dat;rw[if_pos rfl]
 have em:((m.1.1,m.1.2.1,m.1.2.2),m.2)=m:=rfl
 have u:=utd_pv hw (key:=254) (d:=[wrap .u32 F.2.2.1]) (by show 1<=1000;decide)
 have wv:=wrv_pv hw (key:=254) (d0▸db.1) p
 rw[cond_dff h0,cond_dff h1,if_pos ⟨rfl,rfl,g.pok⟩,gd_room (by omega) (by omega),gd_room (by omega) (by omega),em,u.1,u.2,gd_tt]
 unfold Sp.svw
 rw[d0]
 dsimp only
 cases hu:Sp.utd m 254 [wrap .u32 F.2.2.1]
 ·rw[cond_f,wv.1,wv.2,gd_tt,if_neg Bool.false_ne_true]
  by_cases e:(Sp.wrv m 254 [wrap .u32 F.2.2.1] p).2.2.1=0
  ·rw[cond_nff e,if_pos e]
   exact sv1 hf F (0,()) (0,0,()) (0,0,()) 0 m.1.1 m.1.2.1 F.2.1.length 4611686018427387904 0 _ _ (wrv_go g (by omega) (by omega) (by show 1<=24;decide) (d0▸db.1) e) (by omega) (by omega)
  ·rw[cond_ntt e,if_neg e]
 ·rw[cond_t,if_pos rfl]
  exact sv0 hf F (0,()) (0,0,()) (0,0,()) 0 (w:=m.1.1) (r:=m.1.2.1) (l:=m.1.2.2) (fc:=m.2) g F.2.1.length 4611686018427387904 0 (by omega) (by omega)
set_option maxRecDepth 100000
set_option maxHeartbeats 4000000
namespace Sp
noncomputable def lku(E:List EnT)(k:Int):Option (List Int):=(E.filter fun e=>e.1==k).head?.map fun e=>e.2.1
noncomputable def fil(P:Int->Bool)(E:List EnT):List EnT:=E.filter fun e=>P e.1
end Sp
theorem filter_none{E:List EnT}{P:EnT->Bool}(h:∀e∈E,P e=false):E.filter P=[]:=by
 rw[List.filter_eq_nil_iff]
 intro e he
 rw[h e he]
 exact Bool.false_ne_true
theorem drop_at{E:List EnT}{n:Nat}(h:n<E.length):E.drop n=E.getD n Sp.dE::E.drop (n+1):=by
 rw[List.drop_eq_getElem_cons h,getD_at _ h]
theorem fil_put{E:List EnT}{key:Int}{P:Int->Bool}(hp:P key=false)(d:List Int):Sp.fil P (Sp.putE E key d)=Sp.fil P E:=by
 unfold Sp.fil
 rw[putE_eq,List.filter_append,List.filter_append]
 have e1:List.filter (fun e:EnT=>P e.1) [(key,d,())]=[]:=by
  simp[hp]
 rw[e1,List.nil_append,<-List.filter_append]
 by_cases c:Sp.plE E key<E.length/\(E.getD (Sp.plE E key) Sp.dE).1=key
 ·have s:skE E key=1:=by unfold skE;rw[if_pos c]
  rw[s,List.filter_append]
  conv=>rhs;rw[<-List.take_append_drop (Sp.plE E key) E,drop_at c.1,List.filter_append,List.filter_cons,c.2,hp]
  rfl
 ·have s:skE E key=0:=by unfold skE;rw[if_neg c]
  rw[s,Nat.add_zero,List.take_append_drop]
theorem mem_take_lt{E:List EnT}{n:Nat}{e:EnT}(h:e∈E.take n):∃i,i<n/\i<E.length/\E.getD i Sp.dE=e:=by
 obtain⟨i,hi,he⟩:=List.mem_iff_getElem.1 h
 rw[List.length_take]at hi
 refine⟨i,by omega,by omega,?_⟩
 rw[getD_at _ (show i<E.length by omega),<-he,List.getElem_take]
theorem lku_fil{E:List EnT}{k:Int}:Sp.lku E k=(Sp.fil (fun x=>x==k) E).head?.map fun e=>e.2.1:=rfl
theorem lku_put{E:List EnT}(h:Asc E)(key:Int)(d:List Int)(k:Int):Sp.lku (Sp.putE E key d) k=if k=key then some d else Sp.lku E k:=by
 by_cases e:k=key
 rotate_left
 ·rw[if_neg e,lku_fil,fil_put (P:=fun x=>x==k) (key:=key) (beq_eq_false_iff_ne.2 (fun z=>e z.symm)),<-lku_fil]
 subst e
 have pa:=plE_at h k
 rw[if_pos rfl]
 unfold Sp.lku
 rw[putE_eq,List.filter_append]
 have e0:List.filter (fun e:EnT=>e.1==k) (E.take (Sp.plE E k))=[]:=filter_none (fun e he=>by
  obtain⟨i,h1,h2,rfl⟩:=mem_take_lt he
  have:=pa.1 i h1
  exact beq_eq_false_iff_ne.2 (by omega))
 rw[e0,List.nil_append,List.filter_append]
 have e1:List.filter (fun e:EnT=>e.1==k) [(k,d,())]=[(k,d,())]:=by simp
 rw[e1]
 rfl
theorem fky_lku(E:List EnT)(k:Int):(match Sp.fky E k with|some j=>some (E.getD j Sp.dE).2.1|none=>none)=Sp.lku E k:=by
 unfold Sp.lku
 rw[List.head?_filter]
 cases hf:Sp.fky E k with
 |none=>
  unfold Sp.fky at hf
  have:E.find? (fun e=>e.1==k)=none:=by
   rw[List.find?_eq_none]
   intro e he
   obtain⟨i,hi,rfl⟩:=List.mem_iff_getElem.1 he
   have:=fnd_none.1 hf i (by omega) (by omega)
   rw[getD_at _ hi]at this
   rw[this]
   exact Bool.false_ne_true
  rw[this]
  rfl
 |some j=>
  unfold Sp.fky at hf
  obtain⟨_,hj,hp,hl⟩:=fnd_some hf
  have hj:j<E.length:=by omega
  rw[getD_at _ hj]at hp
  have:E.find? (fun e=>e.1==k)=some (E[j]):=by
   rw[List.find?_eq_some_iff_getElem]
   refine⟨hp,j,hj,rfl,fun i hi=> ?_⟩
   have:=hl i (by omega) hi
   rw[getD_at _ (show i<E.length by omega)]at this
   rw[this]
   rfl
  rw[this]
  dsimp only
  rw[getD_at _ hj]
  rfl
theorem rdk_v{m:MeT}(hm:Sp.mvl m=true){k:Int}(h0:0<=k)(h1:k<=254):Sp.rdk m k=(match Sp.lku (Sp.ent m) k with|some d=>(d,0,())|none=>([],7,())):=by
 unfold Sp.rdk
 rw[if_pos hm,if_neg (fun z=>by omega),<-fky_lku]
 cases Sp.fky (Sp.ent m) k<;>rfl
theorem sw_iff{a b:List Int}:Sp.sw a b=true↔a=b:=by
 unfold Sp.sw
 by_cases c:(a.length:Int)=(b.length:Int)
 rotate_left
 ·rw[cond_ntt c]
  exact⟨fun z=>Bool.noConfusion z,fun z=>absurd (by rw[z]) c⟩
 rw[cond_nff c,Option.isNone_iff_eq_none,fnd_none]
 constructor
 ·intro h
  refine list_ext 0 (by omega) (fun i hi=> ?_)
  have:=h i (by omega) (by omega)
  simpa using this
 ·rintro rfl i _ _
  simp
noncomputable def Sp.uto(o:Option (List Int))(k:Int)(d:List Int):Prop:=match o with|some e=>e=d|none=>d=[]\/k=254/\d.getD 0 0=0
theorem utd_iff{m:MeT}(hm:Sp.mvl m=true){k:Int}(h0:0<=k)(h1:k<=254)(d:List Int):Sp.utd m k d=true↔Sp.uto (Sp.lku (Sp.ent m) k) k d:=by
 unfold Sp.utd Sp.uto
 rw[rdk_v hm h0 h1]
 cases Sp.lku (Sp.ent m) k with
 |some e=>
  dsimp only
  rw[cond_nff rfl]
  exact sw_iff
 |none=>
  dsimp only
  rw[cond_ntt (show(7:Int)≠0 by decide)]
  by_cases l:(d.length:Int)=0
  ·rw[cond_ett l]
   exact⟨fun _=> .inl (List.eq_nil_of_length_eq_zero (by omega)),fun _=>rfl⟩
  rw[cond_eff l]
  have l':d≠[]:=fun z=>l (by rw[z];rfl)
  by_cases e:k=254
  ·rw[cond_ett e,beq_iff_eq]
   exact⟨fun z=> .inr ⟨e,z⟩,fun z=>z.elim (fun z=>absurd z l') (fun z=>z.2)⟩
  ·rw[cond_eff e]
   exact⟨fun z=>Bool.noConfusion z,fun z=>z.elim (fun z=>absurd z l') (fun z=>absurd z.1 e)⟩
theorem lku_of{E E':List EnT}{k:Int}(h:Sp.fil (fun x=>x==k) E=Sp.fil (fun x=>x==k) E'):Sp.lku E k=Sp.lku E' k:=by
 rw[lku_fil,lku_fil,h]
theorem wrv_ent{m:MeT}{p:PwT}(g:MG m p){key:Int}{d:List Int}(k0:0<=key)(k1:key<=254)(k2:d.length<=24)(hd:W32l d)(e:(Sp.wrv m key d p).2.2.1=0):Sp.ent (Sp.wrv m key d p).1=Sp.putE (Sp.ent m) key d/\(Sp.wrv m key d p).1.2=m.2:=by
 have r:=wrv_r g k0 k1 k2 hd
 by_cases c:(Sp.wrs m key d).2.1=0
 rotate_left
 ·rw[r.1 c]at e;exact absurd e c
 rw[(r.2 c).1]at e⊢
 exact⟨wr_ent g.w g.v k0 k1 k2 hd g.p0 g.p1 c _ rfl e,rfl⟩
theorem ent_asc{m:MeT}{p:PwT}(g:MG m p):Asc (Sp.ent m):=by
 obtain⟨hv,hp,_⟩:=mvl_d g.v
 exact(rlog_pv g.w hv hp (acv_lt m)).2
structure SVD(F:FsT)(K:Int->Bool)(m x:MeT)(q:PwT):Prop where
 g:MG x q
 s:x.2=m.2
 u:∀k,0<=k->k<=254->K k=true->Sp.uto (Sp.lku (Sp.ent x) k) k (Sp.dat F k)
 f:∀P:Int->Bool,(∀k,K k=true->P k=false)->Sp.fil P (Sp.ent x)=Sp.fil P (Sp.ent m)
theorem SVD.step{F:FsT}{K K':Int->Bool}{m m1 x:MeT}{q:PwT}(h:SVD F K m1 x q){key:Int}(k0:0<=key)(k1:key<=254)(hk:K key=false)(hK:∀k,K' k=(k==key||K k))(hs:m1.2=m.2)(hu:Sp.uto (Sp.lku (Sp.ent m1) key) key (Sp.dat F key))
 (hf:∀P:Int->Bool,P key=false->Sp.fil P (Sp.ent m1)=Sp.fil P (Sp.ent m)):SVD F K' m x q:=by
 refine⟨h.g,h.s.trans hs,fun k h0 h1 hk'=> ?_,fun P hP=> ?_⟩
 ·by_cases e:k=key
  ·subst e
   have:Sp.lku (Sp.ent x) k=Sp.lku (Sp.ent m1) k:=lku_of (h.f _ (fun j hj=>beq_eq_false_iff_ne.2 (fun z=>by rw[z,hk]at hj;cases hj)))
   rw[this]
   exact hu
  ·rw[hK,beq_eq_false_iff_ne.2 e,Bool.false_or]at hk'
   exact h.u k h0 h1 hk'
 ·rw[h.f P (fun k hk2=>hP k (by rw[hK,hk2,Bool.or_true])),hf P (hP key (by rw[hK,beq_self_eq_true];rfl))]
theorem put_uto{E:List EnT}(h:Asc E)(key:Int)(d:List Int):Sp.uto (Sp.lku (Sp.putE E key d) key) key d:=by
 rw[lku_put h,if_pos rfl]
 rfl
theorem svl_ok{F:FsT}(hv:Sp.vf F=true):∀(d i:Nat)(m:MeT)(p:PwT),MG m p->i+d=F.2.1.length->(Sp.svl F d i m p).2.2.1=0->SVD F (fun k=>decide ((i:Int)<=k)&&decide (k<(F.2.1.length:Int))) m (Sp.svl F d i m p).1 (Sp.svl F d i m p).2.1
 |0,i,m,p,g,hi,_=>⟨g,rfl,fun k _ _ hk=>by simp at hk;omega,fun _ _=>rfl⟩
 |d+1,i,m,p,g,hi,e0=>by
  have vd:=vf_d hv
  have db:=dat_b hv (key:=(i:Int)) (.inr ⟨by omega,by omega⟩)
  have kk:(decide (((i+1:Nat):Int)<=(i:Int))&&decide ((i:Int)<(F.2.1.length:Int)))=false:=by rw[decide_eq_false (by omega)];rfl
  have kK:∀k:Int,(decide ((i:Int)<=k)&&decide (k<(F.2.1.length:Int)))=(k==(i:Int)||(decide (((i+1:Nat):Int)<=k)&&decide (k<(F.2.1.length:Int)))):=fun k=>by
   by_cases e:k=(i:Int)
   ·rw[e,beq_self_eq_true,decide_eq_true (Int.le_refl _),decide_eq_true (show(i:Int)<(F.2.1.length:Int) by omega)];rfl
   ·rw[beq_eq_false_iff_ne.2 e,Bool.false_or]
    congr 1
    exact decide_eq_decide.2 (by omega)
  rw[Sp.svl]at e0⊢
  by_cases u:Sp.utd m i (Sp.dat F i)=true
  ·rw[if_pos u]at e0⊢
   have ih:=svl_ok hv d (i+1) m p g (by omega) e0
   exact ih.step (by omega) (by omega) kk kK rfl ((utd_iff g.v (by omega) (by omega) _).1 u) (fun _ _=>rfl)
  rw[if_neg u]at e0⊢
  by_cases e:(Sp.wrv m i (Sp.dat F i) p).2.2.1=0
  ·rw[if_pos e]at e0⊢
   have w:=wrv_ent g (by omega) (by omega) (by omega) db.1 e
   have ih:=svl_ok hv d (i+1) _ _ (wrv_go g (by omega) (by omega) (by omega) db.1 e) (by omega) e0
   exact ih.step (by omega) (by omega) kk kK w.2 (by rw[w.1];exact put_uto (ent_asc g) _ _) (fun P hP=>by rw[w.1];exact fil_put hP _)
  ·rw[if_neg e]at e0
   exact absurd e0 e
noncomputable def Sp.kyb(n:Nat)(k:Int):Bool:=k==254||(decide (0<=k)&&decide (k<(n:Int)))
theorem svw_ok{F:FsT}(hv:Sp.vf F=true){m:MeT}{p:PwT}(g:MG m p)(e0:(Sp.svw F m p).2.2.1=0):SVD F (Sp.kyb F.2.1.length) m (Sp.svw F m p).1 (Sp.svw F m p).2.1:=by
 have vd:=vf_d hv
 have db:=dat_b hv (key:=254) (.inl rfl)
 have kk:(fun k:Int=>decide (((0:Nat):Int)<=k)&&decide (k<(F.2.1.length:Int))) 254=false:=by
  show(_&&decide ((254:Int)<(F.2.1.length:Int)))=false
  rw[decide_eq_false (p:=(254:Int)<(F.2.1.length:Int)) (by omega),Bool.and_false]
 unfold Sp.svw at e0⊢
 by_cases u:Sp.utd m 254 (Sp.dat F 254)=true
 ·rw[if_pos u]at e0⊢
  exact(svl_ok hv _ 0 m p g (by omega) e0).step (by omega) (by omega) kk (fun _=>rfl) rfl ((utd_iff g.v (by omega) (by omega) _).1 u) (fun _ _=>rfl)
 rw[if_neg u]at e0⊢
 by_cases e:(Sp.wrv m 254 (Sp.dat F 254) p).2.2.1=0
 ·rw[if_pos e]at e0⊢
  have w:=wrv_ent g (by omega) (by omega) (by omega) db.1 e
  exact(svl_ok hv _ 0 _ _ (wrv_go g (by omega) (by omega) (by omega) db.1 e) (by omega) e0).step (by omega) (by omega) kk (fun _=>rfl) w.2 (by rw[w.1];exact put_uto (ent_asc g) _ _) (fun P hP=>by rw[w.1];exact fil_put hP _)
 ·rw[if_neg e]at e0
  exact absurd e0 e
set_option maxRecDepth 100000
set_option maxHeartbeats 4000000
noncomputable def FRL(L:List FaT):Prop:=∀f∈L,f.2.2.2.2.2.1.length<=1000
theorem FRL.set{L:List FaT}(h:FRL L)(i:Nat){f:FaT}(hf:f.2.2.2.2.2.1.length<=1000):FRL (L.set i f):=fun x hx=>by
 rcases List.mem_or_eq_of_mem_set hx with h1|rfl
 ·exact h x h1
 ·exact hf
theorem FRL.sm{F:FsT}(h:FRL F.2.1)(hl:F.2.1.length<=1000):Sm F:=⟨by omega,fun j hj=>by
 have:=h _ (List.getElem_mem hj)
 rw[getD_at _ hj]
 omega⟩
theorem new_ok(l:List CfT):F_39 l=some (Sp.newF l):=by
 unfold F_39 Sp.newF Sp.rcc
 by_cases h1:(l.length:Int)>64
 ·rw[cond_dtt h1,decide_eq_false (by omega)];rfl
 rw[cond_dff h1,decide_eq_true (p:=l.length<=64) (by omega),cond_t]
 have hf:=find0 (fun m i=>L_39_116_0_0 m l l.length i (0,false,())) (n:=l.length) (fun j=> !Sp.cfg (l.getD j Zd1)) (ex:=fun j=>some (.e0 (j:Int) (0,false,()))) (e1:=some (.e1 (0,false,()))) (by omega) (fun m j hj=>by
  show L_39_116_0_0 (m+1) l l.length j (0,false,())=bif !Sp.cfg (l.getD j Zd1)then some (.e0 (j:Int) (0,false,()))else L_39_116_0_0 m l l.length ((j+1:Nat):Int) (0,false,())
  rw[L_39_116_0_0,S_39_116_0_0,cond_dtt (by omega),gd_inB (by omega) (by omega),Int.toNat_natCast,(cfg_pv _).1,(cfg_pv _).2,gd_tt,wi64 (by omega) (by omega)]
  push_cast
  rfl) (fun m=>by
  show L_39_116_0_0 (m+1) l l.length l.length (0,false,())=_
  rw[L_39_116_0_0,S_39_116_0_0,cond_dff (by omega)])
 rw[hf]
 cases hk:fnd (fun j=> !Sp.cfg (l.getD j Zd1)) l.length 0 with
 |some k=>
  have:Sp.cfgs l=false:=by
   cases hv:Sp.cfgs l
   ·rfl
   ·have:=(fnd_all (fun j=>Sp.cfg (l.getD j Zd1)) l.length).2 hv
    rw[this]at hk;cases hk
  rw[this]
  simp only[B_39_116_0_0]
  rw[cond_dtt (by omega)]
  rfl
 |none=>
  have hc:Sp.cfgs l=true:=(fnd_all (fun j=>Sp.cfg (l.getD j Zd1)) l.length).1 hk
  rw[hc]
  simp only[B_39_116_0_0]
  rw[gd_room (by omega) (by omega),Int.toNat_natCast,beq_self_eq_true,Bool.true_and,show room l.length 72=true from room_ok (by omega) (by omega),gd_tt]
  have em:(List.map (fun(y:Ty.den CfgTy)=>Prod.fst y) l)=Sp.codesL l:=rfl
  rw[em]
  cases Sp.dst (Sp.codesL l)<;>rfl
theorem new_pv(l:List CfT):p_39 l=true/\v_39 l=Sp.newF l:=pv_39 l (new_ok l)
theorem unp_loop(l:List Int)(n:Nat)(hl:l.length=3+2*n)(hn:n<=100)(hw:∀x∈l,0<=x/\x<4294967296)(p2 p3 p4 p5 p6:Int)(p7:Int×Unit)(p8:List Int)(p9 p10 p11 p12 p13:Int)(p14:Int×Unit) :
 L_42_0 4611686018427387904 l 3 p2 p3 p4 p5 p6 p7 p8 p9 p10 p11 p12 p13 p14 []=(match fnd (fun j=>decide (l.getD (3+2*j) 0>512)) n 0 with|some _=>some .e0|none=>some (.e1 p2 p3 p4 p5 p6 p7 p8 p9 p10 p11 p12 p13 p14 (Sp.unflat (l.drop 3)))):=by
 have hat:∀j,j<l.length->0<=l.getD j 0/\l.getD j 0<4294967296:=by
  intro j hj
  rw[getD_at 0 hj]
  exact hw _ (List.getElem_mem hj)
 have h:=find0 (fun m i=>L_42_0 m l (3+2*i) p2 p3 p4 p5 p6 p7 p8 p9 p10 p11 p12 p13 p14 (Sp.unflat ((l.drop 3).take (2*i.toNat)))) (n:=n) (fun j=>decide (l.getD (3+2*j) 0>512)) (ex:=fun _=>some .e0) (e1:=some (.e1 p2 p3 p4 p5 p6 p7 p8 p9 p10 p11 p12 p13 p14 (Sp.unflat (l.drop 3)))) (by omega) (fun m j hj=>by
  show L_42_0 (m+1) l (3+2*(j:Int)) p2 p3 p4 p5 p6 p7 p8 p9 p10 p11 p12 p13 p14 (Sp.unflat ((l.drop 3).take (2*j)))=bif decide (l.getD (3+2*j) 0>512)then some .e0 else L_42_0 m l (3+2*((j+1:Nat):Int)) p2 p3 p4 p5 p6 p7 p8 p9 p10 p11 p12 p13 p14 (Sp.unflat ((l.drop 3).take (2*(j+1))))
  have hlen:(Sp.unflat ((l.drop 3).take (2*j))).length=j:=by
   refine upfl_len j _ ?_
   rw[List.length_take,List.length_drop];omega
  rw[unflat_snoc j (l.drop 3) (by rw[List.length_drop];omega)]
  have g1:(l.drop 3).getD (2*j) 0=l.getD (3+2*j) 0:=by simp[List.getD_eq_getElem?_getD]
  have g2:(l.drop 3).getD (2*j+1) 0=l.getD (3+2*j+1) 0:=by simp[List.getD_eq_getElem?_getD,Nat.add_assoc]
  rw[g1,g2]
  have b1:=hat (3+2*j) (by omega)
  have b2:=hat (3+2*j+1) (by omega)
  rw[L_42_0,S_42_0,cond_dtt (by omega),gd_inB (by omega) (by omega),show(3+2*(j:Int)).toNat=3+2*j by omega]
  generalize Sp.unflat ((l.drop 3).take (2*j))=fr at *
  by_cases hh:l.getD (3+2*j) 0>512
  ·rw[cond_dtt hh,cond_dtt hh]
  rw[cond_dff hh,cond_dff hh,gd_inB (by omega) (by omega),wi64 (n:=3+2*(j:Int)+1) (by omega) (by omega),gd_inB (by omega) (by omega),gd_room (by omega) (by omega),show(3+2*(j:Int)+1).toNat=3+2*j+1 by omega]
  generalize l.getD (3+2*j) 0=a at *
  generalize l.getD (3+2*j+1) 0=b at *
  rw[wi64 (n:=a) (by omega) (by omega),wi64 (n:=b) (by omega) (by omega),wi64 (n:=a*4294967296) (by omega) (by omega),wi64 (n:=a*4294967296+b) (by omega) (by omega),wi64 (n:=a*4294967296+b-1099511627776) (by omega) (by omega),wi64 (n:=3+2*(j:Int)+2) (by omega) (by omega),show 3+2*(j:Int)+2=3+2*((j+1:Nat):Int) by omega]) (fun m=>by
  show L_42_0 (m+1) l (3+2*(n:Int)) p2 p3 p4 p5 p6 p7 p8 p9 p10 p11 p12 p13 p14 (Sp.unflat ((l.drop 3).take (2*n)))=_
  rw[L_42_0,S_42_0,cond_dff (by omega),List.take_of_length_le (by rw[List.length_drop];omega)])
 exact h
theorem unp_ok(l:List Int)(hw:∀x∈l,0<=x/\x<4294967296):F_42 l=some (bif Sp.cond l then(Sp.xof l,0,())else(Sp.zeroF,3,())):=by
 have hat:∀j,j<l.length->0<=l.getD j 0/\l.getD j 0<4294967296:=by
  intro j hj
  rw[getD_at 0 hj]
  exact hw _ (List.getElem_mem hj)
 unfold F_42 Sp.cond
 by_cases h1:(l.length:Int)<3
 ·rw[cond_dtt h1,decide_eq_true h1];rfl
 rw[cond_dff h1,decide_eq_false h1,Bool.not_false,Bool.true_and]
 have b0:=hat 0 (by omega)
 have b1:=hat 1 (by omega)
 have b2:=hat 2 (by omega)
 simp only[gd_inB (show(0:Int)<=2 by decide) (show(2:Int)<(l.length:Nat) by omega),gd_inB (show(0:Int)<=1 by decide) (show(1:Int)<(l.length:Nat) by omega),gd_inB (show(0:Int)<=0 by decide) (show(0:Int)<(l.length:Nat) by omega)]
 by_cases h2:l.getD 2 0>8
 ·rw[cond_dtt h2,decide_eq_true h2];rfl
 rw[cond_dff h2,decide_eq_false h2,Bool.not_false,Bool.true_and,wi64 (n:=l.getD 2 0) (by omega) (by omega),wi64 (n:=2*l.getD 2 0) (by omega) (by omega),wi64 (n:=3+2*l.getD 2 0) (by omega) (by omega)]
 by_cases h3:(l.length:Int)=3+2*l.getD 2 0
 rotate_left
 ·rw[cond_ntt h3,beq_eq_false_iff_ne.2 h3];rfl
 rw[cond_nff h3,beq_iff_eq.2 h3,Bool.true_and]
 by_cases h4:l.getD 1 0>1073741824
 ·rw[cond_dtt h4,decide_eq_true h4];rfl
 rw[cond_dff h4,decide_eq_false h4,Bool.not_false,Bool.true_and,wi64 (n:=l.getD 0 0) (by omega) (by omega),wi64 (n:=l.getD 1 0) (by omega) (by omega)]
 by_cases h5:Sp.andnI .i64 (Sp.andI .i64 (l.getD 0 0) 255) 22=0
 rotate_left
 ·rw[cond_ntt h5,beq_eq_false_iff_ne.2 h5];rfl
 rw[cond_nff h5,beq_iff_eq.2 h5,Bool.true_and,unp_loop l (l.getD 2 0).toNat (by omega) (by omega) hw]
 cases hk:fnd (fun j=>decide (l.getD (3+2*j) 0>512)) (l.getD 2 0).toNat 0 with
 |some k=>rfl
 |none=>
  simp only[B_42_0,Option.isNone,Bool.true_and]
  have hx:((Sp.andI .i64 (l.getD 0 0) 255,0,Sp.andI .i64 (Int.fdiv (l.getD 0 0) 256) 255,Sp.andI .i64 (Int.fdiv (l.getD 0 0) 65536) 255,Int.fdiv (l.getD 0 0) 16777216,Sp.unflat (l.drop 3),l.getD 1 0,()):FaT)=Sp.xof l:=rfl
  rw[hx,(pack_pv _).1,(pack_pv _).2,gd_tt]
  cases Sp.good (Sp.xof l)<;>rfl
theorem unp_pv(l:List Int)(hw:∀x∈l,0<=x/\x<4294967296):p_42 l=true/\v_42 l=(bif Sp.cond l then(Sp.xof l,0,())else(Sp.zeroF,3,())):=pv_42 l (unp_ok l hw)
theorem flat_words{fr:List Int}(hv:∀x∈fr,-1099511627776<=x/\x<=1099511627776):∀x∈Sp.flat fr,0<=x/\x<4294967296:=by
 induction fr with
 |nil=>intro x hx;simp[Sp.flat]at hx
 |cons v fr ih=>
  intro x hx
  have h0:=hv v (by simp)
  simp only[Sp.flat,List.mem_cons]at hx
  rcases hx with rfl|rfl|hx
  ·omega
  ·omega
  ·exact ih (fun y hy=>hv y (by simp[hy])) x hx
theorem flat_hi{fr:List Int}(hv:∀x∈fr,-1099511627776<=x/\x<=1099511627776):∀j,j<fr.length->(Sp.flat fr).getD (2*j) 0<=512:=by
 induction fr with
 |nil=>intro j hj;simp at hj
 |cons v fr ih=>
  intro j hj
  have h0:=hv v (by simp)
  cases j with
  |zero=>simp only[Sp.flat,List.getD_eq_getElem?_getD,Nat.mul_zero,List.getElem?_cons_zero,Option.getD_some];omega
  |succ j=>
   have:=ih (fun y hy=>hv y (by simp[hy])) j (by simpa using hj)
   rw[show 2*(j+1)=2*j+1+1 by omega]
   simp only[Sp.flat,List.getD_eq_getElem?_getD,List.getElem?_cons_succ]at this⊢
   exact this
theorem hdr_b{f:FaT}(h:Sp.good f=true):0<=Sp.hdr f/\Sp.hdr f<4294967296/\Sp.hdr f%256=Sp.andI .i64 f.1 22/\Sp.hdr f/256%256=f.2.2.1/\Sp.hdr f/65536%256=f.2.2.2.1/\Sp.hdr f/16777216=f.2.2.2.2.1:=by
 obtain⟨h1,h2,h3,h4,h5,h6,h7⟩:=good_iff.1 h
 have hs:=st_22 h1.1 h1.2
 unfold Sp.hdr
 omega
theorem back1{f:FaT}(h:Sp.good f=true):(∀x∈Sp.wpk f,0<=x/\x<4294967296)/\Sp.xof (Sp.wpk f)=(Sp.andI .i64 f.1 22,0,f.2.2)/\Sp.cond (Sp.wpk f)=true:=by
 obtain⟨h1,h2,h3,h4,h5,h6,h7⟩:=good_iff.1 h
 have hs:=st_22 h1.1 h1.2
 obtain⟨q1,q2,q3,q4,q5,q6⟩:=hdr_b h
 have hx:Sp.xof (Sp.wpk f)=(Sp.andI .i64 f.1 22,0,f.2.2):=by
  unfold Sp.xof Sp.wpk
  have e0:([Sp.hdr f,f.2.2.2.2.2.2.1,(f.2.2.2.2.2.1.length:Int)]++Sp.flat f.2.2.2.2.2.1).getD 0 0=Sp.hdr f:=rfl
  have e1:([Sp.hdr f,f.2.2.2.2.2.2.1,(f.2.2.2.2.2.1.length:Int)]++Sp.flat f.2.2.2.2.2.1).getD 1 0=f.2.2.2.2.2.2.1:=rfl
  have e3:([Sp.hdr f,f.2.2.2.2.2.2.1,(f.2.2.2.2.2.1.length:Int)]++Sp.flat f.2.2.2.2.2.1).drop 3=Sp.flat f.2.2.2.2.2.1:=rfl
  rw[e0,e1,e3,unflat_flat,and_255 q1 (by omega),Int.fdiv_eq_ediv_of_nonneg _ (by decide),Int.fdiv_eq_ediv_of_nonneg _ (by decide),Int.fdiv_eq_ediv_of_nonneg _ (by decide),and_255 (by omega) (by omega),and_255 (by omega) (by omega),q3,q4,q5,q6]
 refine⟨?_,hx,?_⟩
 ·intro x hx
  unfold Sp.wpk at hx
  rw[List.mem_append]at hx
  rcases hx with hx|hx
  ·simp only[List.mem_cons,List.not_mem_nil,or_false]at hx
   rcases hx with rfl|rfl|rfl
   ·exact⟨q1,q2⟩
   ·omega
   ·omega
  ·exact flat_words h7 x hx
 ·unfold Sp.cond
  have hl:(Sp.wpk f).length=3+2*f.2.2.2.2.2.1.length:=by
   unfold Sp.wpk
   rw[List.length_append,pfl_len];rfl
  have e1:(Sp.wpk f).getD 1 0=f.2.2.2.2.2.2.1:=rfl
  have e2:(Sp.wpk f).getD 2 0=(f.2.2.2.2.2.1.length:Int):=rfl
  have e0:Sp.andI .i64 ((Sp.wpk f).getD 0 0) 255=Sp.andI .i64 f.1 22:=by
   show Sp.andI .i64 (Sp.hdr f) 255=_
   rw[and_255 q1 (by omega),q3]
  have hgx:Sp.good (Sp.xof (Sp.wpk f))=true:=by
   rw[hx,good_iff]
   exact⟨⟨hs.1,hs.2.1⟩,h2,h3,h4,h5,h6,h7⟩
  have hn:(fnd (fun j=>decide ((Sp.wpk f).getD (3+2*j) 0>512)) (f.2.2.2.2.2.1.length:Int).toNat 0).isNone=true:=by
   rw[Option.isNone_iff_eq_none,fnd_none]
   intro j _ hj
   have hj:j<f.2.2.2.2.2.1.length:=by omega
   have:=flat_hi h7 j hj
   have e:(Sp.wpk f).getD (3+2*j) 0=(Sp.flat f.2.2.2.2.2.1).getD (2*j) 0:=by
    unfold Sp.wpk
    rw[List.getD_eq_getElem?_getD,List.getElem?_append_right (by simp only[List.length_cons,List.length_nil];omega),List.getD_eq_getElem?_getD]
    congr 2
    simp
   rw[e]
   exact decide_eq_false (by omega)
  rw[e1,e2,e0,hgx,hn,hs.2.2.1,decide_eq_false (by omega),decide_eq_false (by omega),decide_eq_false (by omega),beq_iff_eq.2 (by omega)]
  rfl
namespace Sp
noncomputable def cyc(m:MeT):Int:=if(rdk m 254).2.1=0/\(rdk m 254).1.length=1/\(rdk m 254).1.getD 0 0<=1073741824 then(rdk m 254).1.getD 0 0 else 0
noncomputable def upk(l:List Int):FaT×Int×Unit:=bif cond l then(xof l,0,())else(zeroF,3,())
noncomputable def lof(m:MeT)(c:CfT)(i:Nat):Option FaT:=if(rdk m i).2.1=0/\1<=(rdk m i).1.length/\(rdk m i).1.getD 0 0=c.1/\(upk ((rdk m i).1.drop 1)).2.1=0/\sto (upk ((rdk m i).1.drop 1)).1=true then some (upk ((rdk m i).1.drop 1)).1 else none
noncomputable def lo1(m:MeT)(cs:List CfT)(r:Int×Bool×Unit)(i:Nat)(L:List FaT):List FaT:=match lof m (cs.getD i Zd1) i with
 |some f=>if vf (cs,L.set i f,r)=true then L.set i f else(L.set i f).set i zeroF
 |none=>L
noncomputable def lol(m:MeT)(cs:List CfT)(r:Int×Bool×Unit):Nat->Nat->List FaT->List FaT
 |0,_,L=>L
 |d+1,i,L=>lol m cs r d (i+1) (lo1 m cs r i L)
noncomputable def lod(m:MeT)(l:List CfT):FsT×Int×Unit:=if mvl m=true then(if rcc l=0 then((l,lol m l (cyc m,false,()) l.length 0 (replicate l.length Zd0),cyc m,false,()),0,())else(([],[],0,false,()),rcc l,()))else(([],[],0,false,()),1,())
end Sp
theorem cyc_pv{m:MeT}(hw:W32f m.1):p_40 m=true/\v_40 m=(Sp.cyc m,()):=by
 have r:=rdk_pv hw 254
 have b:=rdk_b hw 254
 refine pv_40 m ?_
 unfold F_40 Sp.cyc
 rw[r.1,r.2,gd_tt]
 have bx:=W32l.at b.1 0
 by_cases h1:(Sp.rdk m 254).2.1=0
 rotate_left
 ·rw[cond_ntt h1,if_neg (fun a=>h1 a.1)]
 rw[cond_nff h1]
 by_cases h2:(Sp.rdk m 254).1.length=1
 rotate_left
 ·rw[cond_ntt (by omega),if_neg (fun a=>h2 a.2.1)]
 rw[cond_nff (by omega),gd_inB (by omega) (by omega)]
 by_cases h3:(Sp.rdk m 254).1.getD 0 0<=1073741824
 ·rw[cond_dff (by omega),gd_inB (by omega) (by omega),if_pos ⟨h1,h2,h3⟩,wi64 (by omega) (by omega)]
 ·rw[cond_dtt (by omega),if_neg (fun a=>h3 a.2.2)]
theorem unfl_le:∀l:List Int,(Sp.unflat l).length<=l.length
 |[]=>Nat.le_refl _
 |[_]=>Nat.zero_le _
 |a::b::l=>by
  have:=unfl_le l
  simp only[Sp.unflat,List.length_cons]
  omega
theorem upk_fr{l:List Int}(h:l.length<=1000):(Sp.upk l).1.2.2.2.2.2.1.length<=1000:=by
 unfold Sp.upk
 cases Sp.cond l
 ·exact Nat.zero_le _
 ·have:=unfl_le (l.drop 3)
  rw[List.length_drop]at this
  show(Sp.unflat (l.drop 3)).length<=1000
  omega
theorem lof_fr{m:MeT}(hw:W32f m.1){c:CfT}{i:Nat}{f:FaT}(h:Sp.lof m c i=some f):f.2.2.2.2.2.1.length<=1000:=by
 unfold Sp.lof at h
 split at h
 ·have b:=rdk_b hw (i:Int)
  have:=upk_fr (l:=(Sp.rdk m i).1.drop 1) (by rw[List.length_drop];omega)
  injection h with h
  rw[<-h]
  exact this
 ·cases h
theorem lo1_b{m:MeT}(hw:W32f m.1)(cs:List CfT)(r:Int×Bool×Unit)(i:Nat){L:List FaT}(h:FRL L):FRL (Sp.lo1 m cs r i L)/\(Sp.lo1 m cs r i L).length=L.length:=by
 unfold Sp.lo1
 cases hf:Sp.lof m (cs.getD i Zd1) i with
 |none=>exact⟨h,rfl⟩
 |some f=>
  have:=lof_fr hw hf
  dsimp only
  split
  ·exact⟨h.set i this,List.length_set ..⟩
  ·exact⟨(h.set i this).set i (Nat.zero_le _),by rw[List.length_set,List.length_set]⟩
theorem ld_l{m:MeT}(hw:W32f m.1)(cs:List CfT)(hc:cs.length<=64)(r p4:Int×Bool×Unit)(p5:List CfT)(p6:List FaT):∀(d q i:Nat)(L:List FaT),FRL L->L.length=cs.length->i+d=cs.length->d<q->
 L_10_0 q cs cs.length i m p4 p5 p6 cs r L=some (.e0 p4 p5 p6 cs r (Sp.lol m cs r d i L)):=by
 intro d
 induction d with
 |zero=>
  intro q i L _ _ hi hq
  obtain⟨q,rfl⟩:∃k,q=k+1:=⟨q-1,by omega⟩
  rw[L_10_0,S_10_0,cond_dff (by omega)]
  rfl
 |succ d ih=>
  intro q i L hL hl hi hq
  obtain⟨q,rfl⟩:∃k,q=k+1:=⟨q-1,by omega⟩
  have v:=rdk_pv hw (i:Int)
  have b:=rdk_b hw (i:Int)
  have bx:=W32l.at b.1 0
  have ab:=lo1_b hw cs r i hL
  have nx:=ih q (i+1) (Sp.lo1 m cs r i L) ab.1 (ab.2.trans hl) (by omega) (by omega)
  have ei:wrap .i64 ((i:Int)+1)=((i+1:Nat):Int):=by rw[wi64 (by omega) (by omega)];push_cast;rfl
  rw[L_10_0,S_10_0,cond_dtt (by omega),gd_inB (by omega) (by omega),v.1,v.2,gd_tt,Int.toNat_natCast,ei,Sp.lol]
  have skip:Sp.lof m (cs.getD i Zd1) i=none->Sp.lo1 m cs r i L=L:=fun h=>by unfold Sp.lo1;rw[h]
  have e0:∀c:CfT,Sp.lof m c i=if(Sp.rdk m i).2.1=0/\1<=(Sp.rdk m i).1.length/\(Sp.rdk m i).1.getD 0 0=c.1/\(Sp.upk ((Sp.rdk m i).1.drop 1)).2.1=0/\Sp.sto (Sp.upk ((Sp.rdk m i).1.drop 1)).1=true then some (Sp.upk ((Sp.rdk m i).1.drop 1)).1 else none:=fun c=>rfl
  by_cases h1:(Sp.rdk m i).2.1=0
  rotate_left
  ·rw[skip (by rw[e0,if_neg (fun a=>h1 a.1)])]at nx⊢
   rw[cond_ntt h1]
   exact nx
  rw[cond_nff h1]
  by_cases h2:1<=(Sp.rdk m i).1.length
  rotate_left
  ·rw[skip (by rw[e0,if_neg (fun a=>h2 a.2.1)])]at nx⊢
   rw[cond_dtt (by omega)]
   exact nx
  rw[cond_dff (by omega),gd_inB (by omega) (by omega),wi64 (n:=(Sp.rdk m i).1.getD 0 0) (by omega) (by omega)]
  by_cases h3:(Sp.rdk m i).1.getD 0 0=(cs.getD i Zd1).1
  rotate_left
  ·rw[skip (by rw[e0,if_neg (fun a=>h3 a.2.2.1)])]at nx⊢
   rw[cond_ntt h3]
   exact nx
  have u:=unp_pv ((Sp.rdk m i).1.drop 1) (fun x hx=>b.1 x (List.mem_of_mem_drop hx))
  rw[show(bif Sp.cond ((Sp.rdk m i).1.drop 1)then(Sp.xof ((Sp.rdk m i).1.drop 1),0,())else(Sp.zeroF,3,()))=Sp.upk ((Sp.rdk m i).1.drop 1)from rfl]at u
  rw[cond_nff h3,gd_sl3 (by omega) (by omega) (by omega),u.1,u.2,gd_tt]
  by_cases h4:(Sp.upk ((Sp.rdk m i).1.drop 1)).2.1=0
  rotate_left
  ·rw[skip (by rw[e0,if_neg (fun a=>h4 a.2.2.2.1)])]at nx⊢
   rw[cond_ntt h4]
   exact nx
  have s:=sto_pv (Sp.upk ((Sp.rdk m i).1.drop 1)).1
  rw[cond_nff h4,s.1,s.2,gd_tt]
  dsimp only
  cases h5:Sp.sto (Sp.upk ((Sp.rdk m i).1.drop 1)).1 with
  |false=>
   rw[skip (by rw[e0,if_neg (fun a=>by rw[h5]at a;exact Bool.noConfusion a.2.2.2.2)])]at nx⊢
   rw[Bool.not_false,cond_t]
   exact nx
  |true=>
  have hlo:Sp.lof m (cs.getD i Zd1) i=some (Sp.upk ((Sp.rdk m i).1.drop 1)).1:=by rw[e0,if_pos ⟨h1,h2,h3,h4,h5⟩]
  have hfr:=lof_fr hw hlo
  have e1:Sp.lo1 m cs r i L=if Sp.vf (cs,L.set i (Sp.upk ((Sp.rdk m i).1.drop 1)).1,r)=true then L.set i (Sp.upk ((Sp.rdk m i).1.drop 1)).1 else(L.set i (Sp.upk ((Sp.rdk m i).1.drop 1)).1).set i Sp.zeroF:=by
   unfold Sp.lo1;rw[hlo]
  have g:=vf_pv (F:=(cs,L.set i (Sp.upk ((Sp.rdk m i).1.drop 1)).1,r)) (FRL.sm (hL.set i hfr) (by dsimp only;rw[List.length_set];omega))
  rw[e1]at nx⊢
  rw[Bool.not_true,cond_f,gd_inB (by omega) (by omega),Bool.and_true,Bool.and_true,gd_dec (by omega),g.1,g.2,gd_tt]
  dsimp only
  cases h6:Sp.vf (cs,L.set i (Sp.upk ((Sp.rdk m i).1.drop 1)).1,r)with
  |true=>
   rw[h6,if_pos rfl]at nx
   rw[Bool.not_true,cond_f,if_pos rfl]
   exact nx
  |false=>
   rw[h6,if_neg Bool.false_ne_true]at nx
   rw[Bool.not_false,cond_t,if_neg Bool.false_ne_true,List.length_set,gd_inB (by omega) (by omega),Bool.and_true,Bool.and_true,gd_dec (by omega)]
   exact nx
theorem rcc_len{l:List CfT}(h:Sp.rcc l=0):l.length<=64:=by
 unfold Sp.rcc at h
 by_cases c:l.length<=64
 ·exact c
 ·rw[decide_eq_false c,cond_f]at h;cases h
theorem lod_pv{m:MeT}(hw:W32f m.1)(l:List CfT):p_10 m l=true/\v_10 m l=Sp.lod m l:=by
 have v:=mvl_pv hw
 have n:=new_pv l
 have c:=cyc_pv hw
 refine pv_10 m l ?_
 unfold F_10 Sp.lod
 rw[v.1,v.2,gd_tt]
 dsimp only
 cases Sp.mvl m
 ·rfl
 rw[Bool.not_true,cond_f,if_pos rfl,n.1,n.2,gd_tt]
 unfold Sp.newF
 by_cases h:Sp.rcc l=0
 rotate_left
 ·rw[cond_eff h,if_neg h,cond_ntt h]
 rw[cond_ett h,if_pos h,cond_nff rfl,c.1,c.2,gd_tt]
 dsimp only
 have fr:FRL (replicate l.length Zd0):=fun x hx=>by
  rw[(List.mem_replicate.1 hx).2];exact Nat.zero_le _
 have t:=ld_l hw l (rcc_len h) (Sp.cyc m,false,()) (0,false,()) [] [] l.length 4611686018427387904 0 (replicate l.length Zd0) fr (List.length_replicate ..) (by omega) (by have:=rcc_len h;omega)
 exact(congrArg (fun z=>B_10_0 z _) t).trans rfl
set_option maxRecDepth 100000
set_option maxHeartbeats 4000000
namespace Sp
noncomputable def rla(m:MeT)(cs:List CfT)(cy:Int)(i:Nat):FaT:=match lof m (cs.getD i Zd1) i with
 |some f=>if rgt (cs.getD i Zd1) f cy=true then f else zeroF
 |none=>zeroF
noncomputable def rll(m:MeT)(cs:List CfT)(cy:Int)(n:Nat):List FaT:=(List.range n).map (rla m cs cy)
noncomputable def rlw(m:MeT)(cs:List CfT)(cy:Int)(n i:Nat):List FaT:=(List.range n).map fun k=>if k<i then rla m cs cy k else zeroF
end Sp
theorem rcc_d{l:List CfT}(h:Sp.rcc l=0):l.length<=64/\Sp.cfgs l=true/\Sp.dst (l.map fun c=>c.1)=true:=by
 unfold Sp.rcc at h
 by_cases c:l.length<=64
 rotate_left
 ·rw[decide_eq_false c,cond_f]at h;cases h
 rw[decide_eq_true c,cond_t]at h
 cases hc:Sp.cfgs l
 ·rw[hc,cond_f]at h;cases h
 rw[hc,cond_t]at h
 cases hd:Sp.dst (Sp.codesL l)
 ·rw[hd,cond_f]at h;cases h
 exact⟨c,rfl,hd⟩
theorem cyc_b{m:MeT}(hw:W32f m.1):0<=Sp.cyc m/\Sp.cyc m<=1073741824:=by
 have b:=W32l.at (rdk_b hw 254).1 0
 unfold Sp.cyc
 split
 ·rename_i h;exact⟨b.1,h.2.2⟩
 ·decide
theorem rgt_z{c:CfT}(h:Sp.cfg c=true){cy:Int}(h0:0<=cy):Sp.rgt c Sp.zeroF cy=true:=by
 obtain⟨c1,c2,c3,c4,c5,c6,c7,c8,⟨⟩⟩:=c
 simp only[Sp.cfg,Bool.and_eq_true,inr_iff]at h
 have z:Sp.zeroF=(0,0,0,0,0,[],0,()):=rfl
 have r:Sp.rngs (c1,c2,c3,c4,c5,c6,c7,c8,()) (0,0,0,0,0,[],0,()) cy=true:=by
  simp only[Sp.rngs,Bool.and_eq_true,inr_iff]
  omega
 rw[z]
 unfold Sp.rgt
 rw[r]
 rfl
theorem rla_r{m:MeT}{cs:List CfT}{cy:Int}(h0:0<=cy)(hc:Sp.cfgs cs=true){i:Nat}(hi:i<cs.length):Sp.rgt (cs.getD i Zd1) (Sp.rla m cs cy i) cy=true:=by
 unfold Sp.rla
 split
 ·split
  ·assumption
  ·exact rgt_z (cfgs_at hc hi) h0
 ·exact rgt_z (cfgs_at hc hi) h0
theorem rlw_len(m:MeT)(cs:List CfT)(cy:Int)(n i:Nat):(Sp.rlw m cs cy n i).length=n:=by simp[Sp.rlw]
theorem rlw_get(m:MeT)(cs:List CfT)(cy:Int){n k:Nat}(i:Nat)(hk:k<n)(d:FaT):(Sp.rlw m cs cy n i).getD k d=if k<i then Sp.rla m cs cy k else Sp.zeroF:=by
 rw[getD_at d (by rw[rlw_len];exact hk)]
 simp[Sp.rlw]
theorem lo1_w{m:MeT}{cs:List CfT}{cy:Int}(h0:0<=cy)(h1:cy<=1073741824)(hr:Sp.rcc cs=0){i:Nat}(hi:i<cs.length):Sp.lo1 m cs (cy,false,()) i (Sp.rlw m cs cy cs.length i)=Sp.rlw m cs cy cs.length (i+1):=by
 obtain⟨r1,r2,r3⟩:=rcc_d hr
 have set_eq:∀f,f=Sp.rla m cs cy i->(Sp.rlw m cs cy cs.length i).set i f=Sp.rlw m cs cy cs.length (i+1):=fun f hf=>by
  refine list_ext Sp.zeroF (by rw[List.length_set,rlw_len,rlw_len]) (fun k hk=> ?_)
  rw[List.length_set,rlw_len]at hk
  rw[getD_set _ _ _ _ _ (by rw[rlw_len];exact hi),rlw_get m cs cy i hk,rlw_get m cs cy (i+1) hk,hf]
  by_cases e:i=k
  ·rw[if_pos e,if_pos (by omega),e]
  ·rw[if_neg e]
   by_cases c:k<i
   ·rw[if_pos c,if_pos (by omega)]
   ·rw[if_neg c,if_neg (by omega)]
 unfold Sp.lo1
 cases hl:Sp.lof m (cs.getD i Zd1) i with
 |none=>
  have e:Sp.rla m cs cy i=Sp.zeroF:=by unfold Sp.rla;rw[hl]
  dsimp only
  have:=set_eq Sp.zeroF e.symm
  rw[<-this]
  refine list_ext Sp.zeroF (by rw[List.length_set]) (fun k hk=> ?_)
  rw[rlw_len]at hk
  rw[getD_set _ _ _ _ _ (by rw[rlw_len];exact hi)]
  split
  ·rename_i e2
   subst e2
   rw[rlw_get m cs cy i hk,if_neg (by omega)]
  ·rfl
 |some f=>
  dsimp only
  have vfe:Sp.vf (cs,(Sp.rlw m cs cy cs.length i).set i f,cy,false,())=Sp.rgt (cs.getD i Zd1) f cy:=by
   have rg:Sp.rgts (cs,(Sp.rlw m cs cy cs.length i).set i f,cy,false,())=Sp.rgt (cs.getD i Zd1) f cy:=by
    rw[Bool.eq_iff_iff]
    unfold Sp.rgts
    dsimp only
    rw[List.all_eq_true,List.length_set,rlw_len]
    constructor
    ·intro h
     have:=h i (List.mem_range.2 hi)
     rw[getD_set _ _ _ _ _ (by rw[rlw_len];exact hi),if_pos rfl]at this
     exact this
    ·intro h k hk
     have hk:=List.mem_range.1 hk
     rw[getD_set _ _ _ _ _ (by rw[rlw_len];exact hi)]
     split
     ·rename_i e;subst e;exact h
     ·rw[rlw_get m cs cy i hk]
      split
      ·exact rla_r h0 r2 hk
      ·exact rgt_z (cfgs_at r2 hk) h0
   unfold Sp.vf
   rw[rg]
   dsimp only
   rw[decide_eq_true r1,r2,r3,List.length_set,rlw_len,beq_self_eq_true,inr_iff.2 ⟨h0,h1⟩]
   rfl
  rw[vfe]
  cases hg:Sp.rgt (cs.getD i Zd1) f cy
  ·rw[if_neg Bool.false_ne_true,List.set_set]
   exact set_eq _ (by unfold Sp.rla;rw[hl];dsimp only;rw[hg,if_neg Bool.false_ne_true])
  ·rw[if_pos rfl]
   exact set_eq _ (by unfold Sp.rla;rw[hl];dsimp only;rw[hg,if_pos rfl])
theorem lol_w{m:MeT}{cs:List CfT}{cy:Int}(h0:0<=cy)(h1:cy<=1073741824)(hr:Sp.rcc cs=0):∀(d i:Nat),i+d=cs.length->Sp.lol m cs (cy,false,()) d i (Sp.rlw m cs cy cs.length i)=Sp.rll m cs cy cs.length
 |0,i,hi=>by
  rw[Sp.lol]
  unfold Sp.rlw Sp.rll
  refine List.map_congr_left (fun k hk=> ?_)
  have:=List.mem_range.1 hk
  rw[if_pos (by omega)]
 |d+1,i,hi=>by
  rw[Sp.lol,lo1_w h0 h1 hr (by omega)]
  exact lol_w h0 h1 hr d (i+1) (by omega)
theorem lod_r{m:MeT}(hw:W32f m.1){cs:List CfT}(hm:Sp.mvl m=true)(hr:Sp.rcc cs=0):Sp.lod m cs=((cs,Sp.rll m cs (Sp.cyc m) cs.length,Sp.cyc m,false,()),0,()):=by
 have cb:=cyc_b hw
 have w0:Sp.rlw m cs (Sp.cyc m) cs.length 0=replicate cs.length Zd0:=by
  refine list_ext Sp.zeroF (by rw[rlw_len,List.length_replicate]) (fun k hk=> ?_)
  rw[rlw_len]at hk
  rw[rlw_get m cs _ 0 hk,if_neg (by omega),List.getD_eq_getElem?_getD,List.getElem?_replicate,if_pos hk]
  rfl
 have l:=lol_w (m:=m) cb.1 cb.2 hr cs.length 0 (by omega)
 rw[w0]at l
 unfold Sp.lod
 rw[if_pos hm,if_pos hr,l]
set_option maxRecDepth 100000
set_option maxHeartbeats 4000000
noncomputable def Sp.kpt(f:FaT):FaT:=if Sp.sto f=true then(Sp.andI .i64 f.1 22,0,f.2.2)else Sp.zeroF
theorem st_k{s:Int}(h0:0<=s)(h1:s<=31):((Sp.andI .i64 (Sp.andI .i64 s 22) 2==2)=(Sp.andI .i64 s 2==2)/\(Sp.andI .i64 (Sp.andI .i64 s 22) 4==4)=(Sp.andI .i64 s 4==4))/\((Sp.andI .i64 (Sp.andI .i64 s 22) 16==16)=(Sp.andI .i64 s 16==16)/\(Sp.andI .i64 (Sp.andI .i64 s 22) 1==1)=false)/\(Sp.andI .i64 (Sp.andI .i64 s 22) 6 !=0)=(Sp.andI .i64 s 6 !=0):=by
 have:=tab (fun s=>decide (((Sp.andI .i64 (Sp.andI .i64 s 22) 2==2)=(Sp.andI .i64 s 2==2)/\(Sp.andI .i64 (Sp.andI .i64 s 22) 4==4)=(Sp.andI .i64 s 4==4))/\((Sp.andI .i64 (Sp.andI .i64 s 22) 16==16)=(Sp.andI .i64 s 16==16)/\(Sp.andI .i64 (Sp.andI .i64 s 22) 1==1)=false)/\(Sp.andI .i64 (Sp.andI .i64 s 22) 6 !=0)=(Sp.andI .i64 s 6 !=0))) (by decide+kernel) h0 h1
 exact of_decide_eq_true this
theorem rgt_s{c:CfT}{f:FaT}{cy:Int}(h:Sp.rgt c f cy=true):0<=f.1/\f.1<=31:=by
 unfold Sp.rgt Sp.rngs at h
 simp only[Bool.and_eq_true,inr_iff]at h
 exact h.1.1
theorem kpt_rgt{c:CfT}{f:FaT}{cy:Int}(hc:Sp.cfg c=true)(h:Sp.rgt c f cy=true)(h0:0<=cy):Sp.rgt c (Sp.kpt f) cy=true:=by
 unfold Sp.kpt
 cases hs:Sp.sto f
 ·rw[if_neg Bool.false_ne_true]
  exact rgt_z hc h0
 rw[if_pos rfl]
 have rs:=rgt_s h
 have k:=st_k rs.1 rs.2
 have s22:=st_22 rs.1 rs.2
 have b1:Sp.bt (Sp.andI .i64 f.1 22,0,f.2.2) 1=false:=k.2.1.2
 have b2:Sp.bt (Sp.andI .i64 f.1 22,0,f.2.2) 2=Sp.bt f 2:=k.1.1
 have b4:Sp.bt (Sp.andI .i64 f.1 22,0,f.2.2) 4=Sp.bt f 4:=k.1.2
 have b16:Sp.bt (Sp.andI .i64 f.1 22,0,f.2.2) 16=Sp.bt f 16:=k.2.1.1
 unfold Sp.rgt at h⊢
 rw[Bool.and_eq_true,Bool.and_eq_true,Bool.and_eq_true,Bool.and_eq_true,Bool.and_eq_true]at h
 obtain⟨a1,a2,⟨a3,a4,a5⟩,a6⟩:=h
 have q1:Sp.rngs c (Sp.andI .i64 f.1 22,0,f.2.2) cy=true:=by
  unfold Sp.rngs at a1⊢
  unfold Sp.cfg at hc
  simp only[Bool.and_eq_true,inr_iff]at a1 hc⊢
  omega
 have q2:Sp.frq c (Sp.andI .i64 f.1 22,0,f.2.2)=true:=a2
 have q3:Sp.q0 cy (Sp.andI .i64 f.1 22,0,f.2.2)=true:=by unfold Sp.q0;rw[b1];rfl
 have q4:Sp.q1 c (Sp.andI .i64 f.1 22,0,f.2.2)=true:=by
  unfold Sp.q1 at a4⊢
  rw[b4,b16]
  exact a4
 have q5:Sp.q2 (Sp.andI .i64 f.1 22,0,f.2.2)=true:=by
  unfold Sp.q2 at a5⊢
  rw[b2]
  exact a5
 have q6:Sp.fin c (Sp.andI .i64 f.1 22,0,f.2.2)=true:=by
  unfold Sp.fin at a6⊢
  rw[b2,b4]
  exact a6
 rw[q1,q2,q3,q4,q5,q6]
 rfl
theorem kpt_sto{f:FaT}(h0:0<=f.1)(h1:f.1<=31)(hs:Sp.sto f=true):Sp.sto (Sp.andI .i64 f.1 22,0,f.2.2)=true:=by
 unfold Sp.sto at hs⊢
 rw[(st_k h0 h1).2.2]
 exact hs
theorem cyc_sv{F:FsT}(hv:Sp.vf F=true){m x:MeT}{q:PwT}(S:SVD F (Sp.kyb F.2.1.length) m x q):Sp.cyc x=F.2.2.1:=by
 have vd:=vf_d hv
 have u:=S.u 254 (by decide) (by decide) rfl
 have d0:Sp.dat F 254=[F.2.2.1]:=by unfold Sp.dat;rw[if_pos rfl,wu32' (by omega) (by omega)]
 unfold Sp.cyc
 rw[rdk_v S.g.v (by decide) (by decide)]
 rw[d0]at u
 unfold Sp.uto at u
 cases hl:Sp.lku (Sp.ent x) 254 with
 |some e=>
  rw[hl]at u
  dsimp only at u⊢
  rw[u,if_pos ⟨rfl,rfl,by show F.2.2.1<=_;omega⟩]
  rfl
 |none=>
  rw[hl]at u
  dsimp only at u⊢
  rw[if_neg (fun z=>by have:=z.1;omega)]
  rcases u with u|u
  ·cases u
  ·exact u.2.symm
theorem lof_sv{F:FsT}(hv:Sp.vf F=true){m x:MeT}{q:PwT}(S:SVD F (Sp.kyb F.2.1.length) m x q){j:Nat}(hj:j<F.2.1.length)(c:CfT):Sp.lof x c j=if Sp.sto (F.2.1.getD j Zd0)=true/\(F.1.getD j Zd1).1=c.1 then some (Sp.kpt (F.2.1.getD j Zd0))else none:=by
 have vd:=vf_d hv
 have hk:Sp.kyb F.2.1.length (j:Int)=true:=by
  unfold Sp.kyb
  rw[decide_eq_true (p:=0<=(j:Int)) (by omega),decide_eq_true (show(j:Int)<(F.2.1.length:Int) by omega),Bool.and_self,Bool.or_true]
 have u:=S.u (j:Int) (by omega) (by omega) hk
 have ed:=dat_i (F:=F) (i:=j) (by omega)
 have gg:=vf_good hv hj
 have cf:=cfgs_at vd.2.1 (show j<F.1.length by omega)
 have cb:1<=(F.1.getD j Zd1).1/\(F.1.getD j Zd1).1<=16777215:=by
  unfold Sp.cfg at cf
  simp only[Bool.and_eq_true,inr_iff]at cf
  omega
 have gi:=(good_iff.1 gg).1
 unfold Sp.lof
 rw[rdk_v S.g.v (by omega) (by omega)]
 unfold Sp.uto at u
 cases hs:Sp.sto (F.2.1.getD j Zd0)
 ·rw[hs,if_neg Bool.false_ne_true]at ed
  rw[show(if(false=true/\(F.1.getD j Zd1).1=c.1)then some (Sp.kpt (F.2.1.getD j Zd0))else none)=none from if_neg (fun z=>Bool.noConfusion z.1)]
  cases hl:Sp.lku (Sp.ent x) (j:Int)with
  |some e=>
   rw[hl,ed]at u
   dsimp only at u⊢
   rw[u,if_neg (fun z=>by have:=z.2.1;rw[List.length_nil]at this;omega)]
  |none=>
   dsimp only
   rw[if_neg (fun z=>by have:=z.1;omega)]
 ·rw[hs,if_pos rfl]at ed
  cases hl:Sp.lku (Sp.ent x) (j:Int)with
  |none=>
   rw[hl,ed]at u
   dsimp only at u
   rcases u with u|u
   ·cases u
   ·omega
  |some e=>
   rw[hl,ed,wu32' (by omega) (by omega)]at u
   dsimp only at u⊢
   have bk:=back1 gg
   have up:Sp.upk (Sp.wpk (F.2.1.getD j Zd0))=((Sp.andI .i64 (F.2.1.getD j Zd0).1 22,0,(F.2.1.getD j Zd0).2.2),0,()):=by
    unfold Sp.upk
    rw[bk.2.2,cond_t,bk.2.1]
   have e1:([(F.1.getD j Zd1).1]++Sp.wpk (F.2.1.getD j Zd0)).drop 1=Sp.wpk (F.2.1.getD j Zd0):=rfl
   have e2:([(F.1.getD j Zd1).1]++Sp.wpk (F.2.1.getD j Zd0)).getD 0 0=(F.1.getD j Zd1).1:=rfl
   have kp:Sp.kpt (F.2.1.getD j Zd0)=(Sp.andI .i64 (F.2.1.getD j Zd0).1 22,0,(F.2.1.getD j Zd0).2.2):=by unfold Sp.kpt;rw[hs,if_pos rfl]
   have ks:=kpt_sto gi.1 gi.2 hs
   rw[u,e1,e2,up,kp]
   dsimp only
   by_cases cc:(F.1.getD j Zd1).1=c.1
   ·rw[if_pos ⟨rfl,by rw[List.length_append,List.length_singleton];omega,cc,rfl,ks⟩,if_pos ⟨rfl,cc⟩]
   ·rw[if_neg (fun z=>cc z.2.2.1),if_neg (fun z=>cc z.2)]
theorem rcc_vf{F:FsT}(hv:Sp.vf F=true):Sp.rcc F.1=0:=by
 have h:=hv
 unfold Sp.vf at h
 simp only[Bool.and_eq_true,decide_eq_true_eq]at h
 obtain⟨a,b,c,_⟩:=h
 unfold Sp.rcc
 rw[decide_eq_true a,cond_t,b,cond_t,show Sp.codesL F.1=F.1.map (fun c=>c.1)from rfl,c,cond_t]
theorem lod_sv{F:FsT}(hv:Sp.vf F=true){m x:MeT}{q:PwT}(S:SVD F (Sp.kyb F.2.1.length) m x q):Sp.lod x F.1=((F.1,(List.range F.1.length).map (fun j=>Sp.kpt (F.2.1.getD j Zd0)),F.2.2.1,false,()),0,()):=by
 have vd:=vf_d hv
 rw[lod_r S.g.w S.g.v (rcc_vf hv),cyc_sv hv S]
 have e:Sp.rll x F.1 F.2.2.1 F.1.length=(List.range F.1.length).map (fun j=>Sp.kpt (F.2.1.getD j Zd0)):=by
  unfold Sp.rll
  refine List.map_congr_left (fun j hj=> ?_)
  have hj:=List.mem_range.1 hj
  have lf:=lof_sv hv S (j:=j) (by omega) (F.1.getD j Zd1)
  have rg:Sp.rgt (F.1.getD j Zd1) (F.2.1.getD j Zd0) F.2.2.1=true:=by
   have:=vd.2.2.2.2.2
   unfold Sp.rgts at this
   rw[List.all_eq_true]at this
   exact this j (List.mem_range.2 (by omega))
  unfold Sp.rla
  rw[lf]
  cases hs:Sp.sto (F.2.1.getD j Zd0)
  ·rw[if_neg (fun z=>Bool.noConfusion z.1)]
   show Sp.zeroF=Sp.kpt _
   unfold Sp.kpt
   rw[hs,if_neg Bool.false_ne_true]
  ·rw[if_pos ⟨rfl,rfl⟩]
   show(if Sp.rgt (F.1.getD j Zd1) (Sp.kpt (F.2.1.getD j Zd0)) F.2.2.1=true then Sp.kpt (F.2.1.getD j Zd0)else Sp.zeroF)=_
   rw[if_pos (kpt_rgt (cfgs_at vd.2.1 hj) rg (by omega))]
 rw[e]
theorem dol_fp:∀(l:List StT){s:RsT},s.2.2.1=0->(l.length:Int)+1<s.2.1.1->(Sp.dol l s).2.2.1≠19->(Sp.dol l s).2.2.1=0/\(Sp.dol l s).2.1.1=s.2.1.1-(l.length:Int)
 |[],s,e,_,_=>⟨e,by show s.2.1.1=s.2.1.1-0;omega⟩
 |x::l,s,e,hp,hn=>by
  rw[List.length_cons]at hp⊢
  rw[Sp.dol,if_pos e]at hn⊢
  have h:(Sp.dop s x).2.2.1=19\/(Sp.dop s x).2.2.1=0/\(Sp.dop s x).2.1.1=s.2.1.1-1:=by
   unfold Sp.dop
   cases x.1
   ·rw[if_neg Bool.false_ne_true]
    right
    unfold Sp.prg
    rw[if_neg (by omega),if_neg (by omega)]
    exact⟨rfl,rfl⟩
   ·rw[if_pos rfl]
    unfold Sp.ers
    split
    ·exact .inl rfl
    right
    rw[if_neg (by omega),if_neg (by omega)]
    exact⟨rfl,rfl⟩
  rcases h with h|⟨h,h2⟩
  ·exfalso
   rw[dol_stop l (by rw[h];decide)]at hn
   exact hn h
  ·have r:=dol_fp l h (by omega) hn
   exact⟨r.1,by rw[r.2,h2];push_cast;omega⟩
theorem wrs_e{m:MeT}{key:Int}{d:List Int}(c:(Sp.wrs m key d).2.1≠0):(Sp.wrs m key d).2.1=5\/(Sp.wrs m key d).2.1=19:=by
 revert c
 unfold Sp.wrs Sp.cov
 split
 ·intro c;exact absurd rfl c
 split
 ·intro _;exact .inl rfl
 split
 ·intro _;exact .inr rfl
 split
 ·intro _;exact .inr rfl
 ·intro c;exact absurd rfl c
theorem wrv_full{m:MeT}{p:PwT}(g:MG m p){key:Int}{d:List Int}(k0:0<=key)(k1:key<=254)(k2:d.length<=24)(hd:W32l d)(hp:1000002<=p.1) :
 (Sp.wrv m key d p).2.2.1=0/\p.1-1000000<=(Sp.wrv m key d p).2.1.1\/((Sp.wrv m key d p).2.2.1=5\/(Sp.wrv m key d p).2.2.1=19)/\(Sp.wrv m key d p).1=Sp.zM:=by
 have r:=wrv_r g k0 k1 k2 hd
 by_cases c:(Sp.wrs m key d).2.1=0
 rotate_left
 ·rw[r.1 c]
  exact .inr ⟨wrs_e c,rfl⟩
 obtain⟨w1,w2⟩:=r.2 c
 have sv:=(wrs_sv g.w g.v c).1.2
 have f:=dol_fp (Sp.wrs m key d).1 (s:=(m.1,p,0,())) rfl (by dsimp only;omega) (by rcases w2.e with z|z<;>omega)
 dsimp only at f
 rw[w1]
 unfold Sp.rdo
 dsimp only
 exact .inl ⟨f.1,by omega⟩
theorem svl_full{F:FsT}(hv:Sp.vf F=true):∀(d i:Nat)(m:MeT)(p:PwT),MG m p->i+d=F.2.1.length->1000002*(d:Int)+2<=p.1->(Sp.svl F d i m p).2.2.1=0\/((Sp.svl F d i m p).2.2.1=5\/(Sp.svl F d i m p).2.2.1=19)/\(Sp.svl F d i m p).1=Sp.zM
 |0,_,_,_,_,_,_=> .inl rfl
 |d+1,i,m,p,g,hi,hp=>by
  have vd:=vf_d hv
  have db:=dat_b hv (key:=(i:Int)) (.inr ⟨by omega,by omega⟩)
  have w:=wrv_full g (key:=(i:Int)) (d:=Sp.dat F i) (by omega) (by omega) (by omega) db.1 (by omega)
  rw[Sp.svl]
  split
  ·exact svl_full hv d (i+1) m p g (by omega) (by omega)
  split
  ·rename_i e
   refine svl_full hv d (i+1) _ _ (wrv_go g (by omega) (by omega) (by omega) db.1 e) (by omega) ?_
   rcases w with w|w<;>omega
  ·rename_i e
   rcases w with w|w
   ·exact absurd w.1 e
   ·exact .inr w
theorem svw_full{F:FsT}(hv:Sp.vf F=true){m:MeT}{p:PwT}(g:MG m p)(hp:1000000000<=p.1):(Sp.svw F m p).2.2.1=0\/((Sp.svw F m p).2.2.1=5\/(Sp.svw F m p).2.2.1=19)/\(Sp.svw F m p).1=Sp.zM:=by
 have vd:=vf_d hv
 have db:=dat_b hv (key:=254) (.inl rfl)
 have w:=wrv_full g (key:=254) (d:=Sp.dat F 254) (by omega) (by omega) (by omega) db.1 (by omega)
 unfold Sp.svw
 split
 ·exact svl_full hv _ 0 m p g (by omega) (by omega)
 split
 ·rename_i e
  refine svl_full hv _ 0 _ _ (wrv_go g (by omega) (by omega) (by omega) db.1 e) (by omega) ?_
  rcases w with w|w<;>omega
 ·rename_i e
  rcases w with w|w
  ·exact absurd w.1 e
  ·exact .inr w
theorem full_pv:p_25=true/\v_25=((1099511627776,0,()),()):=pv_25 rfl
theorem rnm_pv(l:List Int)(h:l.length<4611686018427387904):p_56 l l=true/\v_56 l l=(true,()):=by
 refine pv_56 l l ?_
 unfold F_56
 rw[cond_nff rfl]
 have h1:=run0 (fun m i(_:Unit)=>L_56_0 m l l i) (n:=l.length) (fun _=>()) (r:=some .e1) h (fun m j hj=>by
  show L_56_0 (m+1) l l (j:Int)=L_56_0 m l l ((j+1:Nat):Int)
  rw[L_56_0,S_56_0,cond_dtt (by omega),gd_inB (by omega) (by omega),gd_inB (by omega) (by omega),cond_nff rfl,wi64 (by omega) (by omega)]
  push_cast
  rfl) (fun m=>by
  show L_56_0 (m+1) l l l.length=_
  rw[L_56_0,S_56_0,cond_dff (by omega)])
 have e1:L_56_0 4611686018427387904 l l 0=_:=h1
 rw[e1]
 rfl
theorem fsame_pv(f:FaT)(h:f.2.2.2.2.2.1.length<4611686018427387904):p_18 f f=true/\v_18 f f=(true,()):=by
 refine pv_18 f f ?_
 unfold F_18
 simp only[beq_self_eq_true,cond_t,rnm_pv _ h,gd_tt]
theorem rkpt_pv(f:FaT):p_19 f=true/\v_19 f=(Sp.kpt f,()):=by
 have s:=rkno_pv f
 refine pv_19 f ?_
 unfold F_19 Sp.kpt
 rw[s.1,s.2,gd_tt]
 dsimp only
 cases Sp.sto f<;>rfl
theorem kpt_fr{f:FaT}(h:f.2.2.2.2.2.1.length<=1000):(Sp.kpt f).2.2.2.2.2.1.length<4611686018427387904:=by
 unfold Sp.kpt
 split
 ·show f.2.2.2.2.2.1.length<_;omega
 ·exact Nat.zero_lt_succ _
theorem map_at{α β:Type}(g:α->β)(l:List α)(d:α)(e:β){j:Nat}(h:j<l.length):(l.map g).getD j e=g (l.getD j d):=by
 rw[getD_at e (by rw[List.length_map];exact h),List.getElem_map,getD_at d h]
theorem kept_pv{F:FsT}(hv:Sp.vf F=true){a:FsT}(ha:a=(F.1,(List.range F.1.length).map (fun j=>Sp.kpt (F.2.1.getD j Zd0)),F.2.2.1,false,())):p_26 a F=true/\v_26 a F=(true,()):=by
 have vd:=vf_d hv
 have al:a.2.1.length=F.1.length:=by rw[ha];simp
 refine pv_26 a F ?_
 unfold F_26
 rw[cond_nff (show a.2.2.1=F.2.2.1 by rw[ha]),show a.2.2.2.1=false by rw[ha],cond_f,cond_nff (by omega)]
 have t:=run0 (fun m i(_:Unit)=>L_26_0 m a.2.1.length i a F) (n:=a.2.1.length) (fun _=>()) (r:=some .e1) (by omega) (fun m j hj=>by
  show L_26_0 (m+1) a.2.1.length (j:Int) a F=L_26_0 m a.2.1.length ((j+1:Nat):Int) a F
  have gg:=vf_good hv (j:=j) (by omega)
  have l8:=(good_iff.1 gg).2.2.2.2.2.1
  have k:=rkpt_pv (F.2.1.getD j Zd0)
  have sf:=fsame_pv (Sp.kpt (F.2.1.getD j Zd0)) (kpt_fr (by omega))
  have e:a.2.1.getD j Zd0=Sp.kpt (F.2.1.getD j Zd0):=by
   rw[ha]
   dsimp only
   rw[map_at _ _ 0 _ (by rw[List.length_range];omega),getD_at 0 (by rw[List.length_range];omega),List.getElem_range]
  rw[L_26_0,S_26_0,cond_dtt (by omega),gd_inB (by omega) (by omega),gd_inB (by omega) (by omega),Int.toNat_natCast,k.1,k.2,gd_tt]
  dsimp only
  rw[e,sf.1,sf.2,gd_tt]
  dsimp only
  rw[Bool.not_true,cond_f,wi64 (by omega) (by omega)]
  push_cast
  rfl) (fun m=>by
  show L_26_0 (m+1) a.2.1.length (a.2.1.length:Int) a F=_
  rw[L_26_0,S_26_0,cond_dff (by omega)])
 have t:L_26_0 4611686018427387904 a.2.1.length 0 a F=_:=t
 rw[t]
 rfl
theorem few_pv(F:FsT):∃r,p_9 F=true/\v_9 F=(r,())/\(r=true->F.1.length<=70/\F.2.1.length<=70/\FRL F.2.1):=by
 by_cases h1:(F.1.length:Int)<=70
 rotate_left
 ·have:=pv_9 F (y:=(false,())) (by unfold F_9;rw[cond_dff h1])
  exact⟨false,this.1,this.2,fun z=>by cases z⟩
 by_cases h2:(F.2.1.length:Int)<=70
 rotate_left
 ·have:=pv_9 F (y:=(false,())) (by unfold F_9;rw[cond_dtt h1,cond_dff h2])
  exact⟨false,this.1,this.2,fun z=>by cases z⟩
 have hf:=find0 (fun m i=>L_9_77_0_0 m F.2.1 F.2.1.length i F) (n:=F.2.1.length) (fun j=>decide (((F.2.1.getD j Zd0).2.2.2.2.2.1.length:Int)>20)) (ex:=fun j=>some (.e0 (j:Int) F)) (e1:=some (.e1 F)) (by omega) (fun m j hj=>by
  show L_9_77_0_0 (m+1) F.2.1 F.2.1.length (j:Int) F=bif decide (((F.2.1.getD j Zd0).2.2.2.2.2.1.length:Int)>20)then some (.e0 (j:Int) F)else L_9_77_0_0 m F.2.1 F.2.1.length ((j+1:Nat):Int) F
  rw[L_9_77_0_0,S_9_77_0_0,cond_dtt (by omega),gd_inB (by omega) (by omega),Int.toNat_natCast,wi64 (by omega) (by omega)]
  push_cast
  rfl) (fun m=>by
  show L_9_77_0_0 (m+1) F.2.1 F.2.1.length (F.2.1.length:Int) F=_
  rw[L_9_77_0_0,S_9_77_0_0,cond_dff (by omega)])
 cases hq:fnd (fun j=>decide (((F.2.1.getD j Zd0).2.2.2.2.2.1.length:Int)>20)) F.2.1.length 0 with
 |some j=>
  rw[hq]at hf
  have:=pv_9 F (y:=(false,())) (by
   unfold F_9
   rw[cond_dtt h1,cond_dtt h2]
   refine(congrArg (fun z=>B_9_77_0_0 z _ _) hf).trans ?_
   show some (!decide ((j:Int)>=0),())=_
   rw[decide_eq_true (by omega)]
   rfl)
  exact⟨false,this.1,this.2,fun z=>by cases z⟩
 |none=>
  rw[hq]at hf
  have:=pv_9 F (y:=(true,())) (by
   unfold F_9
   rw[cond_dtt h1,cond_dtt h2]
   exact(congrArg (fun z=>B_9_77_0_0 z _ _) hf).trans rfl)
  refine⟨true,this.1,this.2,fun _=>⟨by omega,by omega,fun f hf2=> ?_⟩⟩
  obtain⟨i,hi,e⟩:=List.mem_iff_getElem.1 hf2
  have:=of_decide_eq_false (fnd_none.1 hq i (by omega) (by omega))
  rw[getD_at _ hi,e]at this
  omega
theorem small_pv(m:MeT)(F:FsT):∃r,p_8 m F=true/\v_8 m F=(r,())/\(r=true->F.1.length<=70/\F.2.1.length<=70/\FRL F.2.1):=by
 obtain⟨ra,pa,qa,ha⟩:=few_pv F
 by_cases h1:(m.1.1.length:Int)<=1024
 rotate_left
 ·have:=pv_8 m F (y:=(false,())) (by unfold F_8;rw[cond_dff h1])
  exact⟨false,this.1,this.2,fun z=>by cases z⟩
 by_cases h2:(m.1.2.1.length:Int)<=16
 rotate_left
 ·have:=pv_8 m F (y:=(false,())) (by unfold F_8;rw[cond_dtt h1,cond_dff h2])
  exact⟨false,this.1,this.2,fun z=>by cases z⟩
 by_cases h3:m.2.2.1<=16
 rotate_left
 ·have:=pv_8 m F (y:=(false,())) (by unfold F_8;rw[cond_dtt h1,cond_dtt h2,cond_dff h3])
  exact⟨false,this.1,this.2,fun z=>by cases z⟩
 have:=pv_8 m F (y:=(ra,())) (by unfold F_8;rw[cond_dtt h1,cond_dtt h2,cond_dtt h3,pa,qa,gd_tt])
 exact⟨ra,this.1,this.2,ha⟩
theorem chk_v(m:MeT)(F:FsT)(p:PwT)(hw:W32f m.1)(sm:Sm F):p_22 m F p=true/\v_22 m F p=(Sp.mvl m&&(Sp.vf F&&Sp.pok p),()):=by
 have rv:=rmv_pv hw
 have rf:=rvf_pv sm
 have rp:=rpok_pv p
 refine pv_22 m F p ?_
 unfold F_22
 rw[rv.1,rv.2,gd_tt]
 dsimp only
 cases Sp.mvl m
 ·rfl
 rw[cond_t,rf.1,rf.2,gd_tt]
 dsimp only
 cases Sp.vf F
 ·rfl
 rw[cond_t,rp.1,rp.2,gd_tt,Bool.true_and,Bool.true_and]
namespace Sp
noncomputable def dlk(n:Nat)(k:Int):Bool:=bif k==254 then true else decide (k<(n:Int))
noncomputable def cmp(n:Nat):Nat->Nat->Nat->List EnT->Nat×List EnT
 |0,i,_,l=>(i,l)
 |d+1,i,j,l=>if dlk n (l.getD j dE).1=true then cmp n d i (j+1) l else cmp n d (i+1) (j+1) (l.set i (l.getD j dE))
end Sp
theorem fi0(E:List EnT)(hl:E.length<=1000)(F:FsT)(p2 p4 p5 p6 p7 p8):L_6_71_0_0 4611686018427387904 E.length 0 p2 F p4 p5 p6 p7 p8 E=(match fnd (fun j=>Sp.dlk F.2.1.length (E.getD j Sp.dE).1) E.length 0 with|some j=>some (.e0 (j:Int) p2 F p4 p5 p6 p7 p8 E)|none=>some (.e1 p2 F p4 p5 p6 p7 p8 E)) :=
 find0 (fun q i=>L_6_71_0_0 q E.length i p2 F p4 p5 p6 p7 p8 E) (n:=E.length) (fun j=>Sp.dlk F.2.1.length (E.getD j Sp.dE).1) (ex:=fun j=>some (.e0 (j:Int) p2 F p4 p5 p6 p7 p8 E)) (e1:=some (.e1 p2 F p4 p5 p6 p7 p8 E)) (by omega) (fun q j hj=>by
  show L_6_71_0_0 (q+1) E.length (j:Int) p2 F p4 p5 p6 p7 p8 E=bif Sp.dlk F.2.1.length (E.getD j Sp.dE).1 then some (.e0 (j:Int) p2 F p4 p5 p6 p7 p8 E)else L_6_71_0_0 q E.length ((j+1:Nat):Int) p2 F p4 p5 p6 p7 p8 E
  rw[L_6_71_0_0,S_6_71_0_0,cond_dtt (by omega),gd_inB (by omega) (by omega),Int.toNat_natCast,Bool.and_true,gd_dec (by omega),wi64 (by omega) (by omega),show(j:Int)+1=((j+1:Nat):Int) by push_cast;rfl,show Zd2=Sp.dE from rfl]
  unfold Sp.dlk
  cases (E.getD j Sp.dE).1==254
  ·cases decide ((E.getD j Sp.dE).1<(F.2.1.length:Int))<;>rfl
  ·rfl) (fun q=>by
  show L_6_71_0_0 (q+1) E.length (E.length:Int) p2 F p4 p5 p6 p7 p8 E=_
  rw[L_6_71_0_0,S_6_71_0_0,cond_dff (by omega)])
theorem fi1(E:List EnT)(hl:E.length<=1000)(F:FsT)(p2 p4 p5 p6 p7 p8 p9):L_6_71_0_1 4611686018427387904 E.length 0 p2 F p4 p5 p6 p7 p8 p9 E=(match fnd (fun j=>Sp.dlk F.2.1.length (E.getD j Sp.dE).1) E.length 0 with|some j=>some (.e0 (j:Int) p2 F p4 p5 p6 p7 p8 p9 E)|none=>some (.e1 p2 F p4 p5 p6 p7 p8 p9 E)) :=
 find0 (fun q i=>L_6_71_0_1 q E.length i p2 F p4 p5 p6 p7 p8 p9 E) (n:=E.length) (fun j=>Sp.dlk F.2.1.length (E.getD j Sp.dE).1) (ex:=fun j=>some (.e0 (j:Int) p2 F p4 p5 p6 p7 p8 p9 E)) (e1:=some (.e1 p2 F p4 p5 p6 p7 p8 p9 E)) (by omega) (fun q j hj=>by
  show L_6_71_0_1 (q+1) E.length (j:Int) p2 F p4 p5 p6 p7 p8 p9 E=bif Sp.dlk F.2.1.length (E.getD j Sp.dE).1 then some (.e0 (j:Int) p2 F p4 p5 p6 p7 p8 p9 E)else L_6_71_0_1 q E.length ((j+1:Nat):Int) p2 F p4 p5 p6 p7 p8 p9 E
  rw[L_6_71_0_1,S_6_71_0_1,cond_dtt (by omega),gd_inB (by omega) (by omega),Int.toNat_natCast,Bool.and_true,gd_dec (by omega),wi64 (by omega) (by omega),show(j:Int)+1=((j+1:Nat):Int) by push_cast;rfl,show Zd2=Sp.dE from rfl]
  unfold Sp.dlk
  cases (E.getD j Sp.dE).1==254
  ·cases decide ((E.getD j Sp.dE).1<(F.2.1.length:Int))<;>rfl
  ·rfl) (fun q=>by
  show L_6_71_0_1 (q+1) E.length (E.length:Int) p2 F p4 p5 p6 p7 p8 p9 E=_
  rw[L_6_71_0_1,S_6_71_0_1,cond_dff (by omega)])
theorem dl1(F:FsT)(p2 p4 p5 p6 p7 p8):∀(d q i j:Nat)(l:List EnT),j+d=l.length->l.length<=1000->i<j->d<q->L_6_30_0_1 q i j p2 F p4 p5 p6 p7 p8 l=some (.e0 ((Sp.cmp F.2.1.length d i j l).1:Int) p2 F p4 p5 p6 p7 p8 (Sp.cmp F.2.1.length d i j l).2)
 |0,q,i,j,l,h,h2,h3,h4=>by
  obtain⟨q,rfl⟩:∃k,q=k+1:=⟨q-1,by omega⟩
  rw[L_6_30_0_1,S_6_30_0_1,cond_dff (by omega)]
  rfl
 |d+1,q,i,j,l,h,h2,h3,h4=>by
  obtain⟨q,rfl⟩:∃k,q=k+1:=⟨q-1,by omega⟩
  rw[L_6_30_0_1,S_6_30_0_1,cond_dtt (by omega),gd_inB (by omega) (by omega),Int.toNat_natCast,Bool.and_true,gd_dec (by omega),wi64 (n:=(j:Int)+1) (by omega) (by omega),show(j:Int)+1=((j+1:Nat):Int) by push_cast;rfl,show Zd2=Sp.dE from rfl,Sp.cmp]
  have i1:=dl1 F p2 p4 p5 p6 p7 p8 d q i (j+1) l (by omega) h2 (by omega) (by omega)
  have i2:=dl1 F p2 p4 p5 p6 p7 p8 d q (i+1) (j+1) (l.set i (l.getD j Sp.dE)) (by rw[List.length_set];omega) (by rw[List.length_set];omega) (by omega) (by omega)
  unfold Sp.dlk
  by_cases c:(l.getD j Sp.dE).1=254
  ·rw[cond_ett c,cond_ett c,if_pos rfl]
   exact i1
  rw[cond_eff c,cond_eff c]
  by_cases c2:(l.getD j Sp.dE).1<(F.2.1.length:Int)
  ·rw[decide_eq_true c2,Bool.not_true,cond_f,if_pos rfl]
   exact i1
  ·rw[decide_eq_false c2,Bool.not_false,cond_t,if_neg Bool.false_ne_true,gd_inB (by omega) (by omega),Bool.and_true,Bool.and_true,Int.toNat_natCast,gd_dec (by omega),wi64 (n:=(i:Int)+1) (by omega) (by omega),show(i:Int)+1=((i+1:Nat):Int) by push_cast;rfl]
   exact i2
theorem dl0(F:FsT)(p2 p4 p5 p6 p7 p8 p9):∀(d q i j:Nat)(l:List EnT),j+d=l.length->l.length<=1000->i<j->d<q->L_6_30_0_0 q i j p2 F p4 p5 p6 p7 p8 p9 l=some (.e0 ((Sp.cmp F.2.1.length d i j l).1:Int) p2 F p4 p5 p6 p7 p8 p9 (Sp.cmp F.2.1.length d i j l).2)
 |0,q,i,j,l,h,h2,h3,h4=>by
  obtain⟨q,rfl⟩:∃k,q=k+1:=⟨q-1,by omega⟩
  rw[L_6_30_0_0,S_6_30_0_0,cond_dff (by omega)]
  rfl
 |d+1,q,i,j,l,h,h2,h3,h4=>by
  obtain⟨q,rfl⟩:∃k,q=k+1:=⟨q-1,by omega⟩
  rw[L_6_30_0_0,S_6_30_0_0,cond_dtt (by omega),gd_inB (by omega) (by omega),Int.toNat_natCast,Bool.and_true,gd_dec (by omega),wi64 (n:=(j:Int)+1) (by omega) (by omega),show(j:Int)+1=((j+1:Nat):Int) by push_cast;rfl,show Zd2=Sp.dE from rfl,Sp.cmp]
  have i1:=dl0 F p2 p4 p5 p6 p7 p8 p9 d q i (j+1) l (by omega) h2 (by omega) (by omega)
  have i2:=dl0 F p2 p4 p5 p6 p7 p8 p9 d q (i+1) (j+1) (l.set i (l.getD j Sp.dE)) (by rw[List.length_set];omega) (by rw[List.length_set];omega) (by omega) (by omega)
  unfold Sp.dlk
  by_cases c:(l.getD j Sp.dE).1=254
  ·rw[cond_ett c,cond_ett c,if_pos rfl]
   exact i1
  rw[cond_eff c,cond_eff c]
  by_cases c2:(l.getD j Sp.dE).1<(F.2.1.length:Int)
  ·rw[decide_eq_true c2,Bool.not_true,cond_f,if_pos rfl]
   exact i1
  ·rw[decide_eq_false c2,Bool.not_false,cond_t,if_neg Bool.false_ne_true,gd_inB (by omega) (by omega),Bool.and_true,Bool.and_true,Int.toNat_natCast,gd_dec (by omega),wi64 (n:=(i:Int)+1) (by omega) (by omega),show(i:Int)+1=((i+1:Nat):Int) by push_cast;rfl]
   exact i2
theorem take_s1{E:List EnT}{j:Nat}(h:j<E.length):E.take (j+1)=E.take j++[E.getD j Sp.dE]:=by
 rw[List.take_succ_eq_append_getElem h,getD_at _ h]
theorem cmp_ok(E:List EnT)(n:Nat):∀(d i j:Nat)(l:List EnT),j+d=E.length->l.length=E.length->i<j->l.take i=Sp.fil (fun k=> !Sp.dlk n k) (E.take j)->l.drop j=E.drop j->(Sp.cmp n d i j l).2.length=E.length/\(Sp.cmp n d i j l).1<E.length/\(Sp.cmp n d i j l).2.take (Sp.cmp n d i j l).1=Sp.fil (fun k=> !Sp.dlk n k) E
 |0,i,j,l,h,h2,h3,h4,h5=>⟨h2,by show i<_;omega,by
  rw[List.take_of_length_le (show E.length<=j by omega)]at h4
  exact h4⟩
 |d+1,i,j,l,h,h2,h3,h4,h5=>by
  have hj:l.getD j Sp.dE=E.getD j Sp.dE:=by
   have:(l.drop j).getD 0 Sp.dE=(E.drop j).getD 0 Sp.dE:=by rw[h5]
   rw[List.getD_eq_getElem?_getD,List.getD_eq_getElem?_getD,List.getElem?_drop,List.getElem?_drop,Nat.add_zero,<-List.getD_eq_getElem?_getD,<-List.getD_eq_getElem?_getD]at this
   exact this
  have h6:l.drop (j+1)=E.drop (j+1):=by
   rw[<-List.drop_drop,<-List.drop_drop,h5]
  rw[Sp.cmp,hj]
  by_cases c:Sp.dlk n (E.getD j Sp.dE).1=true
  ·rw[if_pos c]
   refine cmp_ok E n d i (j+1) l (by omega) h2 (by omega) ?_ h6
   rw[h4,take_s1 (by omega)]
   unfold Sp.fil
   rw[List.filter_append]
   have:List.filter (fun e:EnT=> !Sp.dlk n e.1) [E.getD j Sp.dE]=[]:=by simp only[List.filter_cons,c];rfl
   rw[this,List.append_nil]
  ·rw[if_neg c]
   have c:=Bool.eq_false_iff.2 c
   refine cmp_ok E n d (i+1) (j+1) (l.set i (E.getD j Sp.dE)) (by omega) (by rw[List.length_set];exact h2) (by omega) ?_ ?_
   ·rw[take_s1 (by rw[List.length_set];omega),List.take_set_of_le (Nat.le_refl _),h4,take_s1 (by omega)]
    unfold Sp.fil
    rw[List.filter_append,getD_set _ _ _ _ _ (by omega),if_pos rfl]
    have:List.filter (fun e:EnT=> !Sp.dlk n e.1) [E.getD j Sp.dE]=[E.getD j Sp.dE]:=by simp only[List.filter_cons,c];rfl
    rw[this]
   ·rw[List.drop_set_of_lt (by omega)]
    exact h6
theorem fil_all{E:List EnT}{n:Nat}(h:fnd (fun j=>Sp.dlk n (E.getD j Sp.dE).1) E.length 0=none):Sp.fil (fun k=> !Sp.dlk n k) E=E:=by
 unfold Sp.fil
 rw[List.filter_eq_self]
 intro e he
 obtain⟨i,hi,rfl⟩:=List.mem_iff_getElem.1 he
 have:=fnd_none.1 h i (by omega) (by omega)
 rw[getD_at _ hi]at this
 show(!Sp.dlk n _)=true
 rw[this];rfl
theorem fil_some{E:List EnT}{n j:Nat}(h:fnd (fun j=>Sp.dlk n (E.getD j Sp.dE).1) E.length 0=some j):j<E.length/\E.take j=Sp.fil (fun k=> !Sp.dlk n k) (E.take (j+1)):=by
 obtain⟨_,hj,hp,hl⟩:=fnd_some h
 have hj:j<E.length:=by omega
 refine⟨hj,?_⟩
 rw[take_s1 hj]
 unfold Sp.fil
 rw[List.filter_append]
 have:List.filter (fun e:EnT=> !Sp.dlk n e.1) [E.getD j Sp.dE]=[]:=by simp only[List.filter_cons,hp];rfl
 rw[this,List.append_nil]
 refine(List.filter_eq_self.2 (fun e he=> ?_)).symm
 obtain⟨i,h1,h2,rfl⟩:=mem_take_lt he
 have:=hl i (by omega) h1
 show(!Sp.dlk n _)=true
 rw[this];rfl
theorem over_t{l:List EnT}{i:Nat}(h:i<=l.length)(r:List EnT)(hr:r.length=l.length-i):(over l i r).length=l.length/\(over l i r).take i=l.take i:=by
 unfold over
 have e:l.drop (i+r.length)=[]:=List.drop_eq_nil_of_le (by omega)
 rw[e,List.append_nil]
 refine⟨by rw[List.length_append,List.length_take,hr];omega,?_⟩
 exact List.take_left' (by rw[List.length_take];omega)
theorem rsame_pv(A:List EnT)(hk:∀e∈A,e.2.1.length<=1000000)(hl:A.length<=1000):p_33 A A=true/\v_33 A A=(true,()):=by
 refine pv_33 A A ?_
 unfold F_33
 rw[cond_nff rfl]
 have t:=run0 (fun m i(_:Unit)=>L_33_0 m A A i) (n:=A.length) (fun _=>()) (r:=some .e1) (by omega) (fun m j hj=>by
  show L_33_0 (m+1) A A (j:Int)=L_33_0 m A A ((j+1:Nat):Int)
  have s:=swrd_pv (A.getD j Sp.dE).2.1 (by rw[getD_at _ hj];exact hk _ (List.getElem_mem hj))
  rw[L_33_0,S_33_0,cond_dtt (by omega),gd_inB (by omega) (by omega),gd_inB (by omega) (by omega),cond_nff rfl,gd_inB (by omega) (by omega),gd_inB (by omega) (by omega),Int.toNat_natCast,show Zd2=Sp.dE from rfl,s.1,s.2,gd_tt]
  dsimp only
  rw[Bool.not_true,cond_f,wi64 (by omega) (by omega)]
  push_cast
  rfl) (fun m=>by
  show L_33_0 (m+1) A A (A.length:Int)=_
  rw[L_33_0,S_33_0,cond_dff (by omega)])
 have t:L_33_0 4611686018427387904 A A 0=_:=t
 rw[t]
 rfl
set_option maxRecDepth 100000
set_option maxHeartbeats 4000000
theorem svl_id{F:FsT}{x:MeT}(h:∀k:Int,0<=k->k<(F.2.1.length:Int)->Sp.utd x k (Sp.dat F k)=true)(p:PwT):∀(d i:Nat),i+d=F.2.1.length->Sp.svl F d i x p=(x,p,0,())
 |0,_,_=>rfl
 |d+1,i,hi=>by
  rw[Sp.svl,if_pos (h i (by omega) (by omega))]
  exact svl_id h p d (i+1) (by omega)
theorem svw_id{F:FsT}(hv:Sp.vf F=true){m x:MeT}{q:PwT}(S:SVD F (Sp.kyb F.2.1.length) m x q)(p:PwT):Sp.svw F x p=(x,p,0,()):=by
 have vd:=vf_d hv
 unfold Sp.svw
 rw[if_pos ((utd_iff S.g.v (by decide) (by decide) _).2 (S.u 254 (by decide) (by decide) rfl))]
 refine svl_id (fun k h0 h1=> ?_) p _ 0 (by omega)
 refine(utd_iff S.g.v h0 (by omega) _).2 (S.u k h0 (by omega) ?_)
 unfold Sp.kyb
 rw[decide_eq_true (p:=0<=k) h0,decide_eq_true h1,Bool.and_self,Bool.or_true]
theorem dlk_kyb(n:Nat)(k:Int)(h:Sp.kyb n k=true):(!Sp.dlk n k)=false:=by
 unfold Sp.kyb at h
 unfold Sp.dlk
 by_cases e:k=254
 ·rw[cond_ett e];rfl
 rw[beq_eq_false_iff_ne.2 e,Bool.false_or,Bool.and_eq_true]at h
 rw[cond_eff e,h.2];rfl
theorem plain_6(m:MeT)(F:FsT)(wf:wfD (.pair (.pair (.slice (.int .u32)) (.pair (.slice (.int .i64)) (.pair (.int .i64) .unit))) (.pair (.int .i64) (.pair (.int .i64) .unit))) m)(_:wfD (.pair (.slice (.pair (.int .i64) (.pair (.int .i64) (.pair (.int .i64) (.pair (.int .i64) (.pair (.int .i64) (.pair (.int .i64) (.pair .bool (.pair (.int .i64) .unit))))))))) (.pair (.slice (.pair (.int .i64) (.pair (.int .i64) (.pair (.int .i64) (.pair (.int .i64) (.pair (.int .i64) (.pair (.slice (.int .i64)) (.pair (.int .i64) .unit)))))))) (.pair (.int .i64) (.pair .bool .unit)))) F):F_6 m F=some true:=by
 have hw:W32f m.1:=fun x hx=>u32_b (wf.1.1 x hx)
 obtain⟨rs,ps,qs,hs⟩:=small_pv m F
 unfold F_6
 rw[aw_pv.1,aw_pv.2,gd_tt,ps,qs,gd_tt]
 dsimp only
 rw[Bool.not_true,cond_f,gd_tt]
 cases rs
 ·rfl
 obtain⟨ca,la,fa⟩:=hs rfl
 have sm:Sm F:=FRL.sm fa (by omega)
 have fu:=full_pv
 have sv:=save_pv hw sm (1099511627776,0,())
 have ck:=chk_v m F (1099511627776,0,()) hw sm
 rw[Bool.not_true,cond_f,fu.1,fu.2,gd_tt,gd_tt]
 dsimp only
 rw[ck.1,ck.2,gd_tt]
 dsimp only
 cases hc:Sp.mvl m&&(Sp.vf F&&Sp.pok (1099511627776,0,()))
 ·rfl
 rw[Bool.and_eq_true,Bool.and_eq_true]at hc
 obtain⟨hm,hv,hp⟩:=hc
 rw[Bool.not_true,cond_f,sv.1,sv.2,gd_tt]
 have g:MG m (1099511627776,0,()):=⟨hw,hm,by decide,by decide⟩
 have vd:=vf_d hv
 unfold Sp.svv
 rw[if_pos ⟨hm,hv,hp⟩]
 have fl:=svw_full hv g (by decide)
 by_cases e0:(Sp.svw F m (1099511627776,0,())).2.2.1=0
 rotate_left
 ·have s0:=smem_pv Sp.zM (Nat.zero_le _) (Nat.zero_le _)
  have s0:p_23 Sp.zM (([],[],0,()),0,0,())=true/\v_23 Sp.zM (([],[],0,()),0,0,())=(true,()):=s0
  rcases fl with fl|⟨fl|fl,fz⟩
  ·exact absurd fl e0
  ·rw[cond_ntt e0,cond_ett fl,fz,s0.1,s0.2,gd_tt]
  ·rw[cond_ntt e0,cond_eff (by omega),cond_ett fl,fz,s0.1,s0.2,gd_tt]
 have S:=svw_ok hv g e0
 rw[cond_nff e0]
 generalize (Sp.svw F m (1099511627776,0,())).1=x at *
 generalize (Sp.svw F m (1099511627776,0,())).2.1=q at *
 have lo2:=lod_pv S.g.w F.1
 have kp:=kept_pv hv (a:=(F.1,(List.range F.1.length).map (fun j=>Sp.kpt (F.2.1.getD j Zd0)),F.2.2.1,false,())) rfl
 have sv2:=save_pv S.g.w sm (0,0,())
 have e2:Sp.svv x F (0,0,())=(x,(0,0,()),0,()):=by
  unfold Sp.svv
  rw[if_pos ⟨S.g.v,hv,by rfl⟩]
  exact svw_id hv S _
 have gl:=mg_len S.g
 have s1:=smem_pv x gl.1 gl.2
 have n1:=ent_pv hw
 have n2:=ent_pv S.g.w
 have m1:Sp.entv m=(Sp.ent m,0,()):=if_pos hm
 have m2:Sp.entv x=(Sp.ent x,0,()):=if_pos S.g.v
 have b1:=ent_b hw hm
 have b2:=ent_b S.g.w S.g.v
 have fe:=S.f (fun k=> !Sp.dlk F.2.1.length k) (fun k h=>dlk_kyb _ _ h)
 have fk:∀e∈Sp.fil (fun k=> !Sp.dlk F.2.1.length k) (Sp.ent m),e.2.1.length<=1000000:=fun e he=>by
  have:=(b1.1 e (List.mem_filter.1 he).1).2.1
  omega
 have fn:(Sp.fil (fun k=> !Sp.dlk F.2.1.length k) (Sp.ent m)).length<=1000:=Nat.le_trans (List.length_filter_le ..) (by omega)
 have sA:=rsame_pv _ fk fn
 rw[lo2.1,lo2.2,gd_tt,lod_sv hv S]
 dsimp only
 rw[cond_nff rfl,kp.1,kp.2,gd_tt]
 dsimp only
 rw[Bool.not_true,cond_f,sv2.1,sv2.2,gd_tt,e2]
 dsimp only
 rw[cond_nff rfl,beq_pw,Bool.not_true,cond_f,s1.1,s1.2,gd_tt]
 dsimp only
 rw[Bool.not_true,cond_f,n1.1,n1.2,gd_tt,n2.1,n2.2,gd_tt,m1,m2]
 dsimp only
 rw[cond_nff rfl,cond_nff rfl,gd_room (by omega) (by omega),fi0 _ (by omega)]
 cases hq1:fnd (fun j=>Sp.dlk F.2.1.length ((Sp.ent m).getD j Sp.dE).1) (Sp.ent m).length 0 with
 |none=>
  unfold B_6_71_0_0
  dsimp only
  rw[gd_room (by omega) (by omega),fi1 _ (by omega)]
  have z1:=fil_all hq1
  rw[z1]at sA fe
  cases hq2:fnd (fun j=>Sp.dlk F.2.1.length ((Sp.ent x).getD j Sp.dE).1) (Sp.ent x).length 0 with
  |none=>
   unfold B_6_71_0_1
   dsimp only
   rw[fil_all hq2]at fe
   rw[fe,sA.1,sA.2,gd_tt]
  |some j=>
   obtain⟨hj,hf⟩:=fil_some hq2
   unfold B_6_71_0_1
   dsimp only
   have co:=cmp_ok (Sp.ent x) F.2.1.length ((Sp.ent x).length-(j+1)) j (j+1) (Sp.ent x) (by omega) rfl (by omega) hf rfl
   rw[cond_eff (by omega),wi64 (n:=(j:Int)+1) (by omega) (by omega),show(j:Int)+1=((j+1:Nat):Int) by push_cast;rfl,dl0 F _ _ _ _ _ _ _ ((Sp.ent x).length-(j+1)) 4611686018427387904 j (j+1) (Sp.ent x) (by omega) (by omega) (by omega) (by omega)]
   generalize Sp.cmp F.2.1.length ((Sp.ent x).length-(j+1)) j (j+1) (Sp.ent x)=c at co⊢
   obtain⟨i,l⟩:=c
   dsimp only at co
   obtain⟨o1,o2,o3⟩:=co
   unfold B_6_30_0_0
   dsimp only
   have ov:=over_t (l:=l) (i:=i) (by omega) (replicate (l.length-i) Sp.dE) (List.length_replicate ..)
   have tt:(decide (i+(l.length-i)<=l.length)&&decide (0<l.length))=true:=by rw[decide_eq_true (by omega),decide_eq_true (by omega)];rfl
   simp only[Int.toNat_natCast,show Zd2=Sp.dE from rfl]
   rw[gd_sl3 (by omega) (by omega) (by omega),tt,gd_tt,gd_sl3 (by omega) (by omega) (by omega),List.drop_zero,Nat.sub_zero,ov.2,o3,fe,sA.1,sA.2,decide_eq_true (by omega)]
   rfl
 |some j=>
  obtain⟨hj,hf⟩:=fil_some hq1
  unfold B_6_71_0_0
  dsimp only
  have co:=cmp_ok (Sp.ent m) F.2.1.length ((Sp.ent m).length-(j+1)) j (j+1) (Sp.ent m) (by omega) rfl (by omega) hf rfl
  rw[cond_eff (by omega),wi64 (n:=(j:Int)+1) (by omega) (by omega),show(j:Int)+1=((j+1:Nat):Int) by push_cast;rfl,dl1 F _ _ _ _ _ _ ((Sp.ent m).length-(j+1)) 4611686018427387904 j (j+1) (Sp.ent m) (by omega) (by omega) (by omega) (by omega)]
  generalize Sp.cmp F.2.1.length ((Sp.ent m).length-(j+1)) j (j+1) (Sp.ent m)=c at co⊢
  obtain⟨i,l⟩:=c
  dsimp only at co
  obtain⟨o1,o2,o3⟩:=co
  unfold B_6_30_0_1
  dsimp only
  have ov:=over_t (l:=l) (i:=i) (by omega) (replicate (l.length-i) Sp.dE) (List.length_replicate ..)
  have tt:(decide (i+(l.length-i)<=l.length)&&decide (0<l.length))=true:=by rw[decide_eq_true (by omega),decide_eq_true (by omega)];rfl
  simp only[Int.toNat_natCast,show Zd2=Sp.dE from rfl]
  rw[gd_sl3 (by omega) (by omega) (by omega),tt,gd_tt,gd_sl3 (by omega) (by omega) (by omega),gd_room (by omega) (by omega),fi1 _ (by omega)]
  cases hq2:fnd (fun j=>Sp.dlk F.2.1.length ((Sp.ent x).getD j Sp.dE).1) (Sp.ent x).length 0 with
  |none=>
   unfold B_6_71_0_1
   dsimp only
   rw[fil_all hq2]at fe
   have tk:take (i-0) (over l i (replicate (l.length-i) Sp.dE))=Sp.fil (fun k=> !Sp.dlk F.2.1.length k) (Sp.ent m):=by rw[Nat.sub_zero,ov.2,o3]
   have dd:decide (0+(i-0)<=(over l i (replicate (l.length-i) Sp.dE)).length)=true:=by rw[ov.1];exact decide_eq_true (by omega)
   rw[List.drop_zero,tk,dd,fe,sA.1,sA.2]
   rfl
  |some k=>
   obtain⟨hk,hf2⟩:=fil_some hq2
   unfold B_6_71_0_1
   dsimp only
   have co:=cmp_ok (Sp.ent x) F.2.1.length ((Sp.ent x).length-(k+1)) k (k+1) (Sp.ent x) (by omega) rfl (by omega) hf2 rfl
   rw[cond_eff (by omega),wi64 (n:=(k:Int)+1) (by omega) (by omega),show(k:Int)+1=((k+1:Nat):Int) by push_cast;rfl,dl0 F _ _ _ _ _ _ _ ((Sp.ent x).length-(k+1)) 4611686018427387904 k (k+1) (Sp.ent x) (by omega) (by omega) (by omega) (by omega)]
   generalize Sp.cmp F.2.1.length ((Sp.ent x).length-(k+1)) k (k+1) (Sp.ent x)=c at co⊢
   obtain⟨i2,l2⟩:=c
   dsimp only at co
   obtain⟨u1,u2,u3⟩:=co
   unfold B_6_30_0_0
   dsimp only
   have ov2:=over_t (l:=l2) (i:=i2) (by omega) (replicate (l2.length-i2) Sp.dE) (List.length_replicate ..)
   have tt2:(decide (i2+(l2.length-i2)<=l2.length)&&decide (0<l2.length))=true:=by rw[decide_eq_true (by omega),decide_eq_true (by omega)];rfl
   simp only[Int.toNat_natCast]
   rw[gd_sl3 (by omega) (by omega) (by omega),tt2,gd_tt,gd_sl3 (by omega) (by omega) (by omega)]
   have tk:take (i-0) (over l i (replicate (l.length-i) Sp.dE))=Sp.fil (fun k=> !Sp.dlk F.2.1.length k) (Sp.ent m):=by rw[Nat.sub_zero,ov.2,o3]
   have dd:decide (0+(i-0)<=(over l i (replicate (l.length-i) Sp.dE)).length)=true:=by rw[ov.1];exact decide_eq_true (by omega)
   have tk2:take (i2-0) (over l2 i2 (replicate (l2.length-i2) Sp.dE))=Sp.fil (fun k=> !Sp.dlk F.2.1.length k) (Sp.ent x):=by rw[Nat.sub_zero,ov2.2,u3]
   have dd2:decide (0+(i2-0)<=(over l2 i2 (replicate (l2.length-i2) Sp.dE)).length)=true:=by rw[ov2.1];exact decide_eq_true (by omega)
   simp only[List.drop_zero]
   rw[tk,dd,tk2,dd2,fe,sA.1,sA.2]
   rfl
end Go.Ev
