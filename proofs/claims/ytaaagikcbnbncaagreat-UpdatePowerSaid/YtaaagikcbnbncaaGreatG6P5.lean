/- Helpers: functions of the program as Lean functions, and what they compute. No condition. -/
import Derived.Test.YtaaagikcbnbncaaGreatG6P4
import Derived.Test.YtaaagikcbnbncaaGreatG6P3
import Derived.Test.YtaaagikcbnbncaaGreatG6P2
set_option maxRecDepth 10000
set_option linter.unusedVariables false
set_option linter.unusedSimpArgs false
open Go.IntKind (wrap i64 i32 i16 i8 u64 u32 u16 u8)
open List (getD length take drop replicate)
open Int (toNat)
open Go.Ev.Sp
set_option linter.unusedSimpArgs false
set_option linter.unusedVariables false
namespace Go.Ev
open Go
set_option maxRecDepth 100000
set_option maxHeartbeats 4000000
theorem WL.app{a b:List Int}(ha:WL a)(hb:WL b):WL (a++b):=fun x hx=>(List.mem_append.1 hx).elim (ha x) (hb x)
theorem wu_b(n:Int):0<=wrap .u32 n/\wrap .u32 n<4294967296:=by rw[u32_mod];omega
theorem hws_w(h:List Int)(n:Nat):WL (Sp.hws h n):=fun x hx=>by
 unfold Sp.hws at hx
 obtain⟨i,_,rfl⟩:=List.mem_map.1 hx
 unfold Sp.hwd Sp.wd
 exact wu_b _
theorem cws_w(l:List (List Int)):WL (Sp.cws l):=fun x hx=>by
 unfold Sp.cws at hx
 obtain⟨h,_,hx⟩:=List.mem_flatMap.1 hx
 exact hws_w h 8 x hx
theorem hdw_w(h:HdrT):WL (Sp.hdw h):=by
 unfold Sp.hdw Sp.hdp Sp.wordsF
 refine WL.app (WL.app (fun x hx=> ?_) (hws_w _ _)) (WL.app (WL.app (fun x hx=> ?_) (cws_w _)) (cws_w _))
 ·simp only[List.mem_cons,List.not_mem_nil,or_false]at hx
  rcases hx with rfl|rfl<;>exact wu_b _
 ·rw[List.mem_singleton.1 hx];exact wu_b _
structure OB(b:BayT)(t:Nat)(c:BayT):Prop where
 k:c.2=b.2
 r:c.1.2.1.length=b.1.2.1.length
 l:c.1.1.length=b.1.1.length
 o:∀i,i<b.1.1.length->i<t*Sp.hlf b\/t*Sp.hlf b+Sp.hlf b<=i->c.1.1.getD i 0=b.1.1.getD i 0
 v:Sp.bvb c=true
 w:W32f c.1
noncomputable def WI(b:BayT)(h:HdrT)(w:List Int)(t n:Nat)(c:BayT):Prop:=∀j,j<Sp.hlf b->c.1.1.getD (t*Sp.hlf b+j) 0=if j=0 then 4294967295 else if j<564 then(Sp.hdw h).getD (j-1) 0 else if j<564+n then w.getD (j-564) 0 else 4294967295
theorem bgs_p{b:BayT}{h:HdrT}{p:PwT}(w:List Int){t:Nat}(hb:Sp.bvb b=true)(ht:t<=1)(hw:W32f b.1)(hs:Sp.shp h.2.2.2.1=true)(p0:0<=p.1)(p1:p.1<=1099511627776)(hn:Sp.wrn b t=false) :
 OB b t ((Sp.bgs b h p t).1,b.2)/\PZ (Sp.bgs b h p t)/\((Sp.bgs b h p t).2.2.1=0->WI b h w t 0 ((Sp.bgs b h p t).1,b.2)):=by
 have bl:=bay_len hb
 obtain⟨hl,hq⟩:=wrn_no hb ht hn
 have G:=bgs_g (h:=h) hb ht hw p0 p1 hn
 have hhn:Sp.hn b=b.1.2.1.length/2:=rfl
 have e0:EG b.1 (t*Sp.hn b) (b.1,p,0,()):=EG.init bl.2.2.2.2.2 hw p0 p1
 have hdl:=hdw_len hs
 have tn:t*Sp.hlf b=64*(t*Sp.hn b)/\Sp.hlf b=64*Sp.hn b:=by
  have:Sp.hlf b=64*Sp.hn b:=by omega
  refine⟨?_,this⟩
  rw[this,<-Nat.mul_assoc,Nat.mul_comm t 64,Nat.mul_assoc]
 have es:Sp.bgs b h p t=Sp.plo (Sp.hdw h) (t*Sp.hlf b+1) (Sp.elo (Sp.hn b) (t*Sp.hn b) (b.1,p,0,())):=rfl
 have gl:=G.2.l
 have gl1:=G.1.l
 have gr:(Sp.bgs b h p t).1.2.1.length=b.1.2.1.length:=by rw[G.2.r];exact G.1.n
 have gv:=bvb_of hb G.2.v gr
 have gw:=G.2.w
 rw[es]at gl gr gv gw⊢
 refine⟨⟨rfl,gr,by dsimp only;omega,fun i hi ho=> ?_,gv,gw⟩,plo_z _ _ (elo_z _ _ (fun z=>absurd z (show ¬(0:Int)=18 by decide))),fun z=> ?_⟩
 ·dsimp only
  rw[plo_o _ _ _ _ (by omega),elo_o (Sp.hn b) (t*Sp.hn b) e0 hl hq i hi (by omega)]
 ·have ez:(Sp.elo (Sp.hn b) (t*Sp.hn b) (b.1,p,0,())).2.2.1=0:=by
   by_cases c:(Sp.elo (Sp.hn b) (t*Sp.hn b) (b.1,p,0,())).2.2.1=0
   ·exact c
   ·rw[plo_stop _ _ c]at z
    exact absurd z c
  have ex:=elo_e (Sp.hn b) (t*Sp.hn b) e0 rfl hl hq ez
  have P:=plo_e (f0:=(Sp.elo (Sp.hn b) (t*Sp.hn b) (b.1,p,0,())).1) (Sp.hdw h) (t*Sp.hlf b+1) G.1.pg ez (hdw_w h) (by rw[G.1.l];omega) (fun i h1 h2=>ex i (by omega) (by omega) (by omega)) z
  intro j hj
  dsimp only
  rw[P]
  by_cases c0:j=0
  ·rw[if_pos c0,if_neg (by omega),ex _ (by omega) (by omega) (by omega)]
  rw[if_neg c0]
  by_cases c1:j<564
  ·rw[if_pos c1,if_pos (by omega)]
   congr 1
   omega
  ·rw[if_neg c1,if_neg (by omega),ex _ (by omega) (by omega) (by omega),if_neg (by omega)]
theorem iv_blkp{hb:Nat}{h:HdrT}{w:List Int}{i:Nat}{s:OutT}(V:IV hb h w i s)(e:s.2.2.2.1=0)(hi:32*i<w.length):s.1.1=1/\s.1.2.2.1=((32*i:Nat):Int)/\((Sp.prt w i).length:Int)=Sp.part s.1/\Sp.ublk s.1 s.2.1 i (Sp.prt w i) s.2.2.1=Sp.blo s.1 s.2.1 (Sp.prt w i) s.2.2.1:=by
 obtain⟨hv,hf⟩:=iv_fit V e
 obtain⟨⟨k,hk,hd⟩,hb1,hb2,hw,hp⟩:=V.ok e
 have hl:=V.lw
 rw[if_pos hi,if_pos hi]at hd
 have d1:s.1.1=1:=by rw[hd]
 have d3:s.1.2.2.1=((32*i:Nat):Int):=by rw[hd]
 have d4:s.1.2.2.2.1=h:=by rw[hd]
 have hpl:((Sp.prt w i).length:Int)=Sp.part s.1:=by
  unfold Sp.prt Sp.part
  rw[d3,d4,List.length_take,List.length_drop,<-hl]
  split<;>omega
 have hble:Sp.ble s.1 s.2.1 i (Sp.prt w i) s.2.2.1=0:=by
  unfold Sp.ble
  rw[if_pos hf,if_pos d1,d3,Int.tdiv_eq_ediv_of_nonneg (by omega),if_pos (by omega),if_pos hpl]
 refine⟨d1,d3,hpl,?_⟩
 unfold Sp.ublk
 rw[if_pos hble]
theorem prt_at(w:List Int)(i j:Nat)(h:j<32):(Sp.prt w i).getD j 0=w.getD (32*i+j) 0:=by
 unfold Sp.prt
 rw[List.getD_eq_getElem?_getD,List.getElem?_take,if_pos h,List.getElem?_drop,<-List.getD_eq_getElem?_getD]
structure UQ(b:BayT)(h:HdrT)(w:List Int)(t n:Nat)(s:OutT):Prop where
 o:OB b t s.2.1
 z:s.2.2.2.1=18->s.2.2.1.1=0
 e:s.2.2.2.1=0\/s.2.2.2.1=18
 k:s.2.2.2.1=0->s.1.2.1=(t:Int)
 i:s.2.2.2.1=0->WI b h w t n s.2.1
theorem blk_p{b:BayT}{h:HdrT}{w:List Int}{t i:Nat}{s:OutT}(hb:Sp.bvb b=true)(ht:t<=1)(hw:WL w)(V:IV (Sp.hlf b) h w i s)(e:s.2.2.2.1=0)(hi:32*i<w.length)(U:UQ b h w t (32*i) s):UQ b h w t (min (32*(i+1)) w.length) (Sp.ublk s.1 s.2.1 i (Sp.prt w i) s.2.2.1):=by
 obtain⟨d1,d3,hpl,hub⟩:=iv_blkp V e hi
 obtain⟨hv,hf⟩:=iv_fit V e
 obtain⟨_,hb1,hb2,hw1,hp1⟩:=V.ok e
 obtain⟨p0,p1⟩:=pok_b hp1
 have hk:=U.k e
 have X:=U.i e
 have bl:=bay_len hb
 have ad:=adr_in hf d1 hpl
 have hrg:=V.rg
 have hlw:=V.lw
 have hle:h.2.1<=(Sp.hlf b:Int)-564:=by
  unfold Sp.rgt at hrg
  simp only[Bool.and_eq_true,decide_eq_true_eq]at hrg
  exact hrg.2.2.2.1
 have lp:(Sp.prt w i).length=min 32 (w.length-32*i):=by unfold Sp.prt;rw[List.length_take,List.length_drop]
 have ea:Sp.adr s.1 s.2.1=t*Sp.hlf b+564+32*i:=by
  unfold Sp.adr
  rw[hk,d3,hb2,Int.toNat_natCast,Int.toNat_natCast]
 have g:=blr_g (Sp.prt w i) hf d1 hw1
 have gz:PZ (Sp.blr s.1 s.2.1 (Sp.prt w i) s.2.2.1):=plo_z _ _ (fun z=>absurd z (show ¬(0:Int)=18 by decide))
 have eb:Sp.blr s.1 s.2.1 (Sp.prt w i) s.2.2.1=Sp.plo (Sp.prt w i) (Sp.adr s.1 s.2.1) (s.2.1.1,s.2.2.1,0,()):=rfl
 have gr:(Sp.blr s.1 s.2.1 (Sp.prt w i) s.2.2.1).1.2.1.length=s.2.1.1.2.1.length:=by rw[g.r]
 rw[hub]
 refine⟨⟨U.o.k,gr.trans U.o.r,g.l.trans U.o.l,fun q hq ho=> ?_,bvb_of hb1 g.v gr,g.w⟩,gz,g.e,fun z=> ?_,fun z=> ?_⟩
 ·show(Sp.blr s.1 s.2.1 (Sp.prt w i) s.2.2.1).1.1.getD q 0=_
  rw[eb,plo_o _ _ _ _ (by omega)]
  exact U.o.o q hq ho
 ·have z:(Sp.blr s.1 s.2.1 (Sp.prt w i) s.2.2.1).2.2.1=0:=z
  unfold Sp.blo
  dsimp only
  rw[if_pos z]
  exact hk
 ·have z:(Sp.blr s.1 s.2.1 (Sp.prt w i) s.2.2.1).2.2.1=0:=z
  intro j hj
  show(Sp.blr s.1 s.2.1 (Sp.prt w i) s.2.2.1).1.1.getD _ 0=_
  rw[eb]at z⊢
  have P:=plo_e (f0:=s.2.1.1) (Sp.prt w i) (Sp.adr s.1 s.2.1) (PG.init (p:=s.2.2.1) hb1 hw1 p0 p1) rfl (fun x hx=>hw x (List.mem_of_mem_drop (List.mem_of_mem_take hx))) ad.1 (fun q h1 h2=>by
   obtain⟨j,rfl⟩:∃j,q=t*Sp.hlf b+j:=⟨q-t*Sp.hlf b,by omega⟩
   show s.2.1.1.1.getD _ 0=_
   rw[X j (by omega),if_neg (by omega),if_neg (by omega),if_neg (by omega)]) z
  rw[P]
  by_cases c:Sp.adr s.1 s.2.1<=t*Sp.hlf b+j/\t*Sp.hlf b+j<Sp.adr s.1 s.2.1+(Sp.prt w i).length
  ·rw[if_pos c,if_neg (by omega),if_neg (by omega),if_pos (by omega),prt_at w i _ (by omega)]
   congr 1
   omega
  ·rw[if_neg c]
   show s.2.1.1.1.getD _ 0=_
   rw[X j hj]
   by_cases c0:j=0
   ·rw[if_pos c0,if_pos c0]
   rw[if_neg c0,if_neg c0]
   by_cases c1:j<564
   ·rw[if_pos c1,if_pos c1]
   rw[if_neg c1,if_neg c1]
   by_cases c2:j<564+32*i
   ·rw[if_pos c2,if_pos (by omega)]
   ·rw[if_neg c2,if_neg (by omega)]
theorem lpr_p{b:BayT}{h:HdrT}{w:List Int}{t:Nat}(hb:Sp.bvb b=true)(ht:t<=1)(hw:WL w):∀(n i:Nat)(s:OutT),IV (Sp.hlf b) h w i s->UQ b h w t (min (32*i) w.length) s->w.length<=32*(i+n)->UQ b h w t w.length (Sp.lpr w n i s)
 |0,i,s,V,U,hl=>by rw[show min (32*i) w.length=w.length by omega]at U;exact U
 |n+1,i,s,V,U,hl=>by
  rw[Sp.lpr]
  by_cases c:s.2.2.2.1=0/\32*i<w.length
  ·rw[if_pos c]
   rw[show min (32*i) w.length=32*i by omega]at U
   exact lpr_p hb ht hw n (i+1) _ (iv_step V c.1 c.2) (blk_p hb ht hw V c.1 c.2 U) (by omega)
  ·rw[if_neg c]
   by_cases e:s.2.2.2.1=0
   ·have:¬32*i<w.length:=fun z=>c ⟨e,z⟩
    rw[show min (32*i) w.length=w.length by omega]at U
    exact U
   ·exact⟨U.o,U.z,U.e,fun z=>absurd z e,fun z=>absurd z e⟩
theorem ob_bb{b c:BayT}{t:Nat}(O:OB b t c):BB c:=⟨bv_of O.v,O.v⟩
theorem ob_h{b c:BayT}{t:Nat}(O:OB b t c):Sp.hlf c=Sp.hlf b:=by unfold Sp.hlf;rw[O.r]
theorem wds_at{a:BayT}(k:Nat){j:Nat}(hj:j<Sp.hlf a):(Sp.wds a k).getD j 0=a.1.1.getD (k*Sp.hlf a+j) 0:=by
 unfold Sp.wds
 rw[List.getD_eq_getElem?_getD,List.getElem?_take,if_pos hj,List.getElem?_drop,<-List.getD_eq_getElem?_getD]
theorem sub_eq{l l':List Int}(hl:l'.length=l.length){a n:Nat}(h:∀j,a<=j->j<a+n->l'.getD j 0=l.getD j 0):take n (drop a l')=take n (drop a l):=by
 refine list_ext 0 (by simp only[List.length_take,List.length_drop,hl]) (fun i hi=> ?_)
 rw[List.length_take,List.length_drop]at hi
 have e:∀x:List Int,(take n (drop a x)).getD i 0=x.getD (a+i) 0:=fun x=>by
  rw[List.getD_eq_getElem?_getD,List.getElem?_take,if_pos (by omega),List.getElem?_drop,<-List.getD_eq_getElem?_getD]
 rw[e,e]
 exact h _ (by omega) (by omega)
theorem good_from1{a x:BayT}(ha:BB a)(hx:BB x){k:Nat}(hk:k<2)(hh:Sp.hlf x=Sp.hlf a)(hy:x.2=a.2)(hg:Sp.gdb a k=true)(ag:∀j,1<=j->j<Sp.hlf a->(Sp.wds x k).getD j 0=(Sp.wds a k).getD j 0):Sp.gdb x k=true:=by
 have la:=wds_len ha.v k hk
 have lx:=wds_len hx.v k hk
 have ll:(Sp.wds x k).length=(Sp.wds a k).length:=by rw[la,lx,hh]
 have h0:=ha.v.h0
 have h1:=ha.v.h1
 have pa:=hdr_pv ha.v ha.b k hk
 have ok:=(good_pv ha.v ha.b k hk).2 hg
 have o:=pa.2 ok
 rw[v14_eq ha k hk]at o ok
 have s0:=o.s0
 have s1:=o.s1
 have e8:take 8 (drop 3 (Sp.wds x k))=take 8 (drop 3 (Sp.wds a k)):=sub_eq ll (fun j z1 z2=>ag j (by omega) (by omega))
 have e553:take 553 (drop 11 (Sp.wds x k))=take 553 (drop 11 (Sp.wds a k)):=sub_eq ll (fun j z1 z2=>ag j (by omega) (by omega))
 have e2:take 2 (drop 1 (Sp.wds x k))=take 2 (drop 1 (Sp.wds a k)):=sub_eq ll (fun j z1 z2=>ag j (by omega) (by omega))
 have eh:Sp.hx (Sp.wds x k)=Sp.hx (Sp.wds a k):=by
  unfold Sp.hx
  rw[e553,e8,ag 1 (by omega) (by omega),ag 2 (by omega) (by omega),ll]
 have en:take (toNat (wrap .i64 (564+(Sp.hx (Sp.wds a k)).1.2.1))-564) (drop 564 (Sp.wds x k))=take (toNat (wrap .i64 (564+(Sp.hx (Sp.wds a k)).1.2.1))-564) (drop 564 (Sp.wds a k)):=by
  rw[wi64 (by omega) (by omega)]
  exact sub_eq ll (fun j z1 z2=>ag j (by omega) (by omega))
 have ex:=pv_82 x k (hdr_eq hx k hk)
 have ea:=pv_82 a k (hdr_eq ha k hk)
 have wx:=words_pv hx.v k hk
 have wa:=words_pv ha.v k hk
 have F:F_123 x k=F_123 a k:=by
  unfold F_123
  rw[ex.1,ex.2,gd_tt,ea.1,ea.2,gd_tt,eh,ok,wx.1,wx.2,wa.1,wa.2]
  dsimp only
  rw[e2,en,ll,hy]
 rw[<-hg]
 unfold Sp.gdb v_123
 rw[F]
structure DN(b:BayT)(h:HdrT)(w:List Int)(t:Nat)(c:BayT):Prop where
 m:c.1.1.getD (t*Sp.hlf b) 0=0
 x:∀j,0<j->j<Sp.hlf b->c.1.1.getD (t*Sp.hlf b+j) 0=if j<564 then(Sp.hdw h).getD (j-1) 0 else if j<564+w.length then w.getD (j-564) 0 else 4294967295
 g:Sp.gdb c t=true
noncomputable def PR(b:BayT)(h:HdrT)(w:List Int)(t:Nat)(v:BayT×PwT×Int×Unit):Prop:=
 (∃c:Int,c≠0/\c≠18/\v=(Sp.fl c).2)\/(OB b t v.1/\(v.2.2.1=18/\v.2.1.1=0\/v.2.2.1=0/\DN b h w t v.1))
theorem ob_prg{b c:BayT}{t:Nat}(hb:Sp.bvb b=true)(ht:t<=1)(O:OB b t c){p:PwT}(p0:0<=p.1)(p1:p.1<=1099511627776):OB b t ((Sp.prg c.1 (t*Sp.hlf b) 0 p).1,c.2):=by
 have bl:=bay_len hb
 have g:=prg_g (PG.init (p:=p) O.v O.w p0 p1) (t*Sp.hlf b) 0
 have gr:(Sp.prg c.1 (t*Sp.hlf b) 0 p).1.2.1.length=c.1.2.1.length:=by rw[g.r]
 refine⟨O.k,gr.trans O.r,g.l.trans O.l,fun q hq ho=> ?_,bvb_of O.v g.v gr,g.w⟩
 show(Sp.prg c.1 (t*Sp.hlf b) 0 p).1.1.getD q 0=_
 rw[prg_o (by omega)]
 exact O.o q hq ho
theorem fin_p{b:BayT}{h:HdrT}{w:List Int}{t i:Nat}{s:OutT}(hb:Sp.bvb b=true)(ht:t<=1)(V:IV (Sp.hlf b) h w i s)(e:s.2.2.2.1=0)(hi:w.length<=32*i)(U:UQ b h w t w.length s):PR b h w t (v_19 s.1 s.2.1 s.2.2.1).2:=by
 obtain⟨hv,hf⟩:=iv_fit V e
 obtain⟨⟨k,hk,hd⟩,hb1,hb2,hw,hp⟩:=V.ok e
 rw[if_neg (by omega),if_neg (by omega)]at hd
 have d1:s.1.1=2:=by rw[hd]
 have d2:s.1.2.1=(t:Int):=U.k e
 have d4:s.1.2.2.2.1=h:=by rw[hd]
 obtain⟨p0,p1⟩:=pok_b hp
 have bl:=bay_len hb
 have key:∃r:OutT,F_19 s.1 s.2.1 s.2.2.1=some r/\PR b h w t r.2:=by
  have f:=fits_pv (d:=s.1) (by rw[d4];exact V.hh) s.2.1 s.2.2.1
  unfold F_19
  rw[f.1,f.2,gd_tt,if_pos hf,cond_nff rfl,cond_nff d1,d2]
  have B:BB s.2.1:=⟨bv_of hb1,hb1⟩
  rcases act_any B t with⟨c,c0,hc,ha⟩|⟨n,hn,en,g1,g2,g3⟩
  ·have a:=pv_65 _ _ _ (ha s.2.2.1 p0 p1)
   obtain⟨_,c18⟩:=cd_ne hc
   rw[a.1,a.2,gd_tt]
   dsimp only
   rw[cond_eff c0,cond_eff c18,(fail_pv c).1,(fail_pv c).2,gd_tt]
   exact⟨_,rfl,.inl ⟨c,c0,c18,rfl⟩⟩
  ·have en:n=t:=by omega
   subst en
   have a:=pv_65 _ _ _ (act_good B n hn g1 g2 g3 s.2.2.1 p0 p1)
   rw[hb2]at a
   have O:=ob_prg hb ht U.o p0 p1
   have z18:=prg_z s.2.1.1 (n*Sp.hlf b) 0 s.2.2.1
   have g:=prg_g (PG.init (p:=s.2.2.1) hb1 hw p0 p1) (n*Sp.hlf b) 0
   rw[a.1,a.2,gd_tt]
   dsimp only
   rcases g.e with e0|e0
   ·rw[cond_ett (show(Sp.prg s.2.1.1 (n*Sp.hlf b) 0 s.2.2.1).2.2.1=0 from e0)]
    refine⟨_,rfl,.inr ⟨O,.inr ⟨rfl,?_⟩⟩⟩
    have X:=U.i e
    have e1:Sp.plo [0] (n*Sp.hlf b) (s.2.1.1,s.2.2.1,0,())=Sp.prg s.2.1.1 (n*Sp.hlf b) 0 s.2.2.1:=by
     rw[Sp.plo,if_pos rfl];rfl
    have lb:s.2.1.1.1.length=b.1.1.length:=U.o.l
    have tm:n*Sp.hlf b<=1*Sp.hlf b:=Nat.mul_le_mul_right _ ht
    have P:=plo_e (f0:=s.2.1.1) [0] (n*Sp.hlf b) (PG.init (p:=s.2.2.1) hb1 hw p0 p1) rfl (fun x hx=>by rw[List.mem_singleton.1 hx];omega) (by rw[List.length_singleton];omega) (fun q h1 h2=>by
     rw[List.length_singleton]at h2
     have:=X 0 (by omega)
     rw[if_pos rfl]at this
     rw[show q=n*Sp.hlf b+0 by omega]
     exact this) (by rw[e1];exact e0)
    rw[e1]at P
    have xx:∀j,0<j->j<Sp.hlf b->(Sp.prg s.2.1.1 (n*Sp.hlf b) 0 s.2.2.1).1.1.getD (n*Sp.hlf b+j) 0=s.2.1.1.1.getD (n*Sp.hlf b+j) 0:=fun j j0 j1=>by
     rw[P,List.length_singleton,if_neg (by omega)]
    refine⟨?_,fun j j0 j1=> ?_,?_⟩
    ·show(Sp.prg s.2.1.1 (n*Sp.hlf b) 0 s.2.2.1).1.1.getD (n*Sp.hlf b) 0=0
     rw[P,List.length_singleton,if_pos (by omega),Nat.sub_self]
     rfl
    ·show(Sp.prg s.2.1.1 (n*Sp.hlf b) 0 s.2.2.1).1.1.getD (n*Sp.hlf b+j) 0=_
     rw[xx j j0 j1,X j j1,if_neg (by omega)]
    ·refine good_from1 B (ob_bb O) hn ((ob_h O).trans hb2.symm) rfl g1 (fun j j0 j1=> ?_)
     rw[hb2]at j1
     rw[wds_at n (by rw[ob_h O];exact j1),wds_at n (by rw[hb2];exact j1),ob_h O,hb2]
     exact xx j (by omega) j1
   ·rw[cond_eff (by rw[show(Sp.prg s.2.1.1 (n*Sp.hlf b) 0 s.2.2.1).2.2.1=18 from e0];decide),cond_ett (show(Sp.prg s.2.1.1 (n*Sp.hlf b) 0 s.2.2.1).2.2.1=18 from e0)]
    exact⟨_,rfl,.inr ⟨O,.inl ⟨rfl,z18 e0⟩⟩⟩
 obtain⟨r,h1,h2⟩:=key
 rw[(pv_19 _ _ _ h1).2]
 exact h2
theorem bge_vals{b:BayT}{h:HdrT}{p:PwT}:Sp.bge Sp.zD b h p≠18/\(Sp.bge Sp.zD b h p=0->Sp.lst b<h.1/\Sp.wrn b (Sp.tg b)=false):=by
 unfold Sp.bge
 split
 ·split
  ·split
   ·exact⟨by decide,fun z=>absurd z (by decide)⟩
   ·rename_i c
    split
    ·split
     ·exact⟨by decide,fun z=>absurd z (by decide)⟩
     ·rename_i d
      exact⟨by decide,fun _=>⟨by omega,by simpa using d⟩⟩
    ·exact⟨by decide,fun z=>absurd z (by decide)⟩
  ·exact⟨by decide,fun z=>absurd z (by decide)⟩
 ·exact⟨by decide,fun z=>absurd z (by decide)⟩
theorem ins_p{b:BayT}{h:HdrT}{w:List Int}{p:PwT}{v:BayT×PwT×Int×Unit}(hh:H32 h)(hw:W32f b.1)(hwl:WL w)(hl:(w.length:Int)=h.2.1)(l1:w.length<=100)(I:InsV b h w p v) :
 (∃c:Int,c≠0/\c≠18/\v=(Sp.fl c).2)\/(Sp.bvb b=true/\Sp.lst b<h.1/\Sp.rgt h ((Sp.hlf b:Int)-564)=true/\PR b h w (Sp.tg b) v):=by
 rcases I with⟨_,rfl⟩|⟨⟨hb,hp,hr⟩,rfl⟩
 ·exact .inl ⟨1,by decide,by decide,rfl⟩
 obtain⟨p0,p1⟩:=pok_b hp
 have bl:=bay_len hb
 obtain⟨_,_,shp⟩:=rgt_1484 (h:=h) (by omega) hr
 obtain⟨b18,bz⟩:=bge_vals (b:=b) (h:=h) (p:=p)
 by_cases e:Sp.bge Sp.zD b h p=0
 rotate_left
 ·have ea:Sp.all b h w p=Sp.fl (Sp.bge Sp.zD b h p):=by
   unfold Sp.all
   have:Sp.bgn Sp.zD b h p=Sp.fl (Sp.bge Sp.zD b h p):=by unfold Sp.bgn;rw[if_neg e]
   rw[this,Sp.lpr,if_neg (fun z=>e z.1)]
  rw[ea,if_neg (show ¬(Sp.fl (Sp.bge Sp.zD b h p)).2.2.2.1=0 from e)]
  exact .inl ⟨_,e,b18,rfl⟩
 obtain⟨lt,hn⟩:=bz e
 refine .inr ⟨hb,lt,hr,?_⟩
 have V:=iv_init hb hw hp hh hl l1 hr
 have G:=bgs_g (h:=h) hb (tg_le b) hw p0 p1 hn
 obtain⟨Q1,Q2,Q3⟩:=bgs_p (h:=h) w hb (tg_le b) hw shp p0 p1 hn
 have U0:UQ b h w (Sp.tg b) (min (32*0) w.length) (Sp.bgn Sp.zD b h p):=by
  have bg:Sp.bgn Sp.zD b h p=Sp.bgo b h p (Sp.tg b):=by unfold Sp.bgn;rw[if_pos e]
  rw[bg,Nat.mul_zero,Nat.zero_min]
  refine⟨Q1,Q2,G.2.e,fun z=> ?_,fun z=>Q3 z⟩
  have z:(Sp.bgs b h p (Sp.tg b)).2.2.1=0:=z
  unfold Sp.bgo
  dsimp only
  rw[if_pos z]
 have U:=lpr_p hb (tg_le b) hwl 4 0 _ V U0 (by omega)
 have U:UQ b h w (Sp.tg b) w.length (Sp.all b h w p):=U
 obtain⟨j,V2,hj⟩:=lpr_iv 4 0 _ V (by omega)
 have V2:IV (Sp.hlf b) h w j (Sp.all b h w p):=V2
 by_cases e2:(Sp.all b h w p).2.2.2.1=0
 ·rw[if_pos e2]
  exact fin_p hb (tg_le b) V2 e2 (hj e2) U
 ·rw[if_neg e2]
  have e3:(Sp.all b h w p).2.2.2.1=18:=U.e.resolve_left e2
  exact .inr ⟨U.o,.inl ⟨e3,U.z e3⟩⟩
theorem ob_o{b c:BayT}{t:Nat}(ht:t<2)(B:BB b)(O:OB b t c){k:Nat}(hk:k<2)(hkt:k≠t):Sp.wds c k=Sp.wds b k:=by
 have C:=ob_bb O
 have hh:=ob_h O
 have lb:=off_lt B.v k hk
 refine list_ext 0 (by rw[wds_len C.v k hk,wds_len B.v k hk,hh]) (fun j hj=> ?_)
 rw[wds_len C.v k hk,hh]at hj
 rw[wds_at k (by omega),wds_at k hj,hh]
 refine O.o _ (by omega) ?_
 rcases Nat.lt_or_ge k 1 with c1|c1
 ·have k0:k=0:=by omega
  have t1:t=1:=by omega
  subst k0;subst t1
  left;omega
 ·have k1:k=1:=by omega
  have t0:t=0:=by omega
  subst k1;subst t0
  right;omega
theorem eq_bank{b c:BayT}(B:BB b)(C:BB c)(hy:c.2=b.2){k:Nat}(hk:k<2)(e:Sp.wds c k=Sp.wds b k):Sp.gdb c k=Sp.gdb b k/\Sp.acb c k=Sp.acb b k/\Sp.vr c k=Sp.vr b k:=by
 have ex:=pv_82 c k (hdr_eq C k hk)
 have ea:=pv_82 b k (hdr_eq B k hk)
 have wx:=words_pv C.v k hk
 have wa:=words_pv B.v k hk
 have F:F_123 c k=F_123 b k:=by
  unfold F_123
  rw[ex.1,ex.2,gd_tt,ea.1,ea.2,gd_tt,wx.1,wx.2,wa.1,wa.2,e,hy]
 refine⟨?_,?_,?_⟩
 ·unfold Sp.gdb v_123
  rw[F]
 ·unfold Sp.acb
  rw[<-wds_get C.v k hk,<-wds_get B.v k hk,e]
 ·unfold Sp.vr
  rw[ex.2,ea.2,e]
namespace Sp
noncomputable def pgm(a:BayT)(k:Nat):List Int:=take (toNat (wrap .i64 (564+wrap .i64 ((wds a k).getD 2 0)))-564) (drop 564 (wds a k))
noncomputable def rns(a:BayT):List Int×Int×Bool×Unit:=if has a=true then(pgm a (sb a),lst a,true,())else([],0,false,())
end Sp
theorem ob_eqs{b c:BayT}{t:Nat}(ht:t<2)(B:BB b)(O:OB b t c){k:Nat}(hk:k<2)(hkt:k≠t):Sp.cnd c k=Sp.cnd b k/\Sp.vr c k=Sp.vr b k/\Sp.pgm c k=Sp.pgm b k:=by
 have e:=ob_o ht B O hk hkt
 have q:=eq_bank B (ob_bb O) O.k hk e
 refine⟨?_,q.2.2,?_⟩
 ·unfold Sp.cnd;rw[q.1,q.2.1]
 ·unfold Sp.pgm;rw[e]
theorem lst_rns(b:BayT):(Sp.rns b).2.1=Sp.lst b:=by
 unfold Sp.rns Sp.lst
 cases Sp.has b
 ·rfl
 ·rfl
theorem rns_same{b c:BayT}(B:BB b)(O:OB b (Sp.tg b) c)(ct:Sp.cnd c (Sp.tg b)=false):Sp.rns c=Sp.rns b:=by
 have tl:=tg_le b
 cases hb:Sp.has b
 ·have t0:Sp.tg b=0:=by unfold Sp.tg;rw[hb];rfl
  have o:=ob_eqs (by omega) B O (k:=1) (by omega) (by omega)
  have hc:Sp.has c=false:=by
   unfold Sp.has at hb⊢
   rw[Bool.or_eq_false_iff]at hb
   rw[t0]at ct
   rw[ct,o.1,hb.2,Bool.or_self]
  unfold Sp.rns
  rw[hb,hc,if_neg Bool.false_ne_true,if_neg Bool.false_ne_true]
 ·have sl:=sb_lt b
  have te:Sp.tg b=1-Sp.sb b:=by unfold Sp.tg;rw[hb];rfl
  have o:=ob_eqs (by omega) B O (k:=Sp.sb b) sl (by omega)
  have cn:=cnd_sb hb
  rw[cn]at o
  have sc:Sp.sb c=Sp.sb b/\Sp.has c=true:=by
   unfold Sp.sb Sp.has
   rcases Nat.lt_or_ge (Sp.sb b) 1 with c1|c1
   ·have s0:Sp.sb b=0:=by omega
    rw[te,s0]at ct
    rw[s0]at o
    have ct:Sp.cnd c 1=false:=ct
    rw[o.1,ct]
    have s0':(bif Sp.cnd b 0 then(bif Sp.cnd b 1&&decide (Sp.vr b 1>Sp.vr b 0)then 1 else 0)else bif Sp.cnd b 1 then 1 else 0)=(0:Nat):=s0
    rw[s0',Bool.false_and,cond_f,Bool.true_or]
    exact⟨cond_t ..,rfl⟩
   ·have s1:Sp.sb b=1:=by omega
    rw[te,s1]at ct
    rw[s1]at o
    have ct:Sp.cnd c 0=false:=ct
    rw[o.1,ct]
    have s1':(bif Sp.cnd b 0 then(bif Sp.cnd b 1&&decide (Sp.vr b 1>Sp.vr b 0)then 1 else 0)else bif Sp.cnd b 1 then 1 else 0)=(1:Nat):=s1
    rw[s1',Bool.or_true]
    exact⟨by rw[cond_f,cond_t],rfl⟩
  have ls:Sp.lst c=Sp.lst b:=by
   unfold Sp.lst
   rw[sc.2,sc.1,hb,cond_t,cond_t,o.2.1]
  unfold Sp.rns
  rw[sc.2,sc.1,ls,o.2.2,if_pos rfl,hb,if_pos rfl]
theorem rns_eq{b c:BayT}(B:BB b)(O:OB b (Sp.tg b) c)(e:Sp.wds c (Sp.tg b)=Sp.wds b (Sp.tg b)):Sp.rns c=Sp.rns b:=by
 have tl:=tg_le b
 have q:∀k,k<2->Sp.cnd c k=Sp.cnd b k/\Sp.vr c k=Sp.vr b k/\Sp.pgm c k=Sp.pgm b k:=fun k hk=>by
  by_cases c0:k=Sp.tg b
  ·have z:=eq_bank B (ob_bb O) O.k hk (by rw[c0];exact e)
   refine⟨?_,z.2.2,?_⟩
   ·unfold Sp.cnd;rw[z.1,z.2.1]
   ·unfold Sp.pgm;rw[c0,e]
  ·exact ob_eqs (by omega) B O hk c0
 have q0:=q 0 (by omega)
 have q1:=q 1 (by omega)
 have hs:Sp.has c=Sp.has b:=by unfold Sp.has;rw[q0.1,q1.1]
 have ss:Sp.sb c=Sp.sb b:=by unfold Sp.sb;rw[q0.1,q1.1,q0.2.1,q1.2.1]
 have ls:Sp.lst c=Sp.lst b:=by unfold Sp.lst;rw[hs,ss,(q _ (sb_lt b)).2.1]
 unfold Sp.rns
 rw[hs,ss,ls,(q _ (sb_lt b)).2.2]
noncomputable def IM(h:HdrT)(w:List Int)(c:BayT)(t:Nat):Prop:=∀j,0<j->j<564+w.length->(Sp.wds c t).getD j 0=if j<564 then(Sp.hdw h).getD (j-1) 0 else w.getD (j-564) 0
theorem rns_new{b c:BayT}{h:HdrT}{w:List Int}(B:BB b)(O:OB b (Sp.tg b) c)(hr:Sp.rgt h ((Sp.hlf b:Int)-564)=true)(hl:(w.length:Int)=h.2.1)(l1:w.length<=100)(lt:Sp.lst b<h.1)(I:IM h w c (Sp.tg b))(hg:Sp.gdb c (Sp.tg b)=true)(ha:Sp.acb c (Sp.tg b)=true):Sp.rns c=(w,h.1,true,()):=by
 have tl:=tg_le b
 have C:=ob_bb O
 have hh:=ob_h O
 have hk:Sp.tg b<2:=by omega
 have wl:=wds_len C.v _ hk
 unfold Sp.rgt at hr
 simp only[Bool.and_eq_true,decide_eq_true_eq]at hr
 obtain⟨v0,v1,n0,n1,_⟩:=hr
 have ok:=(good_pv C.v C.b _ hk).2 hg
 rw[v14_eq C _ hk]at ok
 have q:=hx_ok ok
 have w1:(Sp.wds c (Sp.tg b)).getD 1 0=wrap .u32 h.1:=by rw[I 1 (by omega) (by omega),if_pos (by omega)];rfl
 have w2:(Sp.wds c (Sp.tg b)).getD 2 0=wrap .u32 h.2.1:=by rw[I 2 (by omega) (by omega),if_pos (by omega)];rfl
 have wu:∀x:Int,0<=x->x<4294967296->wrap .u32 x=x:=fun x x0 x1=>by rw[u32_mod];omega
 have vt:Sp.vr c (Sp.tg b)=h.1:=by
  unfold Sp.vr
  rw[v14_eq C _ hk,q.1,w1,wu _ (by omega) (by omega),wi64 (by omega) (by omega)]
 have pt:Sp.pgm c (Sp.tg b)=w:=by
  unfold Sp.pgm
  rw[w2,wu _ (by omega) (by omega),wi64 (n:=h.2.1) (by omega) (by omega),wi64 (by omega) (by omega)]
  refine list_ext 0 (by rw[List.length_take,List.length_drop];omega) (fun j hj=> ?_)
  rw[List.length_take,List.length_drop]at hj
  rw[List.getD_eq_getElem?_getD,List.getElem?_take,if_pos (by omega),List.getElem?_drop,<-List.getD_eq_getElem?_getD,I (564+j) (by omega) (by omega),if_neg (by omega),Nat.add_sub_cancel_left]
 have ct:Sp.cnd c (Sp.tg b)=true:=by unfold Sp.cnd;rw[hg,ha];rfl
 have key:Sp.has c=true/\Sp.sb c=Sp.tg b:=by
  cases hb:Sp.has b
  ·have t0:Sp.tg b=0:=by unfold Sp.tg;rw[hb];rfl
   have o:=ob_eqs hk B O (k:=1) (by omega) (by omega)
   unfold Sp.has at hb
   rw[Bool.or_eq_false_iff]at hb
   rw[t0]at ct
   unfold Sp.has Sp.sb
   rw[t0,ct,o.1,hb.2]
   exact⟨rfl,rfl⟩
  ·have sl:=sb_lt b
   have te:Sp.tg b=1-Sp.sb b:=by unfold Sp.tg;rw[hb];rfl
   have o:=ob_eqs hk B O (k:=Sp.sb b) sl (by omega)
   have cn:=cnd_sb hb
   have ls:Sp.lst b=Sp.vr b (Sp.sb b):=by unfold Sp.lst;rw[hb];rfl
   rw[cn]at o
   rw[<-vt,ls,<-o.2.1]at lt
   unfold Sp.has
   have us:∀x y z,Sp.cnd c 0=x->Sp.cnd c 1=y->decide (Sp.vr c 1>Sp.vr c 0)=z->Sp.sb c=bif x then(bif y&&z then 1 else 0)else bif y then 1 else 0:=fun x y z h1 h2 h3=>by
    unfold Sp.sb;rw[h1,h2,h3]
   rcases Nat.lt_or_ge (Sp.sb b) 1 with c1|c1
   ·have s0:Sp.sb b=0:=by omega
    have t1:Sp.tg b=1:=by omega
    rw[s0,t1]at lt
    rw[s0]at o
    rw[t1]at ct
    rw[t1,us true true true o.1 ct (decide_eq_true lt),o.1]
    exact⟨rfl,rfl⟩
   ·have s1:Sp.sb b=1:=by omega
    have t0:Sp.tg b=0:=by omega
    rw[s1,t0]at lt
    rw[s1]at o
    rw[t0]at ct
    rw[t0,us true true false ct o.1 (decide_eq_false (by omega)),ct]
    exact⟨rfl,rfl⟩
 unfold Sp.rns Sp.lst
 rw[key.1,if_pos rfl,key.2,pt,cond_t,vt]
theorem dn_im{b c:BayT}{h:HdrT}{w:List Int}{t:Nat}(O:OB b t c)(hr:Sp.rgt h ((Sp.hlf b:Int)-564)=true)(hl:(w.length:Int)=h.2.1)(D:DN b h w t c):IM h w c t/\Sp.acb c t=true:=by
 unfold Sp.rgt at hr
 simp only[Bool.and_eq_true,decide_eq_true_eq]at hr
 have hh:=ob_h O
 refine⟨fun j j0 j1=> ?_,?_⟩
 ·rw[wds_at t (by omega),hh,D.x j j0 (by omega)]
  by_cases z:j<564
  ·rw[if_pos z,if_pos z]
  ·rw[if_neg z,if_neg z,if_pos (by omega)]
 ·unfold Sp.acb
  rw[hh,D.m]
  rfl
set_option maxRecDepth 100000
set_option maxHeartbeats 4000000
theorem rhws_ok(h:List Int):F_112 h=some (Sp.hws h 8,()):=by
 have:=run0 (fun m i s=>L_112_0 m (4*i) h s) (n:=8) (fun j=>Sp.hws h j) (r:=some (.e0 (Sp.hws h 8))) (by decide) (fun m j hj=>by
  have e0:toNat (4*(j:Int))=4*j:=by omega
  have e1:toNat (4*(j:Int)+1)=4*j+1:=by omega
  have e2:toNat (4*(j:Int)+2)=4*j+2:=by omega
  have e3:toNat (4*(j:Int)+3)=4*j+3:=by omega
  show L_112_0 (m+1) (4*(j:Int)) h (Sp.hws h j)=_
  rw[L_112_0,S_112_0,cond_dtt (by omega),wi64 (n:=4*(j:Int)+1) (by omega) (by omega),wi64 (n:=4*(j:Int)+2) (by omega) (by omega),wi64 (n:=4*(j:Int)+3) (by omega) (by omega),wi64 (n:=4*(j:Int)+4) (by omega) (by omega),gd_inB (by omega) (by omega),gd_inB (by omega) (by omega),gd_inB (by omega) (by omega),gd_inB (by omega) (by omega),e0,e1,e2,e3,Bool.and_true,Bool.and_true,Bool.and_true,Bool.and_true,gd_dec (by omega),gd_dec (by omega),gd_dec (by omega),gd_dec (by omega),gd_room (by rw[hws_len];omega) (by rw[hws_len];omega),hws_succ,show 4*(j:Int)+4=4*((j+1:Nat):Int) by omega]
  rfl) (fun m=>by
  show L_112_0 (m+1) 32 h (Sp.hws h 8)=_
  rw[L_112_0,S_112_0,cond_dff (by decide)])
 unfold F_112
 have e:L_112_0 4611686018427387904 0 h []=some (.e0 (Sp.hws h 8)):=this
 rw[e]
 rfl
theorem rhws_pv(h:List Int):p_112 h=true/\v_112 h=(Sp.hws h 8,()):=pv_112 h (rhws_ok h)
theorem rwords_ok(s:SigT)(h3:s.2.1.length=67)(h4:s.2.2.1.length=2):F_76 s=some (Sp.wordsF s,()):=by
 have l1:=cws_len s.2.1
 have a:=run0 (fun m i t=>L_76_0 m i s t) (n:=67) (fun j=>[wrap .u32 s.1]++Sp.cws (s.2.1.take j)) (r:=some (.e0 s ([wrap .u32 s.1]++Sp.cws s.2.1))) (by decide) (fun m j hj=>by
  have hc:(Sp.cws (s.2.1.take j)).length<=8000:=by rw[cws_len,List.length_take];omega
  show L_76_0 (m+1) (j:Int) s ([wrap .u32 s.1]++Sp.cws (s.2.1.take j))=_
  rw[L_76_0,S_76_0,cond_dtt (by omega),gd_inB (by omega) (by omega),Int.toNat_natCast,(rhws_pv _).1,(rhws_pv _).2,gd_tt,gd_room (by rw[List.length_append,hws_len,List.length_singleton];omega) (by rw[List.length_append,hws_len,List.length_singleton];omega),wi64 (by omega) (by omega),cws_succ _ j (by omega),List.append_assoc]
  rfl) (fun m=>by
  show L_76_0 (m+1) 67 s _=_
  rw[L_76_0,S_76_0,cond_dff (by decide),List.take_of_length_le (by omega)])
 have b:=run0 (fun m i t=>L_76_1 m i s t) (n:=2) (fun j=>[wrap .u32 s.1]++Sp.cws s.2.1++Sp.cws (s.2.2.1.take j)) (r:=some (.e0 (Sp.wordsF s))) (by decide) (fun m j hj=>by
  have hc:(Sp.cws (s.2.2.1.take j)).length<=8000:=by rw[cws_len,List.length_take];omega
  show L_76_1 (m+1) (j:Int) s ([wrap .u32 s.1]++Sp.cws s.2.1++Sp.cws (s.2.2.1.take j))=_
  rw[L_76_1,S_76_1,cond_dtt (by omega),gd_inB (by omega) (by omega),Int.toNat_natCast,(rhws_pv _).1,(rhws_pv _).2,gd_tt,gd_room (by rw[List.length_append,List.length_append,hws_len,List.length_singleton];omega) (by rw[List.length_append,List.length_append,hws_len,List.length_singleton];omega),wi64 (by omega) (by omega),cws_succ _ j (by omega),<-List.append_assoc]
  rfl) (fun m=>by
  show L_76_1 (m+1) 2 s _=_
  rw[L_76_1,S_76_1,cond_dff (by decide),List.take_of_length_le (by omega)]
  rfl)
 unfold F_76
 have a':L_76_0 4611686018427387904 0 s [wrap .u32 s.1]=some (.e0 s ([wrap .u32 s.1]++Sp.cws s.2.1)):=a
 have b':L_76_1 4611686018427387904 0 s ([wrap .u32 s.1]++Sp.cws s.2.1)=some (.e0 (Sp.wordsF s)):=by simpa[Sp.cws]using b
 rw[a']
 simp only[B_76_0]
 rw[b']
 rfl
theorem acc8{x y:Nat}(hx:x<16777216)(hy:y<256):Sp.orI .u32 (wrap .u32 ((x:Int)*256)) (wrap .u32 (y:Int))=((x*256+y:Nat):Int):=by
 rw[show(x:Int)*256=((x*256:Nat):Int)from(Int.natCast_mul x 256).symm,u32_wrap_nat (by omega),u32_wrap_nat (by omega),orU_nat (by omega) (by omega),show x*256=x*2^8 from rfl,or_add 8 (by omega)]
theorem wd_e{a b c d:Nat}(ha:a<256)(hb:b<256)(hc:c<256)(hd:d<256):Sp.wd a b c d=((((a*256+b)*256+c)*256+d:Nat):Int):=by
 unfold Sp.wd
 rw[u32_wrap_nat (a:=a) (by omega),u32_wrap_nat (a:=b) (by omega),u32_wrap_nat (a:=c) (by omega),u32_wrap_nat (a:=d) (by omega),show(a:Int)*16777216=((a*16777216:Nat):Int)from(Int.natCast_mul a 16777216).symm,show(b:Int)*65536=((b*65536:Nat):Int)from(Int.natCast_mul b 65536).symm,show(c:Int)*256=((c*256:Nat):Int)from(Int.natCast_mul c 256).symm,u32_wrap_nat (a:=a*16777216) (by omega),u32_wrap_nat (a:=b*65536) (by omega),u32_wrap_nat (a:=c*256) (by omega),
  orU_nat (a:=a*16777216) (by omega) (by omega),show a*16777216=a*2^24 from rfl,or_add 24 (by omega),orU_nat (by omega) (by omega),show a*2^24+b*65536=(a*256+b)*2^16 by omega,or_add 16 (by omega),orU_nat (by omega) (by omega),show(a*256+b)*2^16+c*256=((a*256+b)*256+c)*2^8 by omega,or_add 8 (by omega)]
theorem byte_at{l:List Int}(h:bytes l)(i:Nat):∃k:Nat,l.getD i 0=(k:Int)/\k<256:=by
 rw[List.getD_eq_getElem?_getD]
 cases e:l[i]? with
 |none=>exact⟨0,rfl,by decide⟩
 |some x=>
  have:=h x (List.mem_of_getElem? e)
  exact⟨x.toNat,by show x=_;omega,by omega⟩
theorem img1(h:HdrT)(hb:bytes h.2.2.1)(j:Nat)(hj:j<8)(p0 p5:List Int)(m:Nat):L_31_1 (m+5) p0 j 0 0 h p5=some (.e0 p0 j (Sp.hwd h.2.2.1 j) h p5):=by
 obtain⟨a,ea,ha⟩:=byte_at hb (4*j)
 obtain⟨b,eb,hb2⟩:=byte_at hb (4*j+1)
 obtain⟨c,ec,hc⟩:=byte_at hb (4*j+2)
 obtain⟨d,ed,hd⟩:=byte_at hb (4*j+3)
 have ad:∀k:Nat,k<4->wrap .i64 (wrap .i64 (4*(j:Int))+(k:Int))=((4*j+k:Nat):Int):=fun k hk=>by
  rw[wi64 (n:=4*(j:Int)) (by omega) (by omega),wi64 (by omega) (by omega)];omega
 have st:∀(q x k:Nat),k<4->∀y:Nat,h.2.2.1.getD (4*j+k) 0=(y:Int)->y<256->x<16777216->L_31_1 (q+1) p0 j (x:Int) (k:Int) h p5=L_31_1 q p0 j ((x*256+y:Nat):Int) ((k+1:Nat):Int) h p5:=fun q x k hk y e hy hx=>by
  rw[L_31_1,S_31_1,cond_dtt (by omega),ad k hk,gd_inB (by omega) (by omega),Int.toNat_natCast,Bool.and_true,gd_dec (by omega),e,acc8 hx hy,wi64 (by omega) (by omega)]
  push_cast
  rfl
 have s0:=st (m+4) 0 0 (by decide) a ea ha (by decide)
 have s1:=st (m+3) (0*256+a) 1 (by decide) b eb hb2 (by omega)
 have s2:=st (m+2) ((0*256+a)*256+b) 2 (by decide) c ec hc (by omega)
 have s3:=st (m+1) (((0*256+a)*256+b)*256+c) 3 (by decide) d ed hd (by omega)
 refine(s0.trans (s1.trans (s2.trans s3))).trans ?_
 rw[L_31_1,S_31_1,cond_dff (by omega),Nat.zero_mul,Nat.zero_add]
 unfold Sp.hwd
 rw[ea,eb,ec,ed,wd_e ha hb2 hc hd]
theorem rtg_pv{b:BayT}(B:BB b)(hw:W32 b):p_18 b=true/\v_18 b=((Sp.tg b:Int),()):=by
 have s:=rsel_pv B hw
 have e:=sel_eq b
 have sl:=sb_lt b
 refine pv_18 b ?_
 unfold F_18 Sp.tg
 rw[s.1,s.2,gd_tt]
 cases hh:Sp.has b
 ·rw[hh]at e
  have:(Sp.sel b).2.1≠0:=by simpa using e.2
  rw[cond_ntt this]
  rfl
 ·rw[hh]at e
  have:(Sp.sel b).2.1=0:=by simpa using e.2
  rw[cond_nff this,e.1,wi64 (by omega) (by omega),cond_true]
  congr 2
  omega
theorem rimw_pv{h:HdrT}(w:List Int)(hw:w.length<=1000)(hb:bytes h.2.2.1)(hs:Sp.shp h.2.2.2.1=true):p_31 h w=true/\v_31 h w=(Sp.hdw h++w,()):=by
 have sl:=shp_len hs
 have ww:=pv_76 _ (rwords_ok h.2.2.2.1 sl.1 sl.2)
 have l2:=wordsF_len hs
 refine pv_31 h w ?_
 unfold F_31
 have t0:=run0 (fun m i acc=>L_31_0 m w i h acc) (n:=8) (fun j=>Sp.hdp h++Sp.hws h.2.2.1 j) (r:=some (.e0 w h (Sp.hdp h++Sp.hws h.2.2.1 8))) (by decide) (fun m j hj=>by
  show L_31_0 (m+1) w (j:Int) h (Sp.hdp h++Sp.hws h.2.2.1 j)=L_31_0 m w ((j+1:Nat):Int) h (Sp.hdp h++Sp.hws h.2.2.1 (j+1))
  have ll:(Sp.hdp h++Sp.hws h.2.2.1 j).length=2+j:=by rw[List.length_append,hws_len];rfl
  rw[L_31_0,S_31_0,cond_dtt (by omega)]
  refine(congrArg (fun z=>B_31_1 z _) (img1 h hb j hj w (Sp.hdp h++Sp.hws h.2.2.1 j) 4611686018427387899)).trans ?_
  unfold B_31_1
  dsimp only
  rw[gd_room (by omega) (by omega),wi64 (by omega) (by omega),hws_succ,List.append_assoc]
  push_cast
  rfl) (fun m=>by
  show L_31_0 (m+1) w 8 h (Sp.hdp h++Sp.hws h.2.2.1 8)=_
  rw[L_31_0,S_31_0,cond_dff (by decide)])
 have t0:L_31_0 4611686018427387904 w 0 h [wrap .u32 h.1,wrap .u32 h.2.1]=some (.e0 w h (Sp.hdp h++Sp.hws h.2.2.1 8)):=t0
 rw[t0]
 unfold B_31_0
 dsimp only
 rw[ww.1,ww.2,gd_tt]
 dsimp only
 have l1:(Sp.hdp h++Sp.hws h.2.2.1 8).length=10:=by rw[List.length_append,hws_len];rfl
 have t2:=run0 (fun m i acc=>L_31_2 m w (Sp.wordsF h.2.2.2.1) i acc) (n:=(Sp.wordsF h.2.2.2.1).length) (fun j=>Sp.hdp h++Sp.hws h.2.2.1 8++(Sp.wordsF h.2.2.2.1).take j) (r:=some (.e0 w (Sp.hdw h))) (by omega) (fun m j hj=>by
  show L_31_2 (m+1) w (Sp.wordsF h.2.2.2.1) (j:Int) (Sp.hdp h++Sp.hws h.2.2.1 8++(Sp.wordsF h.2.2.2.1).take j)=L_31_2 m w (Sp.wordsF h.2.2.2.1) ((j+1:Nat):Int) (Sp.hdp h++Sp.hws h.2.2.1 8++(Sp.wordsF h.2.2.2.1).take (j+1))
  have ll:(Sp.hdp h++Sp.hws h.2.2.1 8++(Sp.wordsF h.2.2.2.1).take j).length=10+j:=by rw[List.length_append,l1,List.length_take];omega
  rw[L_31_2,S_31_2,cond_dtt (by omega),gd_inB (by omega) (by omega),Int.toNat_natCast,gd_room (by omega) (by omega),wi64 (by omega) (by omega),take_s hj,<-List.append_assoc]
  push_cast
  rfl) (fun m=>by
  show L_31_2 (m+1) w (Sp.wordsF h.2.2.2.1) ((Sp.wordsF h.2.2.2.1).length:Int) (Sp.hdp h++Sp.hws h.2.2.1 8++(Sp.wordsF h.2.2.2.1).take (Sp.wordsF h.2.2.2.1).length)=_
  rw[L_31_2,S_31_2,cond_dff (by omega),List.take_length]
  rfl)
 have t2:L_31_2 4611686018427387904 w (Sp.wordsF h.2.2.2.1) 0 (Sp.hdp h++Sp.hws h.2.2.1 8++[])=_:=t2
 rw[List.append_nil]at t2
 rw[t2]
 unfold B_31_2
 dsimp only
 have l3:=hdw_len hs
 have t3:=run0 (fun m i acc=>L_31_3 m w i acc) (n:=w.length) (fun j=>Sp.hdw h++w.take j) (r:=some (.e0 (Sp.hdw h++w))) (by omega) (fun m j hj=>by
  show L_31_3 (m+1) w (j:Int) (Sp.hdw h++w.take j)=L_31_3 m w ((j+1:Nat):Int) (Sp.hdw h++w.take (j+1))
  have ll:(Sp.hdw h++w.take j).length=563+j:=by rw[List.length_append,l3,List.length_take];omega
  rw[L_31_3,S_31_3,cond_dtt (by omega),gd_inB (by omega) (by omega),Int.toNat_natCast,gd_room (by omega) (by omega),wi64 (by omega) (by omega),take_s hj,<-List.append_assoc]
  push_cast
  rfl) (fun m=>by
  show L_31_3 (m+1) w (w.length:Int) (Sp.hdw h++w.take w.length)=_
  rw[L_31_3,S_31_3,cond_dff (by omega),List.take_length])
 have t3:L_31_3 4611686018427387904 w 0 (Sp.hdw h++[])=_:=t3
 rw[List.append_nil]at t3
 rw[t3]
 rfl
theorem prog_pv{a:BayT}(h:BB a){k:Nat}(hk:k<2)(hg:Sp.gdb a k=true):p_72 a k=true/\v_72 a k=(Sp.pgm a k,0,()):=by
 have c:=chk_ok h k hk hg
 have w:=words_pv h.v k hk
 have l:=wds_len h.v k hk
 have h0:=h.v.h0
 have h1:=h.v.h1
 have ok:=(good_pv h.v h.b k hk).2 hg
 have o:=(hdr_pv h.v h.b k hk).2 ok
 have s0:=o.s0
 have s1:=o.s1
 rw[v14_eq h k hk]at ok s0 s1
 rw[(hx_ok ok).2]at s0 s1
 refine pv_72 a k ?_
 unfold F_72 Sp.pgm
 rw[c.1,c.2,gd_tt,cond_nff rfl,w.1,w.2,gd_tt]
 dsimp only
 rw[gd_inB (by omega) (by omega),gd_sl3 (by omega) (by rw[wi64 (n:=564+_) (by omega) (by omega)];omega) (by rw[wi64 (n:=564+_) (by omega) (by omega)];omega),gd_room (by rw[List.length_take,List.length_drop];omega) (by rw[List.length_take,List.length_drop];omega)]
theorem lruns_pv{a:BayT}(h:BB a):p_27 a=true/\v_27 a=Sp.rns a:=by
 have av:=atv h
 have lp:=lst_pv h
 refine pv_27 a ?_
 unfold F_27 Sp.rns
 rw[av.1,av.2,gd_tt]
 dsimp only
 cases hs:Sp.has a
 ·rfl
 have cn:=cnd_sb hs
 unfold Sp.cnd at cn
 rw[Bool.and_eq_true]at cn
 have pp:=prog_pv h (sb_lt a) cn.2
 rw[Bool.not_true,cond_f,pp.1,pp.2,gd_tt,lp.1,lp.2,gd_tt,if_pos rfl]
 rfl
theorem sel_no{a:BayT}(h:Sp.bvb a=false):p_88 a=true/\v_88 a=(0,1,()):=by
 refine pv_88 a ?_
 unfold F_88
 rw[(val_pv a).1,(val_pv a).2,gd_tt,h,show(!(false,()).1)=true from rfl,cond_t]
theorem atv_no{a:BayT}(h:Sp.bvb a=false):p_46 a=true/\v_46 a=(0,false,()):=by
 have s:=sel_no h
 refine pv_46 a ?_
 unfold F_46
 rw[s.1,s.2,gd_tt,show((0,1,()):Int×Int×Unit).2.1=1 from rfl,beq_eq_false_iff_ne.2 (show(1:Int)≠0 by decide)]
theorem runs_no{a:BayT}(h:Sp.bvb a=false):p_27 a=true:=by
 have av:=atv_no h
 have f:F_27 a=some ([],0,false,()):=by
  unfold F_27
  rw[av.1,av.2,gd_tt,show(!((0,false,()):Int×Bool×Unit).2.1)=true from rfl,cond_t]
 exact(pv_27 a f).1
theorem eq_l{a b:List Int}(hl:a.length=b.length)(h:a.length<=1000000):∀(d m i:Nat),i+d=a.length->d<m->L_33_0 m a b a.length i=some (if a.drop i=b.drop i then .e1 else .e0)
 |0,m,i,hi,hm=>by
  obtain⟨m,rfl⟩:∃k,m=k+1:=⟨m-1,by omega⟩
  rw[L_33_0,S_33_0,cond_dff (by omega),List.drop_of_length_le (by omega),List.drop_of_length_le (by omega),if_pos rfl]
 |d+1,m,i,hi,hm=>by
  obtain⟨m,rfl⟩:∃k,m=k+1:=⟨m-1,by omega⟩
  have ha:i<a.length:=by omega
  have hb:i<b.length:=by omega
  rw[L_33_0,S_33_0,cond_dtt (by omega),gd_inB (by omega) (by omega),gd_inB (by omega) (by omega),Int.toNat_natCast,List.drop_eq_getElem_cons ha,List.drop_eq_getElem_cons hb,<-getD_at 0 ha,<-getD_at 0 hb]
  by_cases c:a.getD i 0=b.getD i 0
  ·rw[cond_nff c,wi64 (by omega) (by omega),show(i:Int)+1=((i+1:Nat):Int) by omega,eq_l hl h d m (i+1) (by omega) (by omega),c]
   by_cases e:a.drop (i+1)=b.drop (i+1)
   ·rw[if_pos e,if_pos (by rw[e])]
   ·rw[if_neg e,if_neg (fun z=>e (List.cons.inj z).2)]
  ·rw[cond_ntt c,if_neg (fun z=>c (List.cons.inj z).1)]
theorem equ_pv(a b:List Int)(h:a.length<=1000000):p_33 a b=true/\v_33 a b=(decide (a=b),()):=by
 refine pv_33 a b ?_
 unfold F_33
 by_cases hl:a.length=b.length
 ·rw[cond_nff (by omega)]
  have t:=eq_l hl h a.length 4611686018427387904 0 (by omega) (by omega)
  have t:L_33_0 4611686018427387904 a b a.length 0=_:=t
  rw[t,List.drop_zero,List.drop_zero]
  by_cases e:a=b
  ·rw[if_pos e,decide_eq_true e];rfl
  ·rw[if_neg e,decide_eq_false e];rfl
 ·rw[cond_ntt (by omega),decide_eq_false (fun z=>hl (by rw[z]))]
namespace Sp
noncomputable def kx(w:List Int)(o:List Int×Int×Bool×Unit)(e:Int)(x:List Int×Int×Bool×Unit)(h:HdrT)(q:PwT):Option E_6_0:=B_6_1 (J_6_1 w o.1 o.2.1 o.2.2.1 e x.1 x.2.1 x.2.2.1 h q) (some .e1) (fun y=>some (.e2 y)) (some .e0) (fun y z=>some (.e3 y z))
noncomputable def fin(r:Option E_6_0):Option Bool:=B_6_0 r (some false) (some true) (fun y=>some (y.1==0)) (fun y z=>some (v_33 z y).1)
end Sp
theorem rns_len{a:BayT}(h:BB a):(Sp.rns a).1.length<=1000000:=by
 have h1:=h.v.h1
 have l:=wds_len h.v _ (sb_lt a)
 unfold Sp.rns
 split
 ·show(Sp.pgm a (Sp.sb a)).length<=_
  unfold Sp.pgm
  rw[List.length_take,List.length_drop]
  omega
 ·exact Nat.zero_le _
theorem k_same{b:BayT}{h:HdrT}(w:List Int){q:PwT}(B:BB b)(lt:Sp.lst b<h.1)(hq:q.1=0):Sp.fin (Sp.kx w (Sp.rns b) 18 (Sp.rns b) h q)=some true:=by
 have rl:=rns_len B
 have nl:=lst_rns b
 generalize Sp.rns b=r at rl nl⊢
 obtain⟨x,n,u,_⟩:=r
 have rl:x.length<=1000000:=rl
 have nl:n=Sp.lst b:=nl
 have eq:=equ_pv x x rl
 have j2:J_6_2 x n u 18 x n u q=some (.e0 x x):=by
  unfold J_6_2 S_6_2
  rw[cond_ett rfl,cond_ett hq,beq_self_eq_true,cond_t,cond_ett rfl,eq.1,gd_tt]
 have j1:J_6_1 w x n u 18 x n u h q=some (.e3 x x):=by
  unfold J_6_1 S_6_1
  rw[j2]
  cases u
  ·rfl
  ·rw[cond_t,cond_eff (by omega)];rfl
 unfold Sp.kx
 dsimp only
 rw[j1]
 show some (v_33 x x).1=_
 rw[eq.2,decide_eq_true rfl]
theorem k_new{b:BayT}{h:HdrT}{w:List Int}{q:PwT}{e:Int}(l1:w.length<=100)(lt:Sp.lst b<h.1)(hq:e=0\/q.1=0):Sp.fin (Sp.kx w (Sp.rns b) e (w,h.1,true,()) h q)=some true:=by
 have nl:=lst_rns b
 have eq:=equ_pv w w (by omega)
 unfold Sp.kx
 dsimp only
 unfold J_6_1 S_6_1
 rw[cond_t,cond_ett rfl,eq.1,eq.2,gd_tt,decide_eq_true rfl,cond_t,cond_dtt (by omega)]
 by_cases e0:e=0
 ·rw[cond_ett e0];rfl
 ·have z:=hq.resolve_left e0
  rw[cond_eff e0]
  show some (q.1==0)=_
  rw[z];rfl
theorem j60{b c:BayT}{h:HdrT}{w:List Int}{q:PwT}{e:Int}(B:BB b)(hw:W32 b)(hy:bytes h.2.2.1)(hr:Sp.rgt h ((Sp.hlf b:Int)-564)=true)(hl:(w.length:Int)=h.2.1)(l1:w.length<=100)(O:OB b (Sp.tg b) c)
 (H:Sp.gdb c (Sp.tg b)=false\/Sp.wds c (Sp.tg b)=Sp.wds b (Sp.tg b)\/IM h w c (Sp.tg b)->Sp.fin (Sp.kx w (Sp.rns b) e (Sp.rns c) h q)=some true) :
 Sp.fin (J_6_0 w (Sp.rns b).1 (Sp.rns b).2.1 (Sp.rns b).2.2.1 e b h c q)=some true:=by
 have C:=ob_bb O
 have hwc:W32 c:=O.w
 have tl:=tg_le b
 have hk:Sp.tg b<2:=by omega
 have hh:=ob_h O
 have bl:=bay_len B.b
 have rc:=lruns_pv C
 have tp:=rtg_pv B hw
 have wb:=rwd_pv B.v (Sp.tg b) hk
 have wc:=rwd_pv C.v (Sp.tg b) hk
 have lwb:=wds_len B.v (Sp.tg b) hk
 have lwc:=wds_len C.v (Sp.tg b) hk
 obtain⟨_,_,shp⟩:=rgt_1484 (h:=h) (by omega) hr
 have ri:=rimw_pv w (by omega) hy shp
 have ih:(Sp.hdw h++w).length=563+w.length:=by rw[List.length_append,hdw_len shp]
 have rg:=rgood_pv C hwc (Sp.tg b) hk
 have e1:=equ_pv (Sp.wds b (Sp.tg b)) (Sp.wds c (Sp.tg b)) (by omega)
 have hle:h.2.1<=(Sp.hlf b:Int)-564:=by
  unfold Sp.rgt at hr
  simp only[Bool.and_eq_true,decide_eq_true_eq]at hr
  exact hr.2.2.2.1
 unfold J_6_0 S_6_0
 rw[rc.1,rc.2,gd_tt,(val_pv c).1,(val_pv c).2,gd_tt,O.v,Bool.not_true,cond_f,O.k,show Ty.beq (.arr 32 (.int .u8)) b.2.1 b.2.1=true from beq_self_eq_true b.2.1,Bool.not_true,cond_f,cond_nff (by rw[O.l]),tp.1,tp.2,gd_tt]
 dsimp only
 rw[wb.1,wb.2,gd_tt,wc.1,wc.2,gd_tt,ri.1,ri.2,gd_tt,rg.1,rg.2,gd_tt]
 cases hg:Sp.gdb c (Sp.tg b)
 ·rw[cond_f]
  exact H (.inl hg)
 rw[cond_t,e1.1,e1.2,gd_tt]
 by_cases ew:Sp.wds b (Sp.tg b)=Sp.wds c (Sp.tg b)
 ·rw[decide_eq_true ew]
  exact H (.inr (.inl ew.symm))
 dsimp only
 have hX:(if wrap .i64 (1+((Sp.hdw h++w).length:Int))<((Sp.wds c (Sp.tg b)).length:Int)then wrap .i64 (1+((Sp.hdw h++w).length:Int))else((Sp.wds c (Sp.tg b)).length:Int))=((564+w.length:Nat):Int):=by
  rw[wi64 (by omega) (by omega),ih]
  split<;>omega
 rw[decide_eq_false ew,Bool.not_false,cond_t,hX,gd_sl3 (by omega) (by omega) (by omega),Int.toNat_natCast]
 have e2:=equ_pv (take (564+w.length-1) (drop 1 (Sp.wds c (Sp.tg b)))) (Sp.hdw h++w) (by rw[List.length_take,List.length_drop];omega)
 rw[e2.1,e2.2,gd_tt]
 by_cases ei:take (564+w.length-1) (drop 1 (Sp.wds c (Sp.tg b)))=Sp.hdw h++w
 ·rw[decide_eq_true ei]
  refine H (.inr (.inr (fun j j0 j1=> ?_)))
  have z:(take (564+w.length-1) (drop 1 (Sp.wds c (Sp.tg b)))).getD (j-1) 0=(Sp.hdw h++w).getD (j-1) 0:=by rw[ei]
  rw[List.getD_eq_getElem?_getD,List.getElem?_take,if_pos (by omega),List.getElem?_drop,<-List.getD_eq_getElem?_getD,show 1+(j-1)=j by omega]at z
  rw[z]
  have hd:=hdw_len shp
  by_cases c5:j<564
  ·rw[if_pos c5,List.getD_eq_getElem?_getD,List.getElem?_append_left (by omega),<-List.getD_eq_getElem?_getD]
  ·rw[if_neg c5,List.getD_eq_getElem?_getD,List.getElem?_append_right (by omega),<-List.getD_eq_getElem?_getD,hd]
   congr 1
 ·rw[decide_eq_false ei]
  rfl
set_option maxRecDepth 100000
set_option maxHeartbeats 4000000
theorem ins_ne{b:BayT}{h:HdrT}{w:List Int}{p:PwT}(hh:H32 h)(hl:¬(w.length:Int)=h.2.1):p_23 b h w p=true/\v_23 b h w p=(Sp.fl 1).2:=by
 refine pv_23 b h w p ?_
 unfold F_23
 rw[(val_pv b).1,(val_pv b).2,gd_tt,(upow_pv p).1,(upow_pv p).2,gd_tt]
 dsimp only
 cases hb:Sp.bvb b
 ·rfl
 rw[Bool.not_true,cond_f]
 cases hp:Sp.pok p
 ·rfl
 have bl:=bay_len hb
 rw[Bool.not_true,cond_f,(size_pv hb).1,(size_pv hb).2,gd_tt]
 dsimp only
 rw[wi64 (n:=(Sp.hlf b:Int)-564) (by omega) (by omega)]
 have r:=pv_40 _ _ (right_ok hh ((Sp.hlf b:Int)-564))
 rw[r.1,r.2,gd_tt]
 dsimp only
 cases hr:Sp.rgt h ((Sp.hlf b:Int)-564)
 ·rfl
 rw[Bool.not_true,cond_f,cond_ntt hl]
 rfl
theorem plain_6(b:BayT)(h:HdrT)(w:List Int)(p:PwT)(wb:wfD (.pair (.pair (.slice (.int .u32)) (.pair (.slice (.int .i64)) (.pair (.int .i64) .unit))) (.pair (.arr 32 (.int .u8)) .unit)) b)(wh:wfD (.pair (.int .i64) (.pair (.int .i64) (.pair (.arr 32 (.int .u8)) (.pair (.pair (.int .i64) (.pair (.slice (.arr 32 (.int .u8))) (.pair (.slice (.arr 32 (.int .u8))) .unit))) .unit)))) h)
 (ww:wfD (.slice (.int .u32)) w) (_:wfD (.pair (.int .i64) (.pair (.int .u32) .unit)) p):F_6 b h w p=some true:=by
 have o:=odd_pv h
 unfold F_6
 rw[aw_pv.1,aw_pv.2,gd_tt,(great_pv b).1,(great_pv b).2,gd_tt,o.1,o.2,gd_tt]
 dsimp only
 rw[show(!true)=false from rfl,cond_f]
 cases decide ((b.1.2.1.length:Int)>20)&&decide ((b.1.2.1.length:Int)<=64)
 rotate_left
 ·rfl
 cases decide ((h.2.2.2.1.2.1.length:Int)>100)||decide ((h.2.2.2.1.2.2.1.length:Int)>100)
 rotate_left
 ·rfl
 rw[cond_f,cond_f]
 by_cases hw:(w.length:Int)>100
 ·rw[cond_dtt hw]
 have hh:=h32 wh
 have hwb:W32 b:=fun x hx=>u32_b (wb.1.1 x hx)
 have hwl:WL w:=fun x hx=>u32_b (ww x hx)
 obtain⟨_,hby⟩:=wf_bytes wh.2.2.1
 have pr:p_27 b=true:=by
  cases hb:Sp.bvb b
  ·exact runs_no hb
  ·exact(lruns_pv ⟨bv_of hb,hb⟩).1
 have z:p_28 Sp.zB (([],[],0,()),replicate 32 0,())=true/\v_28 Sp.zB (([],[],0,()),replicate 32 0,())=(true,()):=zsame_pv
 have key:∃v,(p_23 b h w p=true/\v_23 b h w p=v)/\((∃c:Int,c≠0/\c≠18/\v=(Sp.fl c).2)\/((w.length:Int)=h.2.1/\Sp.bvb b=true/\Sp.lst b<h.1/\Sp.rgt h ((Sp.hlf b:Int)-564)=true/\PR b h w (Sp.tg b) v)):=by
  by_cases hl:(w.length:Int)=h.2.1
  ·obtain⟨v,hv,hi⟩:=ins_pv (p:=p) hh hwb hby hl (by omega)
   refine⟨v,hv,?_⟩
   rcases ins_p hh hwb hwl hl (by omega) hi with r|⟨r1,r2,r3,r4⟩
   ·exact .inl r
   ·exact .inr ⟨hl,r1,r2,r3,r4⟩
  ·exact⟨_,ins_ne hh hl,.inl ⟨1,by decide,by decide,rfl⟩⟩
 obtain⟨v,hv,hi⟩:=key
 rw[cond_dff hw,pr,gd_tt,hv.1,hv.2,gd_tt]
 have bad:∀c:Int,c≠0->c≠18->v=(Sp.fl c).2->v.1=Sp.zB/\v.2.1=(0,0,())/\v.2.2.1≠0/\v.2.2.1≠18:=by
  rintro c h1 h2 rfl
  exact⟨rfl,rfl,h1,h2⟩
 have hi:(v.1=Sp.zB/\v.2.1=(0,0,())/\v.2.2.1≠0/\v.2.2.1≠18)\/((w.length:Int)=h.2.1/\Sp.bvb b=true/\Sp.lst b<h.1/\Sp.rgt h ((Sp.hlf b:Int)-564)=true/\OB b (Sp.tg b) v.1/\(v.2.2.1=18/\v.2.1.1=0\/v.2.2.1=0/\DN b h w (Sp.tg b) v.1)):=by
  rcases hi with⟨c,h1,h2,h3⟩|⟨hl,r1,r2,r3,⟨c,h1,h2,h3⟩|r4⟩
  ·exact .inl (bad c h1 h2 h3)
  ·exact .inl (bad c h1 h2 h3)
  ·exact .inr ⟨hl,r1,r2,r3,r4⟩
 rcases hi with⟨h1,h2,h3,h4⟩|⟨hl,hb,lt,hr,O,q⟩
 ·rw[cond_ntt h3,cond_ntt h4,h1,z.1,z.2,gd_tt,cond_t,h2]
  rfl
 have B:BB b:=⟨bv_of hb,hb⟩
 have rb:=lruns_pv B
 have tl:=tg_le b
 have C:=ob_bb O
 have fin:Sp.fin (J_6_0 w (Sp.rns b).1 (Sp.rns b).2.1 (Sp.rns b).2.2.1 v.2.2.1 b h v.1 v.2.1)=some true:=by
  refine j60 B hwb hby hr hl (by omega) O (fun H=> ?_)
  rcases q with⟨e,z0⟩|⟨e,D⟩
  ·rw[e]
   by_cases cn:Sp.cnd v.1 (Sp.tg b)=false
   ·rw[rns_same B O cn]
    exact k_same w B lt z0
   ·have cn:Sp.cnd v.1 (Sp.tg b)=true:=by simpa using cn
    unfold Sp.cnd at cn
    rw[Bool.and_eq_true]at cn
    rcases H with H|H|H
    ·rw[cn.2]at H;exact Bool.noConfusion H
    ·rw[rns_eq B O H]
     exact k_same w B lt z0
    ·rw[rns_new B O hr hl (by omega) lt H cn.2 cn.1]
     exact k_new (by omega) lt (.inr z0)
  ·obtain⟨I,a⟩:=dn_im O hr hl D
   rw[rns_new B O hr hl (by omega) lt I D.g a]
   exact k_new (by omega) lt (.inl e)
 have fin:B_6_0 (J_6_0 w (Sp.rns b).1 (Sp.rns b).2.1 (Sp.rns b).2.2.1 v.2.2.1 b h v.1 v.2.1) (some false) (some true) (fun y=>some (y.1==0)) (fun y z=>some (v_33 z y).1)=some true:=fin
 rw[rb.2]
 rcases q with⟨e,_⟩|⟨e,_⟩
 ·rw[cond_ntt (by omega),cond_nff e]
  exact fin
 ·rw[cond_nff e]
  exact fin
end Go.Ev
