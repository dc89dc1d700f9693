/- Helpers: functions of the program as Lean functions, and what they compute. No condition. -/
import Derived.Test.YtaaagikcbnbncaaGreatG5P5
import Derived.Test.YtaaagikcbnbncaaGreatG5P3
import Derived.Test.YtaaagikcbnbncaaGreatG5P2
import Derived.Test.YtaaagikcbnbncaaGreatG5P4
set_option maxRecDepth 10000
set_option linter.unusedVariables false
set_option linter.unusedSimpArgs false
open Go.IntKind (wrap i64 i32 i16 i8 u64 u32 u16 u8)
open List (getD length take drop replicate)
open Int (toNat)
open Go.Ev.Sp
set_option linter.unusedSimpArgs false
set_option linter.unusedVariables false
namespace Go.Ev
open Go
set_option maxRecDepth 100000
set_option maxHeartbeats 4000000
noncomputable def EQ(b:BayT):Prop:=p_28 b b=true/\v_28 b b=(true,())
namespace Sp
noncomputable def prt(w:List Int)(i:Nat):List Int:=take 32 (drop (32*i) w)
noncomputable def lpr(w:List Int):Nat->Nat->OutT->OutT
 |0,_,s=>s
 |n+1,i,s=>if s.2.2.2.1=0/\32*i<w.length then lpr w n (i+1) (ublk s.1 s.2.1 i (prt w i) s.2.2.1)else s
end Sp
structure IV(hb:Nat)(h:HdrT)(w:List Int)(i:Nat)(s:OutT):Prop where
 hh:H32 h
 lw:(w.length:Int)=h.2.1
 l1:w.length<=100
 rg:Sp.rgt h ((hb:Int)-564)=true
 ok:s.2.2.2.1=0->(∃k:Int,(k=0\/k=1)/\s.1=(if 32*i<w.length then 1 else 2,k,if 32*i<w.length then((32*i:Nat):Int)else(w.length:Int),h,()))/\Sp.bvb s.2.1=true/\Sp.hlf s.2.1=hb/\W32f s.2.1.1/\Sp.pok s.2.2.1=true
 no:s.2.2.2.1≠0->s.1=Sp.zD
 eq:EQ s.2.1
theorem pok_b{p:PwT}(h:Sp.pok p=true):0<=p.1/\p.1<=1099511627776:=by
 unfold Sp.pok at h
 simpa using h
theorem pok_of{p:PwT}(h:0<=p.1)(h1:p.1<=1099511627776):Sp.pok p=true:=by
 unfold Sp.pok
 simp[h,h1]
theorem bvb_of{b:BayT}{f:FlT}(h:Sp.bvb b=true)(hv:Sp.fv f=true)(hl:f.2.1.length=b.1.2.1.length):Sp.bvb (f,b.2)=true:=by
 unfold Sp.bvb at h⊢
 dsimp only
 rw[hv,hl,Bool.true_and]
 simp only[Bool.and_eq_true]at h
 exact h.2
theorem rgt_1484{h:HdrT}{hb:Nat}(hl:hb<=2048)(r:Sp.rgt h ((hb:Int)-564)=true):Sp.rgt h 1484=true/\1<=h.2.1/\Sp.shp h.2.2.2.1=true:=by
 unfold Sp.rgt at r⊢
 simp only[Bool.and_eq_true,decide_eq_true_eq]at r⊢
 refine⟨⟨r.1,r.2.1,r.2.2.1,by omega,r.2.2.2.2⟩,r.2.2.1,r.2.2.2.2⟩
theorem iv_fit{hb:Nat}{h:HdrT}{w:List Int}{i:Nat}{s:OutT}(V:IV hb h w i s)(e:s.2.2.2.1=0):Sp.vdl s.1=true/\Sp.fit s.1 s.2.1 s.2.2.1=true:=by
 obtain⟨⟨k,hk,hd⟩,hb1,hb2,_,hp⟩:=V.ok e
 have bl:=bay_len hb1
 have hl:=V.lw
 obtain⟨r1,r2,_⟩:=rgt_1484 (by omega) V.rg
 have hkb:(k==0||k==1)=true:=by rcases hk with rfl|rfl<;>rfl
 have hv:Sp.vdl s.1=true:=by
  rw[hd]
  unfold Sp.vdl Sp.vst
  dsimp only
  rw[hkb,r1,Bool.true_and,Bool.true_and]
  by_cases c:32*i<w.length
  ·rw[if_pos c,if_pos c]
   have e1:Int.tmod ((32*i:Nat):Int) 32=0:=by rw[Int.tmod_eq_emod_of_nonneg (by omega)];omega
   rw[e1,decide_eq_true (p:=(0:Int)<=((32*i:Nat):Int)) (by omega),decide_eq_true (p:=((32*i:Nat):Int)<h.2.1) (by omega)]
   simp
  ·rw[if_neg c,if_neg c,hl]
   simp
 refine⟨hv,?_⟩
 unfold Sp.fit
 rw[hv,hb1,hp,hb2,hd]
 dsimp only
 rw[V.rg]
 simp
theorem iv_step{hb:Nat}{h:HdrT}{w:List Int}{i:Nat}{s:OutT}(V:IV hb h w i s)(e:s.2.2.2.1=0)(hi:32*i<w.length):IV hb h w (i+1) (Sp.ublk s.1 s.2.1 i (Sp.prt w i) s.2.2.1):=by
 obtain⟨hv,hf⟩:=iv_fit V e
 obtain⟨⟨k,hk,hd⟩,hb1,hb2,hw,hp⟩:=V.ok e
 have bl:=bay_len hb1
 have hl:=V.lw
 rw[if_pos hi,if_pos hi]at hd
 have d1:s.1.1=1:=by rw[hd]
 have d3:s.1.2.2.1=((32*i:Nat):Int):=by rw[hd]
 have d4:s.1.2.2.2.1=h:=by rw[hd]
 have hpl:((Sp.prt w i).length:Int)=Sp.part s.1:=by
  unfold Sp.prt Sp.part
  rw[d3,d4,List.length_take,List.length_drop,<-hl]
  split<;>omega
 have hble:Sp.ble s.1 s.2.1 i (Sp.prt w i) s.2.2.1=0:=by
  unfold Sp.ble
  rw[if_pos hf,if_pos d1,d3,Int.tdiv_eq_ediv_of_nonneg (by omega),if_pos (by omega),if_pos hpl]
 have g:=blr_g (Sp.prt w i) hf d1 hw
 have eqb:EQ ((Sp.blr s.1 s.2.1 (Sp.prt w i) s.2.2.1).1,s.2.1.2):=bsame_pv _ g.v
 have hr:(Sp.blr s.1 s.2.1 (Sp.prt w i) s.2.2.1).1.2.1.length=s.2.1.1.2.1.length:=by rw[g.r]
 have hbv:=bvb_of hb1 g.v hr
 unfold Sp.ublk
 rw[if_pos hble]
 refine⟨V.hh,V.lw,V.l1,V.rg,fun e2=> ?_,fun e2=> ?_,eqb⟩
 ·have e2:(Sp.blr s.1 s.2.1 (Sp.prt w i) s.2.2.1).2.2.1=0:=e2
  refine⟨⟨k,hk,?_⟩,hbv,?_,g.w,pok_of g.p0 g.p1⟩
  ·unfold Sp.blo
   dsimp only
   rw[if_pos e2]
   unfold Sp.nxt
   rw[hpl]
   unfold Sp.part
   rw[hd]
   dsimp only
   rw[<-hl]
   by_cases c:32*(i+1)<w.length
   ·rw[if_pos c,if_pos c,if_neg (by omega),if_neg (by omega)]
    congr 3
   ·rw[if_neg c,if_neg c]
    by_cases c2:(w.length:Int)-((32*i:Nat):Int)<32
    ·rw[if_pos c2,if_pos (by omega)]
     congr 3
     omega
    ·rw[if_neg c2,if_pos (by omega)]
     congr 3
     omega
  ·show Sp.hlf ((Sp.blr s.1 s.2.1 (Sp.prt w i) s.2.2.1).1,s.2.1.2)=hb
   rw[<-hb2]
   unfold Sp.hlf
   dsimp only
   rw[hr]
 ·have e2:¬(Sp.blr s.1 s.2.1 (Sp.prt w i) s.2.2.1).2.2.1=0:=e2
  unfold Sp.blo
  dsimp only
  rw[if_neg e2]
theorem h32z:H32 Sp.zD.2.2.2.1:=⟨by decide,by simp[Sp.zD],by simp[Sp.zD]⟩
theorem vdl_z:Sp.vdl Sp.zD=true:=by decide
theorem zdl_z:Sp.zdl Sp.zD=true:=by decide
theorem iv_init{b:BayT}{h:HdrT}{w:List Int}{p:PwT}(hb:Sp.bvb b=true)(hw:W32f b.1)(hp:Sp.pok p=true)(hh:H32 h)(hl:(w.length:Int)=h.2.1)(l1:w.length<=100)(rg:Sp.rgt h ((Sp.hlf b:Int)-564)=true):IV (Sp.hlf b) h w 0 (Sp.bgn Sp.zD b h p):=by
 obtain⟨p0,p1⟩:=pok_b hp
 have bl:=bay_len hb
 obtain⟨_,r2,_⟩:=rgt_1484 (h:=h) (by omega) rg
 unfold Sp.bgn
 by_cases e:Sp.bge Sp.zD b h p=0
 ·rw[if_pos e]
  have hwn:Sp.wrn b (Sp.tg b)=false:=by
   cases hc:Sp.wrn b (Sp.tg b)
   ·rfl
   ·exfalso
    unfold Sp.bge at e
    rw[if_pos ⟨vdl_z,hb,hp,rg⟩,if_pos zdl_z,if_pos hc]at e
    split at e
    ·exact absurd e (by decide)
    ·split at e
     ·exact absurd e (by decide)
     ·exact absurd e (by decide)
  have g:=bgs_g (h:=h) hb (tg_le b) hw p0 p1 hwn
  have hr:(Sp.bgs b h p (Sp.tg b)).1.2.1.length=b.1.2.1.length:=by rw[g.2.r];exact g.1.n
  have hbv:=bvb_of hb g.2.v hr
  refine⟨hh,hl,l1,rg,fun e2=> ?_,fun e2=> ?_,bsame_pv _ g.2.v⟩
  ·have e2:(Sp.bgs b h p (Sp.tg b)).2.2.1=0:=e2
   refine⟨⟨(Sp.tg b:Int),?_,?_⟩,hbv,?_,g.2.w,pok_of g.2.p0 g.2.p1⟩
   ·have:=tg_le b;omega
   ·unfold Sp.bgo
    dsimp only
    rw[if_pos e2,if_pos (by omega),if_pos (by omega)]
    rfl
   ·unfold Sp.bgo Sp.hlf
    dsimp only
    rw[hr]
  ·have e2:¬(Sp.bgs b h p (Sp.tg b)).2.2.1=0:=e2
   unfold Sp.bgo
   dsimp only
   rw[if_neg e2]
 ·rw[if_neg e]
  exact⟨hh,hl,l1,rg,fun e2=>absurd e2 e,fun _=>rfl,zsame_pv⟩
theorem lpr_iv{hb:Nat}{h:HdrT}{w:List Int}:∀(n i:Nat)(s:OutT),IV hb h w i s->w.length<=32*(i+n)->∃j,IV hb h w j (Sp.lpr w n i s)/\((Sp.lpr w n i s).2.2.2.1=0->w.length<=32*j)
 |0,i,s,V,hn=>⟨i,V,fun _=>by omega⟩
 |n+1,i,s,V,hn=>by
  rw[Sp.lpr]
  by_cases c:s.2.2.2.1=0/\32*i<w.length
  ·rw[if_pos c]
   exact lpr_iv n (i+1) _ (iv_step V c.1 c.2) (by omega)
  ·rw[if_neg c]
   exact⟨i,V,fun e=>by omega⟩
theorem cd_ne{a:BayT}{k c:Int}(h:Cd a k c):c≠0/\c≠18:=by
 rcases h with⟨_,rfl⟩|⟨n,_,_,⟨_,rfl⟩|⟨_,_,rfl⟩|⟨_,_,_,rfl⟩⟩<;>decide
theorem fin_ex{hb:Nat}{h:HdrT}{w:List Int}{i:Nat}{s:OutT}(V:IV hb h w i s)(e:s.2.2.2.1=0)(hi:w.length<=32*i):s.1.1=2/\∃r:OutT,(p_19 s.1 s.2.1 s.2.2.1=true/\v_19 s.1 s.2.1 s.2.2.1=r)/\r.1=Sp.zD/\EQ r.2.1:=by
 obtain⟨hv,hf⟩:=iv_fit V e
 obtain⟨⟨k,hk,hd⟩,hb1,hb2,hw,hp⟩:=V.ok e
 rw[if_neg (by omega),if_neg (by omega)]at hd
 have d1:s.1.1=2:=by rw[hd]
 have d2:s.1.2.1=k:=by rw[hd]
 have d4:s.1.2.2.2.1=h:=by rw[hd]
 obtain⟨p0,p1⟩:=pok_b hp
 refine⟨d1,?_⟩
 have key:∃r:OutT,F_19 s.1 s.2.1 s.2.2.1=some r/\r.1=Sp.zD/\EQ r.2.1:=by
  have f:=fits_pv (d:=s.1) (by rw[d4];exact V.hh) s.2.1 s.2.2.1
  unfold F_19
  rw[f.1,f.2,gd_tt,if_pos hf,cond_nff rfl,cond_nff d1,d2]
  have B:BB s.2.1:=⟨bv_of hb1,hb1⟩
  rcases act_any B k with⟨c,c0,hc,ha⟩|⟨n,hn,rfl,g1,g2,g3⟩
  ·have a:=pv_65 _ _ _ (ha s.2.2.1 p0 p1)
   obtain⟨_,c18⟩:=cd_ne hc
   rw[a.1,a.2,gd_tt]
   dsimp only
   rw[cond_eff c0,cond_eff c18,(fail_pv c).1,(fail_pv c).2,gd_tt]
   exact⟨_,rfl,rfl,zsame_pv⟩
  ·have a:=pv_65 _ _ _ (act_good B n hn g1 g2 g3 s.2.2.1 p0 p1)
   have bl:=bay_len hb1
   have g:=prg_g (PG.init (p:=s.2.2.1) hb1 hw p0 p1) (n*Sp.hlf s.2.1) 0
   rw[a.1,a.2,gd_tt]
   dsimp only
   rcases g.e with e|e
   ·rw[cond_ett (show(Sp.prg s.2.1.1 (n*Sp.hlf s.2.1) 0 s.2.2.1).2.2.1=0 from e)]
    exact⟨_,rfl,rfl,bsame_pv _ g.v⟩
   ·rw[cond_eff (by rw[show(Sp.prg s.2.1.1 (n*Sp.hlf s.2.1) 0 s.2.2.1).2.2.1=18 from e];decide),cond_ett (show(Sp.prg s.2.1.1 (n*Sp.hlf s.2.1) 0 s.2.2.1).2.2.1=18 from e)]
    exact⟨_,rfl,rfl,bsame_pv _ g.v⟩
 obtain⟨r,h1,h2,h3⟩:=key
 exact⟨r,pv_19 _ _ _ h1,h2,h3⟩
theorem new_pv:p_35=true/\v_35=(Sp.zD,()):=pv_35 rfl
theorem prt_tk(w:List Int)(i:Nat):take (if w.length-32*i<32 then w.length-32*i else 32) (drop (32*i) w)=Sp.prt w i:=by
 unfold Sp.prt
 split
 ·rw[List.take_of_length_le (by rw[List.length_drop];omega),List.take_of_length_le (by rw[List.length_drop];omega)]
 ·rfl
theorem blk_iv{hb:Nat}{h:HdrT}{w:List Int}{i:Nat}{s:OutT}(V:IV hb h w i s)(e:s.2.2.2.1=0)(l:List Int):p_68 s.1 s.2.1 i l s.2.2.1=true/\v_68 s.1 s.2.1 i l s.2.2.1=Sp.ublk s.1 s.2.1 i l s.2.2.1:=by
 obtain⟨⟨k,_,hd⟩,_,_,hw,_⟩:=V.ok e
 exact blk_pv (by rw[hd];exact V.hh) hw
theorem il{hb:Nat}{h:HdrT}{w:List Int}(q2:HdrT)(p4:Int×Unit)(p5:List Int×Unit)(p6:PwT):∀(n m i:Nat)(s:OutT),IV hb h w i s->w.length<=32*(i+n)->n<m->
 ∃q:Int,L_23_108_0_0 m ((32*i:Nat):Int) s.2.1 q2 s.2.2.1 p4 p5 p6 s.1 s.2.2.2.1 i w 32=some (.e0 (Sp.lpr w n i s).2.1 q2 (Sp.lpr w n i s).2.2.1 p4 p5 p6 (Sp.lpr w n i s).1 (Sp.lpr w n i s).2.2.2.1 q w 32)\/L_23_108_0_0 m ((32*i:Nat):Int) s.2.1 q2 s.2.2.1 p4 p5 p6 s.1 s.2.2.2.1 i w 32=some (.e1 (Sp.lpr w n i s).2.1 q2 (Sp.lpr w n i s).2.2.1 p4 p5 p6 (Sp.lpr w n i s).1 (Sp.lpr w n i s).2.2.2.1 q w 32)
 |0,m,i,s,V,hn,hm=>by
  obtain⟨m,rfl⟩:∃k,m=k+1:=⟨m-1,by omega⟩
  exact⟨i,.inr (by rw[L_23_108_0_0,S_23_108_0_0,cond_dff (by omega),Sp.lpr])⟩
 |n+1,m,i,s,V,hn,hm=>by
  obtain⟨m,rfl⟩:∃k,m=k+1:=⟨m-1,by omega⟩
  have l1:=V.l1
  rw[Sp.lpr]
  by_cases c:32*i<w.length
  rotate_left
  ·refine⟨i,.inr ?_⟩
   rw[L_23_108_0_0,S_23_108_0_0,cond_dff (by omega),if_neg (fun a=>c a.2)]
  have hX:wrap .i64 (((32*i:Nat):Int)+if((drop (toNat ((32*i:Nat):Int)) w).length:Int)<32 then((drop (toNat ((32*i:Nat):Int)) w).length:Int)else 32)=((32*i+(if w.length-32*i<32 then w.length-32*i else 32):Nat):Int):=by
   rw[Int.toNat_natCast,List.length_drop]
   by_cases h3:w.length-32*i<32
   ·rw[if_pos (by omega),if_pos h3,wi64 (by omega) (by omega)];omega
   ·rw[if_neg (by omega),if_neg h3,wi64 (by omega) (by omega)];omega
  have hY:32*i+(if w.length-32*i<32 then w.length-32*i else 32)<=w.length:=by split<;>omega
  rw[L_23_108_0_0,S_23_108_0_0,cond_dtt (by omega),gd_sl3 (by omega) (by omega) (by omega),hX,gd_and,gd_sl3 (by omega) (by omega) (by omega),gd_dec (by omega)]
  by_cases e:s.2.2.2.1=0
  rotate_left
  ·rw[cond_ntt e,if_neg (fun a=>e a.1)]
   exact⟨i,.inl rfl⟩
  rw[cond_nff e,if_pos (show s.2.2.2.1=0/\32*i<w.length from⟨e,c⟩),Int.toNat_natCast,Int.toNat_natCast,Nat.add_sub_cancel_left,prt_tk]
  have b:=blk_iv V e (Sp.prt w i)
  rw[b.1,b.2,gd_tt,wi64 (n:=((32*i:Nat):Int)+32) (by omega) (by omega),wi64 (n:=(i:Int)+1) (by omega) (by omega),show((32*i:Nat):Int)+32=((32*(i+1):Nat):Int) by omega,show(i:Int)+1=((i+1:Nat):Int) by omega]
  exact il q2 p4 p5 p6 n m (i+1) _ (iv_step V e c) (by omega) (by omega)
namespace Sp
noncomputable def all(b:BayT)(h:HdrT)(w:List Int)(p:PwT):OutT:=lpr w 4 0 (bgn zD b h p)
end Sp
noncomputable def InsV(b:BayT)(h:HdrT)(w:List Int)(p:PwT)(v:BayT×PwT×Int×Unit):Prop:=
 (¬(Sp.bvb b=true/\Sp.pok p=true/\Sp.rgt h ((Sp.hlf b:Int)-564)=true)/\v=(Sp.fl 1).2) \/
 ((Sp.bvb b=true/\Sp.pok p=true/\Sp.rgt h ((Sp.hlf b:Int)-564)=true)/\v=if(Sp.all b h w p).2.2.2.1=0 then(v_19 (Sp.all b h w p).1 (Sp.all b h w p).2.1 (Sp.all b h w p).2.2.1).2 else(Sp.all b h w p).2)
theorem ins_pv{b:BayT}{h:HdrT}{w:List Int}{p:PwT}(hh:H32 h)(hw:W32f b.1)(hby:bytes h.2.2.1)(hl:(w.length:Int)=h.2.1)(l1:w.length<=100):∃v,(p_23 b h w p=true/\v_23 b h w p=v)/\InsV b h w p v:=by
 have key:∃v,F_23 b h w p=some v/\InsV b h w p v:=by
  unfold F_23
  rw[(val_pv b).1,(val_pv b).2,gd_tt,(upow_pv p).1,(upow_pv p).2,gd_tt]
  dsimp only
  cases hb:Sp.bvb b
  ·exact⟨_,rfl,.inl ⟨(fun a=>by rw[hb]at a;cases a.1),rfl⟩⟩
  rw[Bool.not_true,cond_f]
  cases hp:Sp.pok p
  ·exact⟨_,rfl,.inl ⟨(fun a=>by rw[hp]at a;cases a.2.1),rfl⟩⟩
  have bl:=bay_len hb
  rw[Bool.not_true,cond_f,(size_pv hb).1,(size_pv hb).2,gd_tt]
  dsimp only
  rw[wi64 (n:=(Sp.hlf b:Int)-564) (by omega) (by omega)]
  have r:=pv_40 _ _ (right_ok hh ((Sp.hlf b:Int)-564))
  rw[r.1,r.2,gd_tt]
  dsimp only
  cases hr:Sp.rgt h ((Sp.hlf b:Int)-564)
  ·exact⟨_,rfl,.inl ⟨(fun a=>by rw[hr]at a;cases a.2.2),rfl⟩⟩
  have V:=iv_init hb hw hp hh hl l1 hr
  have bg:=bgn_pv (d:=Sp.zD) (b:=b) (h:=h) (p:=p) h32z hh hw hby
  rw[Bool.not_true,cond_f,cond_nff hl,new_pv.1,new_pv.2,gd_tt]
  dsimp only
  rw[bg.1,bg.2,gd_tt]
  obtain⟨j,V2,hj⟩:=lpr_iv 4 0 _ V (by omega)
  have V2:IV (Sp.hlf b) h w j (Sp.all b h w p):=V2
  have fin:∀(y36:Int×Unit)(y37:List Int×Unit)(y39:PwT),∃v,B_23_0 (J_23_0 (Sp.all b h w p).2.1 (Sp.all b h w p).2.2.1 y36 y37 [] [] y39 (Sp.all b h w p).1 (Sp.all b h w p).2.2.2.1) (fun y45 y46 y47=>some ((v_19 y47 y45 y46).2.1,(v_19 y47 y45 y46).2.2.1,(v_19 y47 y45 y46).2.2.2.1,())) (fun y48 y49 y50=>some (y48,y49,y50,()))=some v/\InsV b h w p v:=by
   intro y36 y37 y39
   unfold J_23_0 S_23_0
   by_cases e:(Sp.all b h w p).2.2.2.1=0
   ·obtain⟨_,r,f,_,_⟩:=fin_ex V2 e (hj e)
    rw[cond_ett e,f.1,gd_tt]
    exact⟨_,rfl,.inr ⟨⟨hb,hp,hr⟩,by rw[if_pos e]⟩⟩
   ·rw[cond_eff e]
    exact⟨_,rfl,.inr ⟨⟨hb,hp,hr⟩,by rw[if_neg e]⟩⟩
  obtain⟨q,hq⟩:=il h (0,()) (replicate 32 0,()) (0,0,()) 4 4611686018427387904 0 _ V (by omega) (by omega)
  rcases hq with hq|hq
  ·obtain⟨v,h1,h2⟩:=fin (0,()) (replicate 32 0,()) (0,0,())
   exact⟨v,(congrArg (fun z=>B_23_108_0_0 z _ _) hq).trans h1,h2⟩
  ·obtain⟨v,h1,h2⟩:=fin (0,()) (replicate 32 0,()) (0,0,())
   exact⟨v,(congrArg (fun z=>B_23_108_0_0 z _ _) hq).trans h1,h2⟩
 obtain⟨v,h1,h2⟩:=key
 exact⟨v,pv_23 b h w p h1,h2⟩
set_option maxRecDepth 100000
set_option maxHeartbeats 4000000
theorem rhws_ok(h:List Int):F_112 h=some (Sp.hws h 8,()):=by
 have:=run0 (fun m i s=>L_112_0 m (4*i) h s) (n:=8) (fun j=>Sp.hws h j) (r:=some (.e0 (Sp.hws h 8))) (by decide) (fun m j hj=>by
  have e0:toNat (4*(j:Int))=4*j:=by omega
  have e1:toNat (4*(j:Int)+1)=4*j+1:=by omega
  have e2:toNat (4*(j:Int)+2)=4*j+2:=by omega
  have e3:toNat (4*(j:Int)+3)=4*j+3:=by omega
  show L_112_0 (m+1) (4*(j:Int)) h (Sp.hws h j)=_
  rw[L_112_0,S_112_0,cond_dtt (by omega),wi64 (n:=4*(j:Int)+1) (by omega) (by omega),wi64 (n:=4*(j:Int)+2) (by omega) (by omega),wi64 (n:=4*(j:Int)+3) (by omega) (by omega),wi64 (n:=4*(j:Int)+4) (by omega) (by omega),gd_inB (by omega) (by omega),gd_inB (by omega) (by omega),gd_inB (by omega) (by omega),gd_inB (by omega) (by omega),e0,e1,e2,e3,Bool.and_true,Bool.and_true,Bool.and_true,Bool.and_true,gd_dec (by omega),gd_dec (by omega),gd_dec (by omega),gd_dec (by omega),gd_room (by rw[hws_len];omega) (by rw[hws_len];omega),hws_succ,show 4*(j:Int)+4=4*((j+1:Nat):Int) by omega]
  rfl) (fun m=>by
  show L_112_0 (m+1) 32 h (Sp.hws h 8)=_
  rw[L_112_0,S_112_0,cond_dff (by decide)])
 unfold F_112
 have e:L_112_0 4611686018427387904 0 h []=some (.e0 (Sp.hws h 8)):=this
 rw[e]
 rfl
theorem rhws_pv(h:List Int):p_112 h=true/\v_112 h=(Sp.hws h 8,()):=pv_112 h (rhws_ok h)
theorem rwords_ok(s:SigT)(h3:s.2.1.length=67)(h4:s.2.2.1.length=2):F_76 s=some (Sp.wordsF s,()):=by
 have l1:=cws_len s.2.1
 have a:=run0 (fun m i t=>L_76_0 m i s t) (n:=67) (fun j=>[wrap .u32 s.1]++Sp.cws (s.2.1.take j)) (r:=some (.e0 s ([wrap .u32 s.1]++Sp.cws s.2.1))) (by decide) (fun m j hj=>by
  have hc:(Sp.cws (s.2.1.take j)).length<=8000:=by rw[cws_len,List.length_take];omega
  show L_76_0 (m+1) (j:Int) s ([wrap .u32 s.1]++Sp.cws (s.2.1.take j))=_
  rw[L_76_0,S_76_0,cond_dtt (by omega),gd_inB (by omega) (by omega),Int.toNat_natCast,(rhws_pv _).1,(rhws_pv _).2,gd_tt,gd_room (by rw[List.length_append,hws_len,List.length_singleton];omega) (by rw[List.length_append,hws_len,List.length_singleton];omega),wi64 (by omega) (by omega),cws_succ _ j (by omega),List.append_assoc]
  rfl) (fun m=>by
  show L_76_0 (m+1) 67 s _=_
  rw[L_76_0,S_76_0,cond_dff (by decide),List.take_of_length_le (by omega)])
 have b:=run0 (fun m i t=>L_76_1 m i s t) (n:=2) (fun j=>[wrap .u32 s.1]++Sp.cws s.2.1++Sp.cws (s.2.2.1.take j)) (r:=some (.e0 (Sp.wordsF s))) (by decide) (fun m j hj=>by
  have hc:(Sp.cws (s.2.2.1.take j)).length<=8000:=by rw[cws_len,List.length_take];omega
  show L_76_1 (m+1) (j:Int) s ([wrap .u32 s.1]++Sp.cws s.2.1++Sp.cws (s.2.2.1.take j))=_
  rw[L_76_1,S_76_1,cond_dtt (by omega),gd_inB (by omega) (by omega),Int.toNat_natCast,(rhws_pv _).1,(rhws_pv _).2,gd_tt,gd_room (by rw[List.length_append,List.length_append,hws_len,List.length_singleton];omega) (by rw[List.length_append,List.length_append,hws_len,List.length_singleton];omega),wi64 (by omega) (by omega),cws_succ _ j (by omega),<-List.append_assoc]
  rfl) (fun m=>by
  show L_76_1 (m+1) 2 s _=_
  rw[L_76_1,S_76_1,cond_dff (by decide),List.take_of_length_le (by omega)]
  rfl)
 unfold F_76
 have a':L_76_0 4611686018427387904 0 s [wrap .u32 s.1]=some (.e0 s ([wrap .u32 s.1]++Sp.cws s.2.1)):=a
 have b':L_76_1 4611686018427387904 0 s ([wrap .u32 s.1]++Sp.cws s.2.1)=some (.e0 (Sp.wordsF s)):=by simpa[Sp.cws]using b
 rw[a']
 simp only[B_76_0]
 rw[b']
 rfl
theorem acc8{x y:Nat}(hx:x<16777216)(hy:y<256):Sp.orI .u32 (wrap .u32 ((x:Int)*256)) (wrap .u32 (y:Int))=((x*256+y:Nat):Int):=by
 rw[show(x:Int)*256=((x*256:Nat):Int)from(Int.natCast_mul x 256).symm,u32_wrap_nat (by omega),u32_wrap_nat (by omega),orU_nat (by omega) (by omega),show x*256=x*2^8 from rfl,or_add 8 (by omega)]
theorem wd_e{a b c d:Nat}(ha:a<256)(hb:b<256)(hc:c<256)(hd:d<256):Sp.wd a b c d=((((a*256+b)*256+c)*256+d:Nat):Int):=by
 unfold Sp.wd
 rw[u32_wrap_nat (a:=a) (by omega),u32_wrap_nat (a:=b) (by omega),u32_wrap_nat (a:=c) (by omega),u32_wrap_nat (a:=d) (by omega),show(a:Int)*16777216=((a*16777216:Nat):Int)from(Int.natCast_mul a 16777216).symm,show(b:Int)*65536=((b*65536:Nat):Int)from(Int.natCast_mul b 65536).symm,show(c:Int)*256=((c*256:Nat):Int)from(Int.natCast_mul c 256).symm,u32_wrap_nat (a:=a*16777216) (by omega),u32_wrap_nat (a:=b*65536) (by omega),u32_wrap_nat (a:=c*256) (by omega),
  orU_nat (a:=a*16777216) (by omega) (by omega),show a*16777216=a*2^24 from rfl,or_add 24 (by omega),orU_nat (by omega) (by omega),show a*2^24+b*65536=(a*256+b)*2^16 by omega,or_add 16 (by omega),orU_nat (by omega) (by omega),show(a*256+b)*2^16+c*256=((a*256+b)*256+c)*2^8 by omega,or_add 8 (by omega)]
theorem byte_at{l:List Int}(h:bytes l)(i:Nat):∃k:Nat,l.getD i 0=(k:Int)/\k<256:=by
 rw[List.getD_eq_getElem?_getD]
 cases e:l[i]? with
 |none=>exact⟨0,rfl,by decide⟩
 |some x=>
  have:=h x (List.mem_of_getElem? e)
  exact⟨x.toNat,by show x=_;omega,by omega⟩
theorem img1(h:HdrT)(hb:bytes h.2.2.1)(j:Nat)(hj:j<8)(p0 p5:List Int)(m:Nat):L_31_1 (m+5) p0 j 0 0 h p5=some (.e0 p0 j (Sp.hwd h.2.2.1 j) h p5):=by
 obtain⟨a,ea,ha⟩:=byte_at hb (4*j)
 obtain⟨b,eb,hb2⟩:=byte_at hb (4*j+1)
 obtain⟨c,ec,hc⟩:=byte_at hb (4*j+2)
 obtain⟨d,ed,hd⟩:=byte_at hb (4*j+3)
 have ad:∀k:Nat,k<4->wrap .i64 (wrap .i64 (4*(j:Int))+(k:Int))=((4*j+k:Nat):Int):=fun k hk=>by
  rw[wi64 (n:=4*(j:Int)) (by omega) (by omega),wi64 (by omega) (by omega)];omega
 have st:∀(q x k:Nat),k<4->∀y:Nat,h.2.2.1.getD (4*j+k) 0=(y:Int)->y<256->x<16777216->L_31_1 (q+1) p0 j (x:Int) (k:Int) h p5=L_31_1 q p0 j ((x*256+y:Nat):Int) ((k+1:Nat):Int) h p5:=fun q x k hk y e hy hx=>by
  rw[L_31_1,S_31_1,cond_dtt (by omega),ad k hk,gd_inB (by omega) (by omega),Int.toNat_natCast,Bool.and_true,gd_dec (by omega),e,acc8 hx hy,wi64 (by omega) (by omega)]
  push_cast
  rfl
 have s0:=st (m+4) 0 0 (by decide) a ea ha (by decide)
 have s1:=st (m+3) (0*256+a) 1 (by decide) b eb hb2 (by omega)
 have s2:=st (m+2) ((0*256+a)*256+b) 2 (by decide) c ec hc (by omega)
 have s3:=st (m+1) (((0*256+a)*256+b)*256+c) 3 (by decide) d ed hd (by omega)
 refine(s0.trans (s1.trans (s2.trans s3))).trans ?_
 rw[L_31_1,S_31_1,cond_dff (by omega),Nat.zero_mul,Nat.zero_add]
 unfold Sp.hwd
 rw[ea,eb,ec,ed,wd_e ha hb2 hc hd]
theorem rimg_pv{h:HdrT}(hb:bytes h.2.2.1)(hs:Sp.shp h.2.2.2.1=true):p_31 h []=true/\v_31 h []=(Sp.hdw h,()):=by
 have sl:=shp_len hs
 have w:=pv_76 _ (rwords_ok h.2.2.2.1 sl.1 sl.2)
 have l2:=wordsF_len hs
 refine pv_31 h [] ?_
 unfold F_31
 have t0:=run0 (fun m i acc=>L_31_0 m [] i h acc) (n:=8) (fun j=>Sp.hdp h++Sp.hws h.2.2.1 j) (r:=some (.e0 [] h (Sp.hdp h++Sp.hws h.2.2.1 8))) (by decide) (fun m j hj=>by
  show L_31_0 (m+1) [] (j:Int) h (Sp.hdp h++Sp.hws h.2.2.1 j)=L_31_0 m [] ((j+1:Nat):Int) h (Sp.hdp h++Sp.hws h.2.2.1 (j+1))
  have ll:(Sp.hdp h++Sp.hws h.2.2.1 j).length=2+j:=by rw[List.length_append,hws_len];rfl
  rw[L_31_0,S_31_0,cond_dtt (by omega)]
  refine(congrArg (fun z=>B_31_1 z _) (img1 h hb j hj [] (Sp.hdp h++Sp.hws h.2.2.1 j) 4611686018427387899)).trans ?_
  unfold B_31_1
  dsimp only
  rw[gd_room (by omega) (by omega),wi64 (by omega) (by omega),hws_succ,List.append_assoc]
  push_cast
  rfl) (fun m=>by
  show L_31_0 (m+1) [] 8 h (Sp.hdp h++Sp.hws h.2.2.1 8)=_
  rw[L_31_0,S_31_0,cond_dff (by decide)])
 have t0:L_31_0 4611686018427387904 [] 0 h [wrap .u32 h.1,wrap .u32 h.2.1]=some (.e0 [] h (Sp.hdp h++Sp.hws h.2.2.1 8)):=t0
 rw[t0]
 unfold B_31_0
 dsimp only
 rw[w.1,w.2,gd_tt]
 dsimp only
 have l1:(Sp.hdp h++Sp.hws h.2.2.1 8).length=10:=by rw[List.length_append,hws_len];rfl
 have t2:=run0 (fun m i acc=>L_31_2 m [] (Sp.wordsF h.2.2.2.1) i acc) (n:=(Sp.wordsF h.2.2.2.1).length) (fun j=>Sp.hdp h++Sp.hws h.2.2.1 8++(Sp.wordsF h.2.2.2.1).take j) (r:=some (.e0 [] (Sp.hdw h))) (by omega) (fun m j hj=>by
  show L_31_2 (m+1) [] (Sp.wordsF h.2.2.2.1) (j:Int) (Sp.hdp h++Sp.hws h.2.2.1 8++(Sp.wordsF h.2.2.2.1).take j)=L_31_2 m [] (Sp.wordsF h.2.2.2.1) ((j+1:Nat):Int) (Sp.hdp h++Sp.hws h.2.2.1 8++(Sp.wordsF h.2.2.2.1).take (j+1))
  have ll:(Sp.hdp h++Sp.hws h.2.2.1 8++(Sp.wordsF h.2.2.2.1).take j).length=10+j:=by rw[List.length_append,l1,List.length_take];omega
  rw[L_31_2,S_31_2,cond_dtt (by omega),gd_inB (by omega) (by omega),Int.toNat_natCast,gd_room (by omega) (by omega),wi64 (by omega) (by omega),take_s hj,<-List.append_assoc]
  push_cast
  rfl) (fun m=>by
  show L_31_2 (m+1) [] (Sp.wordsF h.2.2.2.1) ((Sp.wordsF h.2.2.2.1).length:Int) (Sp.hdp h++Sp.hws h.2.2.1 8++(Sp.wordsF h.2.2.2.1).take (Sp.wordsF h.2.2.2.1).length)=_
  rw[L_31_2,S_31_2,cond_dff (by omega),List.take_length]
  rfl)
 have t2:L_31_2 4611686018427387904 [] (Sp.wordsF h.2.2.2.1) 0 (Sp.hdp h++Sp.hws h.2.2.1 8++[])=_:=t2
 rw[List.append_nil]at t2
 rw[t2]
 unfold B_31_2
 dsimp only
 have t3:L_31_3 4611686018427387904 [] 0 (Sp.hdw h)=some (.e0 (Sp.hdw h)):=by
  show L_31_3 (4611686018427387903+1) [] 0 (Sp.hdw h)=_
  rw[L_31_3,S_31_3,cond_dff (by decide)]
 rw[t3]
 rfl
theorem rtg_pv{b:BayT}(B:BB b)(hw:W32 b):p_18 b=true/\v_18 b=((Sp.tg b:Int),()):=by
 have s:=rsel_pv B hw
 have e:=sel_eq b
 have sl:=sb_lt b
 refine pv_18 b ?_
 unfold F_18 Sp.tg
 rw[s.1,s.2,gd_tt]
 cases hh:Sp.has b
 ·rw[hh]at e
  have:(Sp.sel b).2.1≠0:=by simpa using e.2
  rw[cond_ntt this]
  rfl
 ·rw[hh]at e
  have:(Sp.sel b).2.1=0:=by simpa using e.2
  rw[cond_nff this,e.1,wi64 (by omega) (by omega),cond_true]
  congr 2
  omega
theorem wrn_pv{b:BayT}(hb:Sp.bvb b=true)(k:Nat)(hk:k<=1):p_58 b k=true/\v_58 b k=(Sp.wrn b k,()):=by
 have bl:=bay_len hb
 have hn:Sp.hn b=b.1.2.1.length/2:=rfl
 have hkl:k*Sp.hn b<=1*Sp.hn b:=Nat.mul_le_mul_right _ hk
 have en:wrap .i64 (Int.tdiv (b.1.2.1.length:Int) 2)=(Sp.hn b:Int):=by
  rw[Int.tdiv_eq_ediv_of_nonneg (by omega),wi64 (by omega) (by omega)]
  omega
 have ek:(k:Int)*(Sp.hn b:Int)=((k*Sp.hn b:Nat):Int):=by push_cast;try rfl
 refine pv_58 b k ?_
 unfold F_58
 rw[en]
 have hf:=find0 (fun m i=>L_58_0 m k (Sp.hn b) i b) (n:=Sp.hn b) (fun j=>b.1.2.1.getD (k*Sp.hn b+j) 0==b.1.2.2.1) (ex:=fun _=>some .e0) (e1:=some .e1) (by omega) (fun m j hj=>by
  show L_58_0 (m+1) k (Sp.hn b) (j:Int) b=bif b.1.2.1.getD (k*Sp.hn b+j) 0==b.1.2.2.1 then some .e0 else L_58_0 m k (Sp.hn b) ((j+1:Nat):Int) b
  rw[L_58_0,S_58_0,cond_dtt (by omega),ek,wi64 (n:=((k*Sp.hn b:Nat):Int)) (by omega) (by omega),wi64 (n:=((k*Sp.hn b:Nat):Int)+(j:Int)) (by omega) (by omega),show((k*Sp.hn b:Nat):Int)+(j:Int)=((k*Sp.hn b+j:Nat):Int) by push_cast;rfl,gd_inB (by omega) (by omega),Int.toNat_natCast,wi64 (by omega) (by omega)]
  push_cast
  rfl) (fun m=>by
  show L_58_0 (m+1) k (Sp.hn b) (Sp.hn b:Int) b=_
  rw[L_58_0,S_58_0,cond_dff (by omega)])
 refine(congrArg (fun z=>B_58_0 z _ _) hf).trans ?_
 cases hq:fnd (fun j=>b.1.2.1.getD (k*Sp.hn b+j) 0==b.1.2.2.1) (Sp.hn b) 0 with
 |none=>
  have hno:=fnd_none.1 hq
  have:Sp.wrn b k=false:=by
   cases hc:Sp.wrn b k
   ·rfl
   exfalso
   unfold Sp.wrn at hc
   have hm:b.1.2.2.1∈take (Sp.hn b) (drop (k*Sp.hn b) b.1.2.1):=by simpa using hc
   obtain⟨i,hi,e⟩:=List.mem_iff_getElem.1 hm
   rw[List.length_take,List.length_drop]at hi
   have h2:=hno i (by omega) (by omega)
   rw[List.getElem_take,List.getElem_drop]at e
   rw[getD_at 0 (by omega),e]at h2
   simp at h2
  rw[this]
  rfl
 |some j=>
  obtain⟨_,h1,h2,_⟩:=fnd_some hq
  have:Sp.wrn b k=true:=by
   cases hc:Sp.wrn b k
   ·exfalso
    exact(wrn_no hb hk hc).2 (k*Sp.hn b+j) (by omega) (by omega) (beq_iff_eq.1 h2)
   ·rfl
  rw[this]
  rfl
theorem rfit_pv{b:BayT}(hb:Sp.bvb b=true)(h:HdrT):p_24 h b=true/\v_24 h b=(Sp.rgt h ((Sp.hlf b:Int)-564),()):=by
 have bl:=bay_len hb
 have r:=pv_53 _ _ (header_ok h ((Sp.hlf b:Int)-564))
 have e:wrap .i64 (wrap .i64 (Int.tdiv (b.1.1.length:Int) 2)-564)=(Sp.hlf b:Int)-564:=by
  rw[Int.tdiv_eq_ediv_of_nonneg (by omega),wi64 (n:=(b.1.1.length:Int)/2) (by omega) (by omega),wi64 (by omega) (by omega)]
  omega
 refine pv_24 h b ?_
 unfold F_24
 rw[e,r.1,r.2,gd_tt]
theorem bge_pv{d:DlT}{b:BayT}{h:HdrT}{p:PwT}(hd:Sp.vdl d=true)(hb:Sp.bvb b=true)(hp:Sp.pok p=true)(hw:W32 b)(hby:bytes h.2.2.1):p_14 d b h=true/\v_14 d b h=(Sp.bge d b h p,()):=by
 have B:BB b:=⟨bv_of hb,hb⟩
 have f:=rfit_pv hb h
 have z:=zdl_vdl hd
 refine pv_14 d b h ?_
 unfold F_14 Sp.bge
 rw[f.1,f.2,gd_tt]
 dsimp only
 cases hr:Sp.rgt h ((Sp.hlf b:Int)-564)
 ·rw[if_neg (fun q=>Bool.noConfusion q.2.2.2)];rfl
 rw[if_pos ⟨hd,hb,hp,rfl⟩,Bool.not_true,cond_f,z]
 by_cases h1:d.1=0
 rotate_left
 ·rw[cond_ntt h1,beq_eq_false_iff_ne.2 h1,if_neg Bool.false_ne_true]
 have l:=rlst_pv B hw
 rw[cond_nff h1,beq_iff_eq.2 h1,if_pos rfl,l.1,l.2,gd_tt]
 dsimp only
 by_cases h2:h.1<=Sp.lst b
 ·rw[cond_dtt h2,if_pos h2]
 have vf:=pv_57 _ _ _ (rverify_ok b.2.1 h.2.2.1 hby h.2.2.2.1)
 rw[cond_dff h2,if_neg h2,vf.1,vf.2,gd_tt]
 dsimp only
 cases hvf:Sp.verF b.2.1 h.2.2.1 h.2.2.2.1
 ·rw[if_neg Bool.false_ne_true];rfl
 have tg:=rtg_pv B hw
 have wr:=wrn_pv hb (Sp.tg b) (tg_le b)
 rw[Bool.not_true,cond_f,if_pos rfl,tg.1,tg.2,gd_tt]
 dsimp only
 rw[wr.1,wr.2,gd_tt]
 cases Sp.wrn b (Sp.tg b)<;>rfl
theorem rb0{f0:FlT}(k n:Nat)(hk:k<=1)(hl:k*n+n<=f0.2.1.length)(hf:f0.2.1.length<=1000)(hw:∀i,k*n<=i->i<k*n+n->f0.2.1.getD i 0≠f0.2.2.1)(key:List Int×Unit)(h:HdrT)(p5:Int×Unit)(p6:List Int×Unit)(p7:PwT×Int×Unit)(p8 p9:List Int) :
 ∀(d m j:Nat)(s:RsT),EG f0 (k*n+j) s->j+d=n->d<m->L_17_0 m k n j ((s.1,key),s.2.1,s.2.2.1,()) h p5 p6 p7 p8 p9=some (.e0 k (((Sp.elo d (k*n+j) s).1,key),(Sp.elo d (k*n+j) s).2.1,(Sp.elo d (k*n+j) s).2.2.1,()) h p5 p6 p7 p8 p9)
 |0,m+1,j,s,_,hj,_=>by
  rw[L_17_0,S_17_0,cond_dff (by omega)]
  rfl
 |d+1,m+1,j,s,g,hj,hm=>by
  have hkn:k*n<=1000:=by omega
  have ek:(k:Int)*(n:Int)=((k*n:Nat):Int):=by push_cast;rfl
  rw[L_17_0,S_17_0,cond_dtt (by omega),Sp.elo]
  dsimp only
  by_cases e:s.2.2.1=0
  ·have pv:=rers_pv (f:=s.1) (p:=s.2.1) (s:=k*n+j) g.v g.p0 g.p1 (by rw[g.n];omega)
   rw[cond_ett e,if_pos e,ek,wi64 (n:=((k*n:Nat):Int)) (by omega) (by omega),wi64 (n:=((k*n:Nat):Int)+j) (by omega) (by omega),show((k*n:Nat):Int)+(j:Int)=((k*n+j:Nat):Int) by push_cast;rfl,pv.1,pv.2,gd_tt,wi64 (by omega) (by omega),show(j:Int)+1=((j+1:Nat):Int) by push_cast;rfl]
   exact rb0 k n hk hl hf hw key h p5 p6 p7 p8 p9 d m (j+1) _ (ers_g (k:=k*n+j) g (by omega) (hw (k*n+j) (by omega) (by omega))) (by omega) (by omega)
  ·rw[cond_eff e,if_neg e]
theorem rbeg_pv{b:BayT}{h:HdrT}{p:PwT}(hb:Sp.bvb b=true)(hw:W32 b)(hh:H32 h)(hs:Sp.shp h.2.2.2.1=true)(hby:bytes h.2.2.1)(h0:0<=p.1)(h1:p.1<=1099511627776)(hwn:Sp.wrn b (Sp.tg b)=false) :
 p_17 (b,p,0,()) h=true/\v_17 (b,p,0,()) h=((((Sp.bgs b h p (Sp.tg b)).1,b.2),(Sp.bgs b h p (Sp.tg b)).2.1,(Sp.bgs b h p (Sp.tg b)).2.2.1,()),()):=by
 have B:BB b:=⟨bv_of hb,hb⟩
 have bl:=bay_len hb
 have tl:=tg_le b
 have tg:=rtg_pv B hw
 have en:wrap .i64 (Int.tdiv (b.1.2.1.length:Int) 2)=(Sp.hn b:Int):=by
  have e:Sp.hn b=b.1.2.1.length/2:=rfl
  rw[Int.tdiv_eq_ediv_of_nonneg (by omega),wi64 (by omega) (by omega)]
  omega
 obtain⟨hl,hq⟩:=wrn_no hb tl hwn
 have g:=bgs_g (h:=h) hb tl hw h0 h1 hwn
 have hhn:Sp.hn b=b.1.2.1.length/2:=rfl
 refine pv_17 _ _ ?_
 unfold F_17
 dsimp only
 rw[tg.1,tg.2,gd_tt,en]
 dsimp only
 have w:=rb0 (f0:=b.1) (Sp.tg b) (Sp.hn b) tl hl (by omega) hq b.2 h (0,()) (replicate 32 0,()) ((0,0,()),0,()) [] [] (Sp.hn b) 4611686018427387904 0 (b.1,p,0,()) (EG.init bl.2.2.2.2.2 hw h0 h1) (by omega) (by omega)
 rw[Nat.add_zero]at w
 refine(congrArg (fun z=>B_17_0 z _) w).trans ?_
 unfold B_17_0
 dsimp only
 have hdl:=hdw_len hs
 have im:=rimg_pv hby hs
 have ewl:(Sp.elo (Sp.hn b) (Sp.tg b*Sp.hn b) (b.1,p,0,())).1.1.length=b.1.1.length:=g.1.l
 have ekh:Sp.tg b*Sp.hlf b<=Sp.hlf b:=by
  have:Sp.tg b*Sp.hlf b<=1*Sp.hlf b:=Nat.mul_le_mul_right _ tl
  omega
 have ba:p_62 ((Sp.elo (Sp.hn b) (Sp.tg b*Sp.hn b) (b.1,p,0,())).1,b.2) (Sp.tg b)=true/\v_62 ((Sp.elo (Sp.hn b) (Sp.tg b*Sp.hn b) (b.1,p,0,())).1,b.2) (Sp.tg b)=(((Sp.tg b*Sp.hlf b:Nat):Int),()):=by
  refine pv_62 _ _ ?_
  unfold F_62
  dsimp only
  rw[ewl,bl.1]
  have e:(Sp.tg b:Int)*((2*Sp.hlf b:Nat):Int)=((2*(Sp.tg b*Sp.hlf b):Nat):Int):=by
   rw[<-Int.natCast_mul,Nat.mul_left_comm]
  rw[e,wi64 (n:=((2*(Sp.tg b*Sp.hlf b):Nat):Int)) (by omega) (by omega),Int.tdiv_eq_ediv_of_nonneg (by omega),wi64 (by omega) (by omega)]
  congr 2
  omega
 have rp:=rl0 (f0:=(Sp.elo (Sp.hn b) (Sp.tg b*Sp.hn b) (b.1,p,0,())).1) (Sp.tg b*Sp.hlf b+1) (Sp.hdw h) (by omega) (by omega) b.2 (0,()) (replicate 32 0,()) ((0,0,()),0,()) [] [] (Sp.hdw h).length 4611686018427387904 0 _ g.1.pg (by omega) (by omega)
 rw[List.drop_zero,Nat.add_zero]at rp
 have pr:p_61 (((Sp.elo (Sp.hn b) (Sp.tg b*Sp.hn b) (b.1,p,0,())).1,b.2),(Sp.elo (Sp.hn b) (Sp.tg b*Sp.hn b) (b.1,p,0,())).2.1,(Sp.elo (Sp.hn b) (Sp.tg b*Sp.hn b) (b.1,p,0,())).2.2.1,()) ((Sp.tg b*Sp.hlf b+1:Nat):Int) (Sp.hdw h)=true/\v_61 (((Sp.elo (Sp.hn b) (Sp.tg b*Sp.hn b) (b.1,p,0,())).1,b.2),(Sp.elo (Sp.hn b) (Sp.tg b*Sp.hn b) (b.1,p,0,())).2.1,(Sp.elo (Sp.hn b) (Sp.tg b*Sp.hn b) (b.1,p,0,())).2.2.1,()) ((Sp.tg b*Sp.hlf b+1:Nat):Int) (Sp.hdw h)=((((Sp.bgs b h p (Sp.tg b)).1,b.2),(Sp.bgs b h p (Sp.tg b)).2.1,(Sp.bgs b h p (Sp.tg b)).2.2.1,()),()):=by
  refine pv_61 _ _ _ ?_
  unfold F_61
  exact(congrArg (fun z=>B_61_0 z _) rp).trans rfl
 unfold J_17_1 S_17_1
 dsimp only
 rw[ba.1,ba.2,gd_tt,im.1,im.2,gd_tt]
 dsimp only
 rw[wi64 (n:=((Sp.tg b*Sp.hlf b:Nat):Int)+1) (by omega) (by omega),show((Sp.tg b*Sp.hlf b:Nat):Int)+1=((Sp.tg b*Sp.hlf b+1:Nat):Int) by push_cast;rfl,pr.1,gd_tt]
 unfold B_17_1
 dsimp only
 rw[ba.2,im.2]
 dsimp only
 rw[wi64 (n:=((Sp.tg b*Sp.hlf b:Nat):Int)+1) (by omega) (by omega),show((Sp.tg b*Sp.hlf b:Nat):Int)+1=((Sp.tg b*Sp.hlf b+1:Nat):Int) by push_cast;rfl,pr.2]
theorem base_pv{b:BayT}(h:Sp.bvb b=true)(k:Int)(hk:k=0\/k=1):p_62 b k=true/\v_62 b k=(((k.toNat*Sp.hlf b:Nat):Int),()):=by
 have bl:=bay_len h
 refine pv_62 b k ?_
 unfold F_62
 rcases hk with e|e<;>rw[e]
 ·rw[Int.zero_mul,wi64 (n:=(0:Int)) (by decide) (by decide)]
  rw[show Int.tdiv 0 2=0 from rfl,wi64 (n:=(0:Int)) (by decide) (by decide)]
  simp
 ·rw[Int.one_mul,wi64 (n:=(b.1.1.length:Int)) (by omega) (by omega),Int.tdiv_eq_ediv_of_nonneg (by omega),wi64 (by omega) (by omega)]
  congr 2
  simp
  omega
theorem part_pv{d:DlT}(h0:0<=d.2.2.1)(h1:d.2.2.1<d.2.2.2.1.2.1)(h2:d.2.2.2.1.2.1<=10000):p_70 d=true/\v_70 d=(Sp.part d,()):=by
 refine pv_70 d ?_
 unfold F_70 Sp.part
 rw[wi64 (n:=d.2.2.2.1.2.1-d.2.2.1) (by omega) (by omega)]
 by_cases h:d.2.2.2.1.2.1-d.2.2.1<32
 ·rw[cond_dtt h,if_pos h]
 ·rw[cond_dff h,if_neg h]
theorem rblk_pv{d:DlT}{b:BayT}{p:PwT}{l:List Int}(hf:Sp.fit d b p=true)(h1:d.1=1)(h3:(l.length:Int)=Sp.part d)(hw:W32f b.1):(p_69 (b,p,0,()) d l=true/\v_69 (b,p,0,()) d l=((((Sp.blr d b l p).1,b.2),(Sp.blr d b l p).2.1,(Sp.blr d b l p).2.2.1,()),()))/\(p_71 d=true/\v_71 d=(Sp.nxt d l.length,()))/\(p_70 d=true/\v_70 d=(Sp.part d,())):=by
 obtain⟨hbv,p0,p1,hk,a0,a1,a2,a3,hsh⟩:=fit_d hf h1
 have pp:=part_pv a0 a1 (by omega)
 have ad:=adr_in hf h1 h3
 have bl:=bay_len hbv
 have q21:p_69 (b,p,0,()) d l=true/\v_69 (b,p,0,()) d l=((((Sp.blr d b l p).1,b.2),(Sp.blr d b l p).2.1,(Sp.blr d b l p).2.2.1,()),()):=by
  refine pv_69 _ _ _ ?_
  unfold F_69
  have bp:=base_pv hbv d.2.1 hk
  have:d.2.1.toNat*Sp.hlf b<=10000:=by
   rcases ad.2.2.2.2 with e|e<;>rw[e]<;>omega
  rw[bp.1,bp.2,gd_tt]
  dsimp only
  rw[wi64 (n:=((d.2.1.toNat*Sp.hlf b:Nat):Int)+564) (by omega) (by omega),wi64 (by omega) (by omega),show((d.2.1.toNat*Sp.hlf b:Nat):Int)+564+d.2.2.1=(Sp.adr d b:Int) by unfold Sp.adr;omega]
  have r:=rprog_pv (f0:=b.1) (Sp.adr d b) l ad.1 ad.2.1 b.2 p (PG.init hbv hw p0 p1)
  rw[show p_61 (b,p,0,()) (Sp.adr d b) l=true from r.1,show v_61 (b,p,0,()) (Sp.adr d b) l=_ from r.2,gd_tt]
  rfl
 have q22:p_71 d=true/\v_71 d=(Sp.nxt d l.length,()):=by
  refine pv_71 d ?_
  unfold F_71 Sp.nxt
  rw[pp.1,pp.2,gd_tt]
  dsimp only
  have pb:=part_b a0 a1
  rw[wi64 (n:=d.2.2.1+Sp.part d) (by omega) (by omega),h3]
  by_cases h4:d.2.2.1+Sp.part d=d.2.2.2.1.2.1
  ·rw[cond_ett h4,if_pos h4]
  ·rw[cond_eff h4,if_neg h4]
 exact⟨q21,q22,pp⟩
theorem act_both{b:BayT}(hb:Sp.bvb b=true)(hw:W32 b)(k:Int){p:PwT}(h0:0<=p.1)(h1:p.1<=1099511627776):∃r:BayT×PwT×Int×Unit,(p_65 b k p=true/\v_65 b k p=r)/\(p_66 b k p=true/\v_66 b k p=r) /\
 (r=(Sp.zB,(0,0,()),r.2.2.1,())/\r.2.2.1≠0/\r.2.2.1≠18\/(r.2.2.1=0\/r.2.2.1=18)/\r.1.1.1.length<1000000/\r.1.1.2.1.length<1000000):=by
 have h:BB b:=⟨bv_of hb,hb⟩
 rcases act_any h k with⟨c,hc,hcd,hF⟩|⟨n,hn,rfl,hg,ha,hv⟩
 ·refine⟨(bF,(0,0,()),c,()),pv_65 _ _ _ (hF p h0 h1),pv_66 _ _ _ (ract_cd h hw hcd h0 h1),.inl ⟨rfl,hc,?_⟩⟩
  show c≠18
  rcases hcd with⟨_,rfl⟩|⟨n,_,_,⟨_,rfl⟩|⟨_,_,rfl⟩|⟨_,_,_,rfl⟩⟩<;>decide
 ·have l:=prg_len b.1 (n*Sp.hlf b) 0 p
  have bl:=bay_len hb
  refine⟨_,pv_65 _ _ _ (act_good h n hn hg ha hv p h0 h1),pv_66 _ _ _ (ract_good h hw n hn hg ha hv p h0 h1),.inr ⟨?_,?_,?_⟩⟩
  ·show(Sp.prg b.1 (n*Sp.hlf b) 0 p).2.2.1=0\/(Sp.prg b.1 (n*Sp.hlf b) 0 p).2.2.1=18
   unfold Sp.prg
   split
   ·exact .inr rfl
   split
   ·exact .inr rfl
   ·exact .inl rfl
  ·show(Sp.prg b.1 (n*Sp.hlf b) 0 p).1.1.length<_
   rw[l.1];omega
  ·show(Sp.prg b.1 (n*Sp.hlf b) 0 p).1.2.1.length<_
   rw[l.2];omega
abbrev StaT:=BayT×PwT×Int×Unit
noncomputable def Sp.rst(s:OutT):StaT:=(s.2.1,s.2.2.1,s.2.2.2.1,())
theorem iv_blk{hb:Nat}{h:HdrT}{w:List Int}{i:Nat}{s:OutT}(V:IV hb h w i s)(e:s.2.2.2.1=0)(hi:32*i<w.length):s.1.1=1/\s.1.2.2.1=((32*i:Nat):Int)/\((Sp.prt w i).length:Int)=Sp.part s.1/\Sp.ublk s.1 s.2.1 i (Sp.prt w i) s.2.2.1=Sp.blo s.1 s.2.1 (Sp.prt w i) s.2.2.1:=by
 obtain⟨hv,hf⟩:=iv_fit V e
 obtain⟨⟨k,hk,hd⟩,hb1,hb2,hw,hp⟩:=V.ok e
 have hl:=V.lw
 rw[if_pos hi,if_pos hi]at hd
 have d1:s.1.1=1:=by rw[hd]
 have d3:s.1.2.2.1=((32*i:Nat):Int):=by rw[hd]
 have d4:s.1.2.2.2.1=h:=by rw[hd]
 have hpl:((Sp.prt w i).length:Int)=Sp.part s.1:=by
  unfold Sp.prt Sp.part
  rw[d3,d4,List.length_take,List.length_drop,<-hl]
  split<;>omega
 have hble:Sp.ble s.1 s.2.1 i (Sp.prt w i) s.2.2.1=0:=by
  unfold Sp.ble
  rw[if_pos hf,if_pos d1,d3,Int.tdiv_eq_ediv_of_nonneg (by omega),if_pos (by omega),if_pos hpl]
 refine⟨d1,d3,hpl,?_⟩
 unfold Sp.ublk
 rw[if_pos hble]
theorem rl_l{hb:Nat}{h:HdrT}{w:List Int}(p2 p3 p4 p5 p6):∀(n m i:Nat)(s:OutT)(d:DlT),IV hb h w i s->(s.2.2.2.1=0->d=s.1)->w.length<=32*(i+n)->n<m->
 ∃d',L_26_0 m w (Sp.rst s) p2 p3 p4 p5 p6 d=some (.e0 (Sp.rst (Sp.lpr w n i s)) p2 p3 p4 p5 p6 d')/\((Sp.lpr w n i s).2.2.2.1=0->d'=(Sp.lpr w n i s).1)
 |0,m,i,s,d,V,hd,hn,hm=>by
  obtain⟨m,rfl⟩:∃k,m=k+1:=⟨m-1,by omega⟩
  refine⟨d,?_,hd⟩
  rw[L_26_0,S_26_0,Sp.lpr]
  by_cases e:s.2.2.2.1=0
  ·obtain⟨⟨k,_,hd2⟩,_⟩:=V.ok e
   rw[if_neg (by omega),if_neg (by omega)]at hd2
   have d1:d.1=2:=by rw[hd e,hd2]
   rw[cond_eff (by omega)]
  ·rw[show(Sp.rst s).2.2.1=s.2.2.2.1 from rfl,cond_eff e]
   by_cases c:d.1=1
   ·rw[cond_ett c]
   ·rw[cond_eff c]
 |n+1,m,i,s,d,V,hd,hn,hm=>by
  obtain⟨m,rfl⟩:∃k,m=k+1:=⟨m-1,by omega⟩
  have l1:=V.l1
  by_cases e:s.2.2.2.1=0
  rotate_left
  ·refine⟨d,?_,fun z=> ?_⟩
   ·rw[L_26_0,S_26_0,Sp.lpr,if_neg (fun a=>e a.1),show(Sp.rst s).2.2.1=s.2.2.2.1 from rfl,cond_eff e]
    by_cases c:d.1=1
    ·rw[cond_ett c]
    ·rw[cond_eff c]
   ·rw[Sp.lpr,if_neg (fun a=>e a.1)]at z
    exact absurd z e
  have hd:=hd e
  subst hd
  by_cases c:32*i<w.length
  rotate_left
  ·obtain⟨⟨k,_,hd2⟩,_⟩:=V.ok e
   rw[if_neg c,if_neg c]at hd2
   have d1:s.1.1=2:=by rw[hd2]
   refine⟨s.1,?_,fun _=>by rw[Sp.lpr,if_neg (fun a=>c a.2)]⟩
   rw[L_26_0,S_26_0,Sp.lpr,cond_eff (by omega),if_neg (fun a=>c a.2)]
  obtain⟨d1,d3,hpl,hub⟩:=iv_blk V e c
  obtain⟨hv,hf⟩:=iv_fit V e
  obtain⟨_,_,_,hw,_⟩:=V.ok e
  obtain⟨q21,q22,pp⟩:=rblk_pv hf d1 hpl hw
  have lp:(Sp.prt w i).length=(if w.length-32*i<32 then w.length-32*i else 32):=by
   unfold Sp.prt
   rw[List.length_take,List.length_drop]
   split<;>omega
  have lpb:(Sp.prt w i).length<=32:=by rw[lp];split<;>omega
  have hX:wrap .i64 (((32*i:Nat):Int)+Sp.part s.1)=((32*i+(if w.length-32*i<32 then w.length-32*i else 32):Nat):Int):=by
   rw[<-hpl,<-lp,wi64 (by omega) (by omega)]
   push_cast
   rfl
  have hY:32*i+(if w.length-32*i<32 then w.length-32*i else 32)<=w.length:=by split<;>omega
  have rs:Sp.rst s=(s.2.1,s.2.2.1,0,()):=by unfold Sp.rst;rw[e]
  have V2:=iv_step V e c
  obtain⟨d',h1,h2⟩:=rl_l p2 p3 p4 p5 p6 n m (i+1) _ (Sp.nxt s.1 (Sp.prt w i).length) V2 (fun z=>by
   rw[hub]at z⊢
   unfold Sp.blo at z⊢
   dsimp only at z⊢
   rw[if_pos z]) (by omega) (by omega)
  refine⟨d',?_,?_⟩
  ·rw[L_26_0,S_26_0,Sp.lpr,cond_ett d1,show(Sp.rst s).2.2.1=s.2.2.2.1 from rfl,cond_ett e,pp.1,pp.2,gd_tt,d3]
   dsimp only
   rw[hX,gd_sl3 (by omega) (by omega) (by omega),Int.toNat_natCast,Int.toNat_natCast,Nat.add_sub_cancel_left,prt_tk,rs,q21.1,q21.2,gd_tt,q22.1,q22.2,gd_tt,if_pos (show s.2.2.2.1=0/\32*i<w.length from⟨e,c⟩)]
   dsimp only
   have e2:Sp.rst (Sp.ublk s.1 s.2.1 i (Sp.prt w i) s.2.2.1)=(((Sp.blr s.1 s.2.1 (Sp.prt w i) s.2.2.1).1,s.2.1.2),(Sp.blr s.1 s.2.1 (Sp.prt w i) s.2.2.1).2.1,(Sp.blr s.1 s.2.1 (Sp.prt w i) s.2.2.1).2.2.1,()):=by rw[hub];rfl
   refine Eq.trans ?_ h1
   rw[e2]
  ·rw[Sp.lpr,if_pos (show s.2.2.2.1=0/\32*i<w.length from⟨e,c⟩)]
   exact h2
theorem fin_r{hb:Nat}{h:HdrT}{w:List Int}{i:Nat}{s:OutT}(V:IV hb h w i s)(e:s.2.2.2.1=0)(hi:w.length<=32*i):∃r:StaT,(p_19 s.1 s.2.1 s.2.2.1=true/\v_19 s.1 s.2.1 s.2.2.1=(Sp.zD,r))/\(p_22 (Sp.rst s) s.1.2.1=true/\v_22 (Sp.rst s) s.1.2.1=(r,())) /\
 (r=(Sp.zB,(0,0,()),r.2.2.1,())/\r.2.2.1≠0/\r.2.2.1≠18\/(r.2.2.1=0\/r.2.2.1=18))/\EQ r.1:=by
 obtain⟨_,r0,f0,f1,f2⟩:=fin_ex V e hi
 obtain⟨hv,hf⟩:=iv_fit V e
 obtain⟨⟨k,hk,hd⟩,hb1,hb2,hw,hp⟩:=V.ok e
 rw[if_neg (by omega),if_neg (by omega)]at hd
 have d1:s.1.1=2:=by rw[hd]
 have d2:s.1.2.1=k:=by rw[hd]
 have d4:s.1.2.2.2.1=h:=by rw[hd]
 obtain⟨p0,p1⟩:=pok_b hp
 obtain⟨r,a,ra,hr⟩:=act_both hb1 hw k p0 p1
 have key:F_19 s.1 s.2.1 s.2.2.1=some (Sp.zD,r):=by
  have f:=fits_pv (d:=s.1) (by rw[d4];exact V.hh) s.2.1 s.2.2.1
  unfold F_19
  rw[f.1,f.2,gd_tt,if_pos hf,cond_nff rfl,cond_nff d1,d2,a.1,a.2,gd_tt]
  try dsimp only
  rcases hr with⟨h1,h2,h3⟩|⟨h1|h1,_⟩
  ·rw[cond_eff h2,cond_eff h3,(fail_pv _).1,(fail_pv _).2,gd_tt,h1]
   rfl
  ·rw[cond_ett h1]
   have:r=(r.1,r.2.1,0,()):=by rw[<-h1]
   rw[this]
   rfl
  ·rw[cond_eff (by omega),cond_ett h1]
   have:r=(r.1,r.2.1,18,()):=by rw[<-h1]
   rw[this]
   rfl
 have kf:=pv_19 _ _ _ key
 have er:(Sp.zD,r)=r0:=kf.2.symm.trans f0.2
 refine⟨r,kf,?_,?_,by rw[show r=r0.2 by rw[<-er]];exact f2⟩
 ·refine pv_22 _ _ ?_
  unfold F_22
  rw[d2,show(Sp.rst s).1=s.2.1 from rfl,show(Sp.rst s).2.1=s.2.2.1 from rfl,ra.1,ra.2,gd_tt]
 ·rcases hr with hr|hr
  ·exact .inl hr
  ·exact .inr hr.1
theorem lpr_e{hb:Nat}{h:HdrT}{w:List Int}:∀(n i:Nat)(s:OutT),IV hb h w i s->s.2.2.2.1=0\/s.2.2.2.1=18->(Sp.lpr w n i s).2.2.2.1=0\/(Sp.lpr w n i s).2.2.2.1=18
 |0,_,_,_,z=>z
 |n+1,i,s,V,z=>by
  rw[Sp.lpr]
  split
  ·rename_i c
   obtain⟨e,c⟩:=c
   obtain⟨d1,d3,hpl,hub⟩:=iv_blk V e c
   obtain⟨hv,hf⟩:=iv_fit V e
   obtain⟨_,_,_,hw,_⟩:=V.ok e
   refine lpr_e n (i+1) _ (iv_step V e c) ?_
   rw[hub]
   exact(blr_g (Sp.prt w i) hf d1 hw).e
  ·exact z
theorem rins_pv{b:BayT}{h:HdrT}{w:List Int}{p:PwT}(hb:Sp.bvb b=true)(hw:W32 b)(hh:H32 h)(hby:bytes h.2.2.1)(hl:(w.length:Int)=h.2.1)(l1:w.length<=100)(hp:Sp.pok p=true)(rg:Sp.rgt h ((Sp.hlf b:Int)-564)=true)(be:Sp.bge Sp.zD b h p=0) :
 ∃v:StaT,(p_26 (b,p,0,()) h w=true/\v_26 (b,p,0,()) h w=(v,()))/\v=(if(Sp.all b h w p).2.2.2.1=0 then(v_19 (Sp.all b h w p).1 (Sp.all b h w p).2.1 (Sp.all b h w p).2.2.1).2 else(Sp.all b h w p).2)/\EQ v.1/\(v=(Sp.zB,(0,0,()),v.2.2.1,())/\v.2.2.1≠0/\v.2.2.1≠18\/(v.2.2.1=0\/v.2.2.1=18)):=by
 obtain⟨p0,p1⟩:=pok_b hp
 have bl:=bay_len hb
 have B:BB b:=⟨bv_of hb,hb⟩
 obtain⟨_,_,shp⟩:=rgt_1484 (h:=h) (by omega) rg
 have hwn:Sp.wrn b (Sp.tg b)=false:=by
  cases hc:Sp.wrn b (Sp.tg b)
  ·rfl
  ·exfalso
   unfold Sp.bge at be
   rw[if_pos ⟨vdl_z,hb,hp,rg⟩,if_pos zdl_z,if_pos hc]at be
   split at be
   ·exact absurd be (by decide)
   ·split at be
    ·exact absurd be (by decide)
    ·exact absurd be (by decide)
 have V:=iv_init hb hw hp hh hl l1 rg
 have bgsE:(Sp.bgs b h p (Sp.tg b)).2.2.1=0\/(Sp.bgs b h p (Sp.tg b)).2.2.1=18:=(bgs_g (h:=h) hb (tg_le b) hw p0 p1 hwn).2.e
 have rb:=rbeg_pv hb hw hh shp hby p0 p1 hwn
 have tp:=rtg_pv B hw
 have bg:Sp.bgn Sp.zD b h p=Sp.bgo b h p (Sp.tg b):=by unfold Sp.bgn;rw[if_pos be]
 have r0:Sp.rst (Sp.bgn Sp.zD b h p)=(((Sp.bgs b h p (Sp.tg b)).1,b.2),(Sp.bgs b h p (Sp.tg b)).2.1,(Sp.bgs b h p (Sp.tg b)).2.2.1,()):=by rw[bg];rfl
 obtain⟨d',h1,h2⟩:=rl_l (0,()) (replicate 32 0,()) ((0,0,()),0,()) [] [] 4 4611686018427387904 0 _ (1,(Sp.tg b:Int),0,h,()) V (fun z=>by
  rw[bg]at z⊢
  unfold Sp.bgo at z⊢
  dsimp only at z⊢
  rw[if_pos z]) (by omega) (by omega)
 obtain⟨j,V2,hj⟩:=lpr_iv 4 0 _ V (by omega)
 have V2:IV (Sp.hlf b) h w j (Sp.all b h w p):=V2
 have h1:L_26_0 4611686018427387904 w (Sp.rst (Sp.bgn Sp.zD b h p)) (0,()) (replicate 32 0,()) ((0,0,()),0,()) [] [] (1,(Sp.tg b:Int),0,h,())=some (.e0 (Sp.rst (Sp.all b h w p)) (0,()) (replicate 32 0,()) ((0,0,()),0,()) [] [] d'):=h1
 have h2:(Sp.all b h w p).2.2.2.1=0->d'=(Sp.all b h w p).1:=h2
 rw[r0]at h1
 have key:∃v:StaT,F_26 (b,p,0,()) h w=some (v,())/\v=(if(Sp.all b h w p).2.2.2.1=0 then(v_19 (Sp.all b h w p).1 (Sp.all b h w p).2.1 (Sp.all b h w p).2.2.1).2 else(Sp.all b h w p).2)/\EQ v.1/\(v=(Sp.zB,(0,0,()),v.2.2.1,())/\v.2.2.1≠0/\v.2.2.1≠18\/(v.2.2.1=0\/v.2.2.1=18)):=by
  unfold F_26
  dsimp only
  rw[tp.1,tp.2,gd_tt,rb.1,rb.2,gd_tt]
  dsimp only
  rw[h1]
  unfold B_26_0
  dsimp only
  unfold J_26_1 S_26_1
  rw[show(Sp.rst (Sp.all b h w p)).2.2.1=(Sp.all b h w p).2.2.2.1 from rfl]
  by_cases e:(Sp.all b h w p).2.2.2.1=0
  ·obtain⟨r,f,rf,hr,eq⟩:=fin_r V2 e (hj e)
   rw[cond_nff e,h2 e,rf.1,gd_tt,if_pos e,f.2]
   unfold B_26_1
   dsimp only
   rw[rf.2]
   exact⟨r,rfl,rfl,eq,hr⟩
  ·rw[cond_ntt e,if_neg e]
   refine⟨_,rfl,rfl,V2.eq,.inr ?_⟩
   have z:=lpr_e (w:=w) 4 0 _ V (by rw[bg];exact bgsE)
   exact z
 obtain⟨v,k1,k2⟩:=key
 exact⟨v,pv_26 _ _ _ k1,k2⟩
theorem peq(p:PwT):Ty.beq (.pair (.int .i64) (.pair (.int .u32) .unit)) p p=true:=by
 show((p.1==p.1)&&((p.2.1==p.2.1)&&true))=true
 simp
theorem ins_ne{b:BayT}{h:HdrT}{w:List Int}{p:PwT}(hh:H32 h)(hl:¬(w.length:Int)=h.2.1):p_23 b h w p=true/\v_23 b h w p=(Sp.fl 1).2:=by
 refine pv_23 b h w p ?_
 unfold F_23
 rw[(val_pv b).1,(val_pv b).2,gd_tt,(upow_pv p).1,(upow_pv p).2,gd_tt]
 dsimp only
 cases hb:Sp.bvb b
 ·rfl
 rw[Bool.not_true,cond_f]
 cases hp:Sp.pok p
 ·rfl
 have bl:=bay_len hb
 rw[Bool.not_true,cond_f,(size_pv hb).1,(size_pv hb).2,gd_tt]
 dsimp only
 rw[wi64 (n:=(Sp.hlf b:Int)-564) (by omega) (by omega)]
 have r:=pv_40 _ _ (right_ok hh ((Sp.hlf b:Int)-564))
 rw[r.1,r.2,gd_tt]
 dsimp only
 cases hr:Sp.rgt h ((Sp.hlf b:Int)-564)
 ·rfl
 rw[Bool.not_true,cond_f,cond_ntt hl]
 rfl
theorem ibad{e:Int}(he:e≠0)(b:BayT)(h:HdrT)(w:List Int)(p:PwT):J_5_0 e e b h w p Sp.zB (0,0,())=some (.e0 (0,0,())):=by
 have z:p_28 Sp.zB (([],[],0,()),replicate 32 0,())=true/\v_28 Sp.zB (([],[],0,()),replicate 32 0,())=(true,()):=zsame_pv
 have y:p_38 (0,0,0,(0,0,replicate 32 0,(0,[],[],()),()),())=true/\v_38 (0,0,0,(0,0,replicate 32 0,(0,[],[],()),()),())=(true,()):=zzero_pv
 unfold J_5_0 S_5_0
 rw[cond_ntt he,cond_ett rfl,y.1,y.2,gd_tt,cond_t,z.1,z.2,gd_tt,cond_t]
theorem i1{v:StaT}(eq:EQ v.1)(b:BayT)(h:HdrT)(w:List Int)(p:PwT):J_5_15_1_0 v.2.2.1 b h w p v.1 v.2.1 0 0 0 0 0 (replicate 32 0) 0 [] [] v.1 v.2.1 v 0 0 0 0 0 (replicate 32 0) 0 [] []=some (.e0 b h w p v.1 v.2.1 v.2.1 v):=by
 have hz:p_59 (0,0,0,(0,0,replicate 32 0,(0,[],[],()),()),()) (0,0,0,(0,0,replicate 32 0,(0,[],[],()),()),())=true/\v_59 (0,0,0,(0,0,replicate 32 0,(0,[],[],()),()),()) (0,0,0,(0,0,replicate 32 0,(0,[],[],()),()),())=(true,()):=dsame_pv Sp.zD (by decide) (by decide)
 unfold J_5_15_1_0 S_5_15_1_0
 rw[cond_ett rfl,hz.1,hz.2,gd_tt,cond_t,eq.1,eq.2,gd_tt,cond_t]
theorem i0{v:StaT}(eq:EQ v.1)(b:BayT)(h:HdrT)(w:List Int)(p:PwT):J_5_15_0_0 v.2.2.1 b h w p v.1 v.2.1 0 0 0 0 0 (replicate 32 0) 0 [] [] v.1 v.2.1 v 0 0 0 0 0 (replicate 32 0) 0 [] []=some (.e0 b h w p v.1 v.2.1 v.2.1 v):=by
 unfold J_5_15_0_0 S_5_15_0_0
 rw[i1 eq]
 by_cases e:v.2.2.1=0
 ·rw[cond_nff e];rfl
 ·rw[cond_ntt e];rfl
theorem iok{v:StaT}(eq:EQ v.1){b:BayT}{h:HdrT}{w:List Int}{p:PwT}(r:p_26 (b,p,0,()) h w=true/\v_26 (b,p,0,()) h w=(v,()))(hv:v=(Sp.zB,(0,0,()),v.2.2.1,())/\v.2.2.1≠0/\v.2.2.1≠18\/(v.2.2.1=0\/v.2.2.1=18)) :
 B_5_0 (J_5_0 v.2.2.1 0 b h w p v.1 v.2.1) (fun y=>some (Ty.beq (.pair (.int .i64) (.pair (.int .u32) .unit)) y (0,0,()))) (some false) (fun y z=>some (Ty.beq (.pair (.int .i64) (.pair (.int .u32) .unit)) y z.2.1))=some true:=by
 have i:=i0 eq b h w p
 unfold J_5_0 S_5_0
 rw[cond_nff rfl,r.1,r.2,gd_tt]
 dsimp only
 rcases hv with⟨h1,h2,h3⟩|h1|h1
 ·have z:p_28 Sp.zB (([],[],0,()),replicate 32 0,())=true/\v_28 Sp.zB (([],[],0,()),replicate 32 0,())=(true,()):=zsame_pv
  have y:p_38 (0,0,0,(0,0,replicate 32 0,(0,[],[],()),()),())=true/\v_38 (0,0,0,(0,0,replicate 32 0,(0,[],[],()),()),())=(true,()):=zzero_pv
  have v1:v.1=Sp.zB:=by rw[h1]
  have v2:v.2.1=(0,0,()):=by rw[h1]
  rw[cond_ntt h2,cond_ntt h3,cond_ett rfl,y.1,y.2,gd_tt,cond_t,v1,z.1,z.2,gd_tt,cond_t,v2]
  rfl
 ·rw[cond_nff h1,i]
  show some (Ty.beq (.pair (.int .i64) (.pair (.int .u32) .unit)) v.2.1 v.2.1)=some true
  rw[peq]
 ·rw[cond_ntt (by omega),cond_nff h1,i]
  show some (Ty.beq (.pair (.int .i64) (.pair (.int .u32) .unit)) v.2.1 v.2.1)=some true
  rw[peq]
theorem plain_5(b:BayT)(h:HdrT)(w:List Int)(p:PwT)(wb:wfD (.pair (.pair (.slice (.int .u32)) (.pair (.slice (.int .i64)) (.pair (.int .i64) .unit))) (.pair (.arr 32 (.int .u8)) .unit)) b)(wh:wfD (.pair (.int .i64) (.pair (.int .i64) (.pair (.arr 32 (.int .u8)) (.pair (.pair (.int .i64) (.pair (.slice (.arr 32 (.int .u8))) (.pair (.slice (.arr 32 (.int .u8))) .unit))) .unit)))) h)
 (_:wfD (.slice (.int .u32)) w) (_:wfD (.pair (.int .i64) (.pair (.int .u32) .unit)) p):F_5 b h w p=some true:=by
 have o:=odd_pv h
 unfold F_5
 rw[aw_pv.1,aw_pv.2,gd_tt,(great_pv b).1,(great_pv b).2,gd_tt,o.1,o.2,gd_tt]
 dsimp only
 rw[show(!true)=false from rfl,cond_f]
 cases decide ((b.1.2.1.length:Int)>20)&&decide ((b.1.2.1.length:Int)<=64)
 rotate_left
 ·rfl
 cases decide ((h.2.2.2.1.2.1.length:Int)>100)||decide ((h.2.2.2.1.2.2.1.length:Int)>100)
 rotate_left
 ·rfl
 rw[cond_f,cond_f]
 by_cases hw:(w.length:Int)>100
 ·rw[cond_dtt hw]
 have hh:=h32 wh
 have hwb:W32 b:=fun x hx=>u32_b (wb.1.1 x hx)
 obtain⟨_,hby⟩:=wf_bytes wh.2.2.1
 have rv:=rval_pv b
 have rp:=rpow_pv p
 have bad:∀v:StaT,v=(Sp.fl 1).2->B_5_0 (J_5_0 v.2.2.1 1 b h w p v.1 v.2.1) (fun y=>some (Ty.beq (.pair (.int .i64) (.pair (.int .u32) .unit)) y (0,0,()))) (some false) (fun y z=>some (Ty.beq (.pair (.int .i64) (.pair (.int .u32) .unit)) y z.2.1))=some true:=by
  rintro v rfl
  have:=ibad (e:=1) (by decide) b h w p
  exact(congrArg (fun z=>B_5_0 z _ _ _) this).trans rfl
 by_cases hl:(w.length:Int)=h.2.1
 rotate_left
 ·have n:=ins_ne (b:=b) (w:=w) (p:=p) hh hl
  rw[cond_dff hw,n.1,n.2,gd_tt,rv.1,rv.2,gd_tt,rp.1,rp.2,gd_tt]
  dsimp only
  cases hb:Sp.bvb b
  ·exact bad _ rfl
  rw[cond_t]
  cases decide (0<=p.1)&&decide (p.1<=1099511627776)
  ·exact bad _ rfl
  have rf:=rfit_pv hb h
  rw[cond_t,rf.1,rf.2,gd_tt]
  dsimp only
  cases Sp.rgt h ((Sp.hlf b:Int)-564)
  ·exact bad _ rfl
  rw[cond_t,cond_eff hl]
  exact bad _ rfl
 obtain⟨v,hv,hi⟩:=ins_pv (p:=p) hh hwb hby hl (by omega)
 have hpe:Sp.pok p=(decide (0<=p.1)&&decide (p.1<=1099511627776)):=rfl
 rw[cond_dff hw,hv.1,hv.2,gd_tt,rv.1,rv.2,gd_tt,rp.1,rp.2,gd_tt,<-hpe]
 dsimp only
 rcases hi with⟨c,rfl⟩|⟨⟨hb,hp,hr⟩,rfl⟩
 ·cases hb:Sp.bvb b
  ·exact bad _ rfl
  rw[cond_t]
  cases hp:Sp.pok p
  ·exact bad _ rfl
  have rf:=rfit_pv hb h
  rw[cond_t,rf.1,rf.2,gd_tt]
  dsimp only
  cases hr:Sp.rgt h ((Sp.hlf b:Int)-564)
  ·exact bad _ rfl
  exact absurd ⟨hb,hp,hr⟩ c
 ·have rf:=rfit_pv hb h
  have be:=bge_pv (d:=Sp.zD) (h:=h) vdl_z hb hp hwb hby
  rw[hb,cond_t,hp,cond_t,rf.1,rf.2,gd_tt,hr,cond_t,cond_ett hl,show p_14 (0,0,0,(0,0,replicate 32 0,(0,[],[],()),()),()) b h=true from be.1,show v_14 (0,0,0,(0,0,replicate 32 0,(0,[],[],()),()),()) b h=_ from be.2,gd_tt]
  dsimp only
  by_cases e:Sp.bge Sp.zD b h p=0
  ·obtain⟨v,r,rv2,eq,hc⟩:=rins_pv hb hwb hh hby hl (by omega) hp hr e
   rw[<-rv2,e]
   exact iok eq r hc
  ·have ea:Sp.all b h w p=Sp.fl (Sp.bge Sp.zD b h p):=by
    unfold Sp.all
    have:Sp.bgn Sp.zD b h p=Sp.fl (Sp.bge Sp.zD b h p):=by unfold Sp.bgn;rw[if_neg e]
    rw[this,Sp.lpr,if_neg (fun z=>e z.1)]
   rw[ea,if_neg (show ¬(Sp.fl (Sp.bge Sp.zD b h p)).2.2.2.1=0 from e)]
   have:=ibad e b h w p
   exact(congrArg (fun z=>B_5_0 z _ _ _) this).trans rfl
end Go.Ev
