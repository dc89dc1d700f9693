/- Helpers: functions of the program as Lean functions, and what they compute. No condition. -/
import Derived.Test.YtnmiibgmjfiknaaGreatG4P4
import Derived.Test.YtnmiibgmjfiknaaGreatG4P1
import Derived.Test.YtnmiibgmjfiknaaGreatG4P2
import Derived.Test.YtnmiibgmjfiknaaGreatG4P3
set_option maxRecDepth 10000
set_option linter.unusedVariables false
set_option linter.unusedSimpArgs false
open Go.IntKind (wrap i64 i32 i16 i8 u64 u32 u16 u8)
open List (getD length take drop replicate)
open Int (toNat)
open Go.Ev.Sp
set_option linter.unusedSimpArgs false
set_option linter.unusedVariables false
namespace Go.Ev
open Go
set_option maxRecDepth 100000
set_option maxHeartbeats 4000000
namespace Sp
noncomputable def sw(a b:List Int):Bool:=bif(a.length:Int)!=(b.length:Int)then false else(fnd (fun j=>a.getD j 0 !=b.getD j 0) a.length 0).isNone
noncomputable def dat(F:FsT)(key:Int):List Int:=if key=254 then [wrap .u32 F.2.2.1]else if sto (F.2.1.getD key.toNat Zd0)=true then [wrap .u32 (F.1.getD key.toNat Zd1).1]++wpk (F.2.1.getD key.toNat Zd0)else []
noncomputable def utd(m:MeT)(key:Int)(d:List Int):Bool:=bif(rdk m key).2.1 !=0 then(bif(d.length:Int)==0 then true else bif key==254 then d.getD 0 0==0 else false)else sw (rdk m key).1 d
end Sp
theorem good_of{c:CfT}{f:FaT}{cy:Int}(hc:Sp.cfg c=true)(h:Sp.rgt c f cy=true)(h1:cy<=1073741824):Sp.good f=true:=by
 unfold Sp.rgt Sp.rngs Sp.frq at h
 unfold Sp.cfg at hc
 simp only[Bool.and_eq_true,inr_iff]at h hc
 obtain⟨⟨r1,r2,r3,r4,r5,r6⟩,⟨q1,q2⟩,_⟩:=h
 have l8:f.2.2.2.2.2.1.length<=8:=by
  simp only[Bool.or_eq_true,beq_iff_eq]at q1
  rcases q1 with z|z<;>omega
 refine good_iff.2 ⟨r1,r3,⟨r4.1,by omega⟩,r5,⟨r6.1,by omega⟩,l8,fun x hx=> ?_⟩
 unfold Sp.vals at q2
 rw[List.all_eq_true]at q2
 obtain⟨j,hj,rfl⟩:=List.mem_iff_getElem.1 hx
 have:=q2 j (List.mem_range.2 hj)
 rw[getD_at 0 hj]at this
 exact inr_iff.1 this
theorem vf_d{F:FsT}(h:Sp.vf F=true):F.1.length<=64/\Sp.cfgs F.1=true/\F.2.1.length=F.1.length/\0<=F.2.2.1/\F.2.2.1<=1073741824/\Sp.rgts F=true:=by
 unfold Sp.vf at h
 simp only[Bool.and_eq_true,inr_iff,decide_eq_true_eq,beq_iff_eq]at h
 obtain⟨a,b,c,d,e,f,g⟩:=h
 exact⟨a,b,by omega,e.1,e.2,g⟩
theorem vf_good{F:FsT}(h:Sp.vf F=true){j:Nat}(hj:j<F.2.1.length):Sp.good (F.2.1.getD j Zd0)=true:=by
 obtain⟨a,b,c,d,e,g⟩:=vf_d h
 unfold Sp.rgts at g
 rw[List.all_eq_true]at g
 exact good_of (cfgs_at b (by omega)) (g j (List.mem_range.2 hj)) e
theorem wu32_b(n:Int):0<=wrap .u32 n/\wrap .u32 n<4294967296:=by
 rw[u32_mod];omega
theorem flat_w:∀ {l:List Int},(∀x∈l,-1099511627776<=x/\x<=1099511627776)->∀x∈Sp.flat l,0<=x/\x<4294967296
 |[],_,x,hx=>absurd hx (List.not_mem_nil)
 |a::l,h,x,hx=>by
  have ha:=h a (List.mem_cons_self ..)
  rw[Sp.flat]at hx
  simp only[List.mem_cons]at hx
  rcases hx with rfl|rfl|hx
  ·constructor<;>omega
  ·constructor<;>omega
  ·exact flat_w (fun y hy=>h y (List.mem_cons_of_mem _ hy)) x hx
theorem wpk_w{f:FaT}(h:Sp.good f=true):W32l (Sp.wpk f)/\(Sp.wpk f).length=3+2*f.2.2.2.2.2.1.length:=by
 obtain⟨g1,g2,g3,g4,g5,g6,g7⟩:=good_iff.1 h
 have s:=st_22 g1.1 g1.2
 have fl:=pfl_len f.2.2.2.2.2.1
 unfold Sp.wpk
 refine⟨fun x hx=> ?_,by rw[List.length_append,fl];rfl⟩
 rcases List.mem_append.1 hx with z|z
 ·unfold Sp.hdr at z
  simp only[List.mem_cons,List.not_mem_nil,or_false]at z
  rcases z with rfl|rfl|rfl
  ·constructor<;>omega
  ·constructor<;>omega
  ·constructor<;>omega
 ·exact flat_w g7 x z
theorem dat_b{F:FsT}(hv:Sp.vf F=true){key:Int}(hk:key=254\/0<=key/\key<(F.2.1.length:Int)):W32l (Sp.dat F key)/\(Sp.dat F key).length<=20:=by
 unfold Sp.dat
 split
 ·exact⟨fun x hx=>by rw[List.mem_singleton.1 hx];exact wu32_b _,by show 1<=20;decide⟩
 ·split
  ·rename_i h1 h2
   have g:=vf_good hv (j:=key.toNat) (by omega)
   have w:=wpk_w g
   have l8:=(good_iff.1 g).2.2.2.2.2.1
   refine⟨fun x hx=> ?_,by rw[List.length_append,w.2];simp only[List.length_cons,List.length_nil];omega⟩
   rcases List.mem_append.1 hx with z|z
   ·rw[List.mem_singleton.1 z];exact wu32_b _
   ·exact w.1 x z
  ·exact⟨fun x hx=>absurd hx (List.not_mem_nil),by decide⟩
theorem sw_pv(a b:List Int)(ha:a.length<=1000000)(hb:b.length<=1000000):p_35 a b=true/\v_35 a b=(Sp.sw a b,()):=by
 refine pv_35 a b ?_
 unfold F_35 Sp.sw
 by_cases c:(a.length:Int)=(b.length:Int)
 rotate_left
 ·rw[cond_ntt c,cond_ntt c]
 rw[cond_nff c,cond_nff c]
 have hf:=find0 (fun q i=>L_35_0 q a b a.length i) (n:=a.length) (fun j=>a.getD j 0 !=b.getD j 0) (ex:=fun _=>some .e0) (e1:=some .e1) (by omega) (fun q j hj=>by
  show L_35_0 (q+1) a b a.length (j:Int)=bif a.getD j 0 !=b.getD j 0 then some .e0 else L_35_0 q a b a.length ((j+1:Nat):Int)
  rw[L_35_0,S_35_0,cond_dtt (by omega),gd_inB (by omega) (by omega),Int.toNat_natCast,gd_inB (by omega) (by omega),wi64 (by omega) (by omega)]
  push_cast
  rfl) (fun q=>by
  show L_35_0 (q+1) a b a.length (a.length:Int)=_
  rw[L_35_0,S_35_0,cond_dff (by omega)])
 refine(congrArg (fun z=>B_35_0 z _ _) hf).trans ?_
 cases fnd (fun j=>a.getD j 0 !=b.getD j 0) a.length 0<;>rfl
theorem rsw_pv(a b:List Int)(ha:a.length<=1000000)(hb:b.length<=1000000):p_63 a b=true/\v_63 a b=(Sp.sw a b,()):=by
 refine pv_63 a b ?_
 unfold F_63 Sp.sw
 by_cases c:(a.length:Int)=(b.length:Int)
 rotate_left
 ·rw[cond_ntt c,cond_ntt c]
 rw[cond_nff c,cond_nff c]
 have hf:=find0 (fun q i=>L_63_0 q a b i) (n:=a.length) (fun j=>a.getD j 0 !=b.getD j 0) (ex:=fun _=>some .e0) (e1:=some .e1) (by omega) (fun q j hj=>by
  show L_63_0 (q+1) a b (j:Int)=bif a.getD j 0 !=b.getD j 0 then some .e0 else L_63_0 q a b ((j+1:Nat):Int)
  rw[L_63_0,S_63_0,cond_dtt (by omega),gd_inB (by omega) (by omega),Int.toNat_natCast,gd_inB (by omega) (by omega),wi64 (by omega) (by omega)]
  push_cast
  rfl) (fun q=>by
  show L_63_0 (q+1) a b (a.length:Int)=_
  rw[L_63_0,S_63_0,cond_dff (by omega)])
 refine(congrArg (fun z=>B_63_0 z _ _) hf).trans ?_
 cases fnd (fun j=>a.getD j 0 !=b.getD j 0) a.length 0<;>rfl
theorem utd_pv{m:MeT}(hw:W32f m.1){key:Int}{d:List Int}(hd:d.length<=1000):p_60 m key d=true/\v_60 m key d=(Sp.utd m key d,()):=by
 have r:=rdk_pv hw key
 have b:=rdk_b hw key
 have s:=sw_pv (Sp.rdk m key).1 d (by omega) (by omega)
 refine pv_60 m key d ?_
 unfold F_60 Sp.utd
 rw[r.1,r.2,gd_tt]
 by_cases e:(Sp.rdk m key).2.1=0
 ·rw[cond_nff e,cond_nff e,s.1,s.2,gd_tt]
 ·rw[cond_ntt e,cond_ntt e]
  by_cases l:(d.length:Int)=0
  ·rw[cond_ett l,cond_ett l]
  ·rw[cond_eff l,cond_eff l]
   by_cases k:key=254
   ·rw[cond_ett k,cond_ett k,gd_inB (by omega) (by omega)]
   ·rw[cond_eff k,cond_eff k]
theorem rent_d{F:FsT}(hv:Sp.vf F=true){key:Int}(hk:key=254\/0<=key/\key<(F.2.1.length:Int)):p_66 F key=true/\v_66 F key=(Sp.dat F key,()):=by
 refine pv_66 F key ?_
 unfold F_66 Sp.dat
 by_cases k:key=254
 ·rw[cond_ett k,if_pos k]
 rw[cond_eff k,if_neg k]
 have d:=vf_d hv
 have kn:=rkno_pv (F.2.1.getD key.toNat Zd0)
 have g:=vf_good hv (j:=key.toNat) (by omega)
 have pk:=rpack_pv g
 have pw:=wpk_w g
 have l8:=(good_iff.1 g).2.2.2.2.2.1
 rw[gd_inB (by omega) (by omega),kn.1,kn.2,gd_tt]
 cases hs:Sp.sto (F.2.1.getD key.toNat Zd0)
 ·rw[Bool.not_false,cond_t,if_neg Bool.false_ne_true]
 ·rw[Bool.not_true,cond_f,if_pos rfl,gd_inB (by omega) (by omega),gd_inB (by omega) (by omega),pk.1,pk.2,gd_tt,gd_room (by dsimp only;omega) (by dsimp only;omega)]
theorem fresh_pv{m:MeT}(hw:W32f m.1)(hm:Sp.mvl m=true){F:FsT}(hv:Sp.vf F=true){key:Int}(hk:key=254\/0<=key/\key<(F.2.1.length:Int)):p_64 m F key=true/\v_64 m F key=(Sp.utd m key (Sp.dat F key),()):=by
 have d:=vf_d hv
 have en:=rent_d hv hk
 have db:=dat_b hv hk
 have rb:=rdk_b hw key
 have et:=rety_pv hw hm (key:=key) (by omega) (by omega)
 have s:=rsw_pv (Sp.rdk m key).1 (Sp.dat F key) (by omega) (by omega)
 refine pv_64 m F key ?_
 unfold F_64 Sp.utd
 rw[et.1,et.2,gd_tt,en.1,en.2,gd_tt]
 dsimp only
 by_cases e:(Sp.rdk m key).2.1=0
 ·rw[cond_nff e,beq_iff_eq.2 e,Bool.not_true,cond_f,s.1,s.2,gd_tt]
 ·rw[cond_ntt e,beq_eq_false_iff_ne.2 e,Bool.not_false,cond_t]
  by_cases l:((Sp.dat F key).length:Int)=0
  ·rw[cond_ett l,cond_ett l]
  ·rw[cond_eff l,cond_eff l]
   by_cases k:key=254
   ·rw[cond_ett k,cond_ett k]
    unfold Sp.dat
    rw[if_pos k]
    show some (F.2.2.1==0,())=some (wrap .u32 F.2.2.1==0,())
    rw[wu32' (by omega) (by omega)]
   ·rw[cond_eff k,cond_eff k]
set_option maxRecDepth 100000
set_option maxHeartbeats 4000000
namespace Sp
noncomputable def svl(F:FsT):Nat->Nat->MeT->PwT->OuM
 |0,_,m,p=>(m,p,0,())
 |d+1,i,m,p=>if utd m i (dat F i)=true then svl F d (i+1) m p else if(wrv m i (dat F i) p).2.2.1=0 then svl F d (i+1) (wrv m i (dat F i) p).1 (wrv m i (dat F i) p).2.1 else wrv m i (dat F i) p
noncomputable def svw(F:FsT)(m:MeT)(p:PwT):OuM:=if utd m 254 (dat F 254)=true then svl F F.2.1.length 0 m p else if(wrv m 254 (dat F 254) p).2.2.1=0 then svl F F.2.1.length 0 (wrv m 254 (dat F 254) p).1 (wrv m 254 (dat F 254) p).2.1 else wrv m 254 (dat F 254) p
noncomputable def svv(m:MeT)(F:FsT)(p:PwT):OuM:=if mvl m=true/\vf F=true/\pok p=true then svw F m p else(zM,(0,0,()),1,())
end Sp
structure MG(m:MeT)(p:PwT):Prop where
 w:W32f m.1
 v:Sp.mvl m=true
 p0:0<=p.1
 p1:p.1<=1099511627776
theorem MG.pok{m:MeT}{p:PwT}(g:MG m p):Sp.pok p=true:=by
 unfold Sp.pok
 rw[decide_eq_true g.p0,decide_eq_true g.p1];rfl
theorem wrv_r{m:MeT}{p:PwT}(g:MG m p){key:Int}{d:List Int}(k0:0<=key)(k1:key<=254)(k2:d.length<=24)(hd:W32l d):((Sp.wrs m key d).2.1≠0->Sp.wrv m key d p=(Sp.zM,(0,0,()),(Sp.wrs m key d).2.1,()))/\((Sp.wrs m key d).2.1=0->Sp.wrv m key d p=Sp.rdo m (Sp.wrs m key d).1 p/\SG m.1 (Sp.dol (Sp.wrs m key d).1 (m.1,p,0,()))):=by
 unfold Sp.wrv
 rw[if_pos ⟨g.v,g.pok⟩,if_pos ⟨k0,k1,k2⟩]
 refine⟨fun c=>by rw[if_neg c],fun c=> ?_⟩
 have s:=(wrs_sv g.w g.v c).2 p g.p0 g.p1
 rw[if_pos c]
 refine⟨?_,s⟩
 unfold Sp.dov Sp.rdo
 rw[if_pos s.e]
theorem wrv_go{m:MeT}{p:PwT}(g:MG m p){key:Int}{d:List Int}(k0:0<=key)(k1:key<=254)(k2:d.length<=24)(hd:W32l d)(e:(Sp.wrv m key d p).2.2.1=0):MG (Sp.wrv m key d p).1 (Sp.wrv m key d p).2.1:=by
 have r:=wrv_r g k0 k1 k2 hd
 by_cases c:(Sp.wrs m key d).2.1=0
 rotate_left
 ·rw[r.1 c]at e;exact absurd e c
 rw[(r.2 c).1]at e⊢
 have o:=wr_ok g.w g.v k0 k1 k2 hd g.p0 g.p1 c _ rfl e
 exact⟨o.1.w,o.2,o.1.p0,o.1.p1⟩
theorem wrv_len{m:MeT}{p:PwT}(g:MG m p){key:Int}{d:List Int}(k0:0<=key)(k1:key<=254)(k2:d.length<=24)(hd:W32l d):(Sp.wrv m key d p).1.1.1.length<=1000000/\(Sp.wrv m key d p).1.1.2.1.length<=1000000:=by
 have r:=wrv_r g k0 k1 k2 hd
 by_cases c:(Sp.wrs m key d).2.1=0
 rotate_left
 ·rw[r.1 c];exact⟨Nat.zero_le _,Nat.zero_le _⟩
 rw[(r.2 c).1]
 have s:=(r.2 c).2
 have v:=fv_iff.1 s.v
 unfold Sp.rdo
 dsimp only
 omega
theorem mg_len{m:MeT}{p:PwT}(g:MG m p):m.1.1.length<=1000000/\m.1.2.1.length<=1000000:=by
 have v:=fv_iff.1 (mvl_d g.v).1
 omega
theorem svl_len{F:FsT}(hv:Sp.vf F=true):∀(d i:Nat)(m:MeT)(p:PwT),MG m p->i+d=F.2.1.length->(Sp.svl F d i m p).1.1.1.length<=1000000/\(Sp.svl F d i m p).1.1.2.1.length<=1000000
 |0,_,_,_,g,_=>mg_len g
 |d+1,i,m,p,g,hi=>by
  have vd:=vf_d hv
  have db:=dat_b hv (key:=(i:Int)) (.inr ⟨by omega,by omega⟩)
  rw[Sp.svl]
  split
  ·exact svl_len hv d (i+1) m p g (by omega)
  split
  ·rename_i e
   exact svl_len hv d (i+1) _ _ (wrv_go g (by omega) (by omega) (by omega) db.1 e) (by omega)
  ·exact wrv_len g (by omega) (by omega) (by omega) db.1
theorem svw_len{F:FsT}(hv:Sp.vf F=true){m:MeT}{p:PwT}(g:MG m p):(Sp.svw F m p).1.1.1.length<=1000000/\(Sp.svw F m p).1.1.2.1.length<=1000000:=by
 have db:=dat_b hv (key:=254) (.inl rfl)
 unfold Sp.svw
 split
 ·exact svl_len hv _ 0 m p g (by omega)
 split
 ·rename_i e
  exact svl_len hv _ 0 _ _ (wrv_go g (by omega) (by omega) (by omega) db.1 e) (by omega)
 ·exact wrv_len g (by omega) (by omega) (by omega) db.1
theorem bj1{R:Type}{m:MeT}{p:PwT}(hw:W32f m.1){key:Int}{d:List Int}(k2:d.length<=24)(hd:W32l d)(p1 p2 p3 p5 p7 p8 p9 p10 p11 p12 p13 k0 k1 kk):(B_21_91_1_1 (J_21_91_1_1 key p1 p2 p3 m p5 p p7 p8 p9 p10 p11 p12 p13 d) k0 k1 kk:Option R)=if Sp.utd m key d=true then k0 key p1 p2 p3 m p5 p p7 p8 p9 p10 p11 p12 p13 d else if(Sp.wrv m key d p).2.2.1=0 then kk key p1 p2 p3 m p5 p p7 p8 p9 p10 p11 p12 p13 d else k1 key m p5 p p11 p12 p13 d:=by
 have u:=utd_pv hw (key:=key) (d:=d) (by omega)
 have w:=wrv_pv hw (key:=key) hd p
 unfold J_21_91_1_1 S_21_91_1_1
 rw[u.1,u.2,gd_tt]
 dsimp only
 cases Sp.utd m key d
 ·rw[cond_f,w.1,w.2,gd_tt,if_neg Bool.false_ne_true]
  by_cases e:(Sp.wrv m key d p).2.2.1=0
  ·rw[cond_nff e,if_pos e];rfl
  ·rw[cond_ntt e,if_neg e];rfl
 ·rfl
theorem bj0{R:Type}{w r:List Int}{l:Int×Unit}{fc p:PwT}(hw:W32f (w,r,l)){key:Int}{d:List Int}(k2:d.length<=24)(hd:W32l d)(p1 p2 p3 p6 p8 p9 p10 p11 p14 k0 k1 kk):(B_21_91_1_0 (J_21_91_1_0 key p1 p2 p3 l fc p6 p p8 p9 p10 p11 w r p14 d) k0 k1 kk:Option R)=if Sp.utd ((w,r,l),fc) key d=true then k0 key p1 p2 p3 l fc p6 p p8 p9 p10 p11 w r p14 d else if(Sp.wrv ((w,r,l),fc) key d p).2.2.1=0 then kk key p1 p2 p3 l fc p6 p p8 p9 p10 p11 w r p14 d else k1 key l fc p6 p w r p14 d:=by
 have u:=utd_pv (m:=((w,r,l),fc)) hw (key:=key) (d:=d) (by omega)
 have wv:=wrv_pv (m:=((w,r,l),fc)) hw (key:=key) hd p
 unfold J_21_91_1_0 S_21_91_1_0
 rw[u.1,u.2,gd_tt]
 dsimp only
 cases Sp.utd ((w,r,l),fc) key d
 ·rw[cond_f,wv.1,wv.2,gd_tt,if_neg Bool.false_ne_true]
  by_cases e:(Sp.wrv ((w,r,l),fc) key d p).2.2.1=0
  ·rw[cond_nff e,if_pos e];rfl
  ·rw[cond_ntt e,if_neg e];rfl
 ·rfl
theorem dat_i{F:FsT}{i:Nat}(hi:i<=64):Sp.dat F i=if Sp.sto (F.2.1.getD i Zd0)=true then [wrap .u32 (F.1.getD i Zd1).1]++Sp.wpk (F.2.1.getD i Zd0)else []:=by
 unfold Sp.dat
 rw[if_neg (by omega),Int.toNat_natCast]
theorem sv1{F:FsT}(hv:Sp.vf F=true)(F4:FsT)(p6:Int×Unit)(p7 p8:PwT)(p9:Int)(p10 p11:List Int):∀(d q i:Nat)(m:MeT)(p:PwT),MG m p->i+d=F.2.1.length->d<q->
 B_21_91_0_1 (L_21_91_0_1 q F.2.1 F.2.1.length i m F4 p p6 p7 p8 p9 p10 p11 F) (fun(y80:Int)(y81:MeT)(y82:FsT)(y83:PwT)(y84 y85:List Int)(y86:FsT)(y87:List Int)=>some ((v_61 y81 y80 y87 y83).1,(v_61 y81 y80 y87 y83).2.1,(v_61 y81 y80 y87 y83).2.2.1,())) (fun(y88:MeT)(y89:FsT)(y90:PwT)(y91:Int×Unit)(y92 y93:PwT)(y94:Int)(y95 y96:List Int)(y97:FsT)=>some (y88,y90,0,()))=some (Sp.svl F d i m p)
 |0,q,i,m,p,g,hi,hq=>by
  obtain⟨q,rfl⟩:∃k,q=k+1:=⟨q-1,by omega⟩
  rw[L_21_91_0_1,S_21_91_0_1,cond_dff (by omega)];rfl
 |d+1,q,i,m,p,g,hi,hq=>by
  obtain⟨q,rfl⟩:∃k,q=k+1:=⟨q-1,by omega⟩
  have ih:=fun(m':MeT)(p':PwT)(g':MG m' p')=>sv1 hv F4 p6 p7 p8 p9 p10 p11 d q (i+1) m' p' g' (by omega) (by omega)
  have vd:=vf_d hv
  have st:=sto_pv (F.2.1.getD i Zd0)
  have gg:=vf_good hv (j:=i) (by omega)
  have pk:=pack_pv (F.2.1.getD i Zd0)
  rw[gg,cond_t]at pk
  have pw:=wpk_w gg
  have l8:=(good_iff.1 gg).2.2.2.2.2.1
  have db:=dat_b hv (key:=(i:Int)) (.inr ⟨by omega,by omega⟩)
  have ei:wrap .i64 ((i:Int)+1)=((i+1:Nat):Int):=by rw[wi64 (by omega) (by omega)];push_cast;rfl
  have ed:=dat_i (F:=F) (i:=i) (by omega)
  have wv:=wrv_pv g.w (key:=(i:Int)) db.1 p
  have fin:∀D,D=Sp.dat F i->B_21_91_0_1 (B_21_91_1_1 (J_21_91_1_1 (i:Int) F.2.1 F.2.1.length i m F4 p p6 p7 p8 p9 p10 p11 F D) (fun(y76:Int)(y77:List FaT)(y78 y79:Int)(y80:MeT)(y81:FsT)(y82:PwT)(y83:Int×Unit)(y84 y85:PwT)(y86:Int)(y87 y88:List Int)(y89:FsT)(y90:List Int)=>L_21_91_0_1 q y77 y78 (wrap .i64 (y79+1)) y80 y81 y82 y83 y84 y85 y86 y87 y88 y89) (fun(y91:Int)(y92:MeT)(y93:FsT)(y94:PwT)(y95 y96:List Int)(y97:FsT)(y98:List Int)=>some (.e0 y91 y92 y93 y94 y95 y96 y97 y98)) fun(y99:Int)(y100:List FaT)(y101 y102:Int)(y103:MeT)(y104:FsT)(y105:PwT)(y106:Int×Unit)(y107 y108:PwT)(y109:Int)(y110 y111:List Int)(y112:FsT)(y113:List Int)=>L_21_91_0_1 q y100 y101 (wrap .i64 (y102+1)) (v_61 y103 y99 y113 y105).1 y104 (v_61 y103 y99 y113 y105).2.1 y106 y107 y108 y109 y110 y111 y112) (fun(y80:Int)(y81:MeT)(y82:FsT)(y83:PwT)(y84 y85:List Int)(y86:FsT)(y87:List Int)=>some ((v_61 y81 y80 y87 y83).1,(v_61 y81 y80 y87 y83).2.1,(v_61 y81 y80 y87 y83).2.2.1,())) (fun(y88:MeT)(y89:FsT)(y90:PwT)(y91:Int×Unit)(y92 y93:PwT)(y94:Int)(y95 y96:List Int)(y97:FsT)=>some (y88,y90,0,()))=some (Sp.svl F (d+1) i m p):=by
   rintro D rfl
   rw[bj1 g.w (by omega) db.1,Sp.svl]
   by_cases u:Sp.utd m i (Sp.dat F i)=true
   ·rw[if_pos u,if_pos u,ei]
    exact ih m p g
   ·rw[if_neg u,if_neg u]
    by_cases e:(Sp.wrv m i (Sp.dat F i) p).2.2.1=0
    ·rw[if_pos e,if_pos e,ei,wv.2]
     exact ih _ _ (wrv_go g (by omega) (by omega) (by omega) db.1 e)
    ·rw[if_neg e,if_neg e]
     show some ((v_61 m i (Sp.dat F i) p).1,(v_61 m i (Sp.dat F i) p).2.1,(v_61 m i (Sp.dat F i) p).2.2.1,())=_
     rw[wv.2]
  rw[L_21_91_0_1,S_21_91_0_1,cond_dtt (by omega),gd_inB (by omega) (by omega),Int.toNat_natCast,st.1,st.2,gd_tt]
  dsimp only
  cases hs:Sp.sto (F.2.1.getD i Zd0)
  ·rw[hs,if_neg Bool.false_ne_true]at ed
   rw[cond_f]
   exact fin [] ed.symm
  ·rw[hs,if_pos rfl]at ed
   rw[cond_t,pk.1,pk.2,gd_tt,gd_inB (by omega) (by omega),gd_room (by dsimp only;omega) (by dsimp only;omega)]
   exact fin _ ed.symm
theorem bb01{R:Type}(x:Option E_21_91_0_1)(k0 k1 k2 k3):(B_21_91_0_0 (B_21_91_0_1 x (fun(y91:Int)(y92:MeT)(y93:FsT)(y94:PwT)(y95 y96:List Int)(y97:FsT)(y98:List Int)=>some (E_21_91_0_0.e2 y91 y92 y93 y94 y95 y96 y97 y98)) (fun(p3:MeT)(p4:FsT)(p5:PwT)(p6:Int×Unit)(p7 p8:PwT)(p9:Int)(p10 p11:List Int)(p12:FsT)=>some (E_21_91_0_0.e3 p3 p4 p5 p6 p7 p8 p9 p10 p11 p12))) k0 k1 k2 k3:Option R)=B_21_91_0_1 x k2 k3:=by
 cases x with
 |none=>rfl
 |some x=>cases x<;>rfl
theorem sv0{F:FsT}(hv:Sp.vf F=true)(F4:FsT)(z6:Int×Unit)(z7 z8:PwT)(z9:Int){w r:List Int}{l:Int×Unit}{fc p:PwT}(g:MG ((w,r,l),fc) p):∀(d q i:Nat),i+d=F.2.1.length->d+1<q->
 B_21_91_0_0 (L_21_91_0_0 q F.2.1 F.2.1.length i l fc F4 p z6 z7 z8 z9 w r F) (fun(y60:Int)(y61:Int×Unit)(y62:PwT)(y63:FsT)(y64:PwT)(y65 y66:List Int)(y67:FsT)(y68:List Int)=>some ((v_61 ((y65,y66,y61),y62) y60 y68 y64).1,(v_61 ((y65,y66,y61),y62) y60 y68 y64).2.1,(v_61 ((y65,y66,y61),y62) y60 y68 y64).2.2.1,())) (fun(y69:Int×Unit)(y70:PwT)(y71:FsT)(y72:PwT)(y73:Int×Unit)(y74 y75:PwT)(y76:Int)(y77 y78:List Int)(y79:FsT)=>some (((y77,y78,y69),y70),y72,0,())) (fun(y80:Int)(y81:MeT)(y82:FsT)(y83:PwT)(y84 y85:List Int)(y86:FsT)(y87:List Int)=>some ((v_61 y81 y80 y87 y83).1,(v_61 y81 y80 y87 y83).2.1,(v_61 y81 y80 y87 y83).2.2.1,())) (fun(y88:MeT)(y89:FsT)(y90:PwT)(y91:Int×Unit)(y92 y93:PwT)(y94:Int)(y95 y96:List Int)(y97:FsT)=>some (y88,y90,0,()))=some (Sp.svl F d i ((w,r,l),fc) p)
 |0,q,i,hi,hq=>by
  obtain⟨q,rfl⟩:∃k,q=k+1:=⟨q-1,by omega⟩
  rw[L_21_91_0_0,S_21_91_0_0,cond_dff (by omega)];rfl
 |d+1,q,i,hi,hq=>by
  obtain⟨q,rfl⟩:∃k,q=k+1:=⟨q-1,by omega⟩
  have ih:=sv0 hv F4 z6 z7 z8 z9 g d q (i+1) (by omega) (by omega)
  have vd:=vf_d hv
  have st:=sto_pv (F.2.1.getD i Zd0)
  have gg:=vf_good hv (j:=i) (by omega)
  have pk:=pack_pv (F.2.1.getD i Zd0)
  rw[gg,cond_t]at pk
  have pw:=wpk_w gg
  have l8:=(good_iff.1 gg).2.2.2.2.2.1
  have db:=dat_b hv (key:=(i:Int)) (.inr ⟨by omega,by omega⟩)
  have ei:wrap .i64 ((i:Int)+1)=((i+1:Nat):Int):=by rw[wi64 (by omega) (by omega)];push_cast;rfl
  have ed:=dat_i (F:=F) (i:=i) (by omega)
  have wv:=wrv_pv (m:=((w,r,l),fc)) g.w (key:=(i:Int)) db.1 p
  have fin:∀D,D=Sp.dat F i->B_21_91_0_0 (B_21_91_1_0 (J_21_91_1_0 (i:Int) F.2.1 F.2.1.length i l fc F4 p z6 z7 z8 z9 w r F D) (fun(y82:Int)(y83:List FaT)(y84 y85:Int)(y86:Int×Unit)(y87:PwT)(y88:FsT)(y89:PwT)(y90:Int×Unit)(y91 y92:PwT)(y93:Int)(y94 y95:List Int)(y96:FsT)(y97:List Int)=>L_21_91_0_0 q y83 y84 (wrap .i64 (y85+1)) y86 y87 y88 y89 y90 y91 y92 y93 y94 y95 y96) (fun(y98:Int)(y99:Int×Unit)(y100:PwT)(y101:FsT)(y102:PwT)(y103 y104:List Int)(y105:FsT)(y106:List Int)=>some (.e0 y98 y99 y100 y101 y102 y103 y104 y105 y106)) fun(y107:Int)(y108:List FaT)(y109 y110:Int)(y111:Int×Unit)(y112:PwT)(y113:FsT)(y114:PwT)(y115:Int×Unit)(y116 y117:PwT)(y118:Int)(y119 y120:List Int)(y121:FsT)(y122:List Int)=>(fun q0 q1 q2 q3 q4 q5 q6 q7 q8 q9 q10 q11 q12=>B_21_91_0_1 (L_21_91_0_1 q q0 q1 q2 q3 q4 q5 q6 q7 q8 q9 q10 q11 q12) (fun(y91:Int)(y92:MeT)(y93:FsT)(y94:PwT)(y95 y96:List Int)(y97:FsT)(y98:List Int)=>some (E_21_91_0_0.e2 y91 y92 y93 y94 y95 y96 y97 y98)) (fun(p3:MeT)(p4:FsT)(p5:PwT)(p6:Int×Unit)(p7 p8:PwT)(p9:Int)(p10 p11:List Int)(p12:FsT)=>some (E_21_91_0_0.e3 p3 p4 p5 p6 p7 p8 p9 p10 p11 p12))) y108 y109 (wrap .i64 (y110+1)) (v_61 ((y119,y120,y111),y112) y107 y122 y114).1 y113 (v_61 ((y119,y120,y111),y112) y107 y122 y114).2.1 y115 y116 y117 y118 y119 y120 y121) (fun(y60:Int)(y61:Int×Unit)(y62:PwT)(y63:FsT)(y64:PwT)(y65 y66:List Int)(y67:FsT)(y68:List Int)=>some ((v_61 ((y65,y66,y61),y62) y60 y68 y64).1,(v_61 ((y65,y66,y61),y62) y60 y68 y64).2.1,(v_61 ((y65,y66,y61),y62) y60 y68 y64).2.2.1,())) (fun(y69:Int×Unit)(y70:PwT)(y71:FsT)(y72:PwT)(y73:Int×Unit)(y74 y75:PwT)(y76:Int)(y77 y78:List Int)(y79:FsT)=>some (((y77,y78,y69),y70),y72,0,())) (fun(y80:Int)(y81:MeT)(y82:FsT)(y83:PwT)(y84 y85:List Int)(y86:FsT)(y87:List Int)=>some ((v_61 y81 y80 y87 y83).1,(v_61 y81 y80 y87 y83).2.1,(v_61 y81 y80 y87 y83).2.2.1,())) (fun(y88:MeT)(y89:FsT)(y90:PwT)(y91:Int×Unit)(y92 y93:PwT)(y94:Int)(y95 y96:List Int)(y97:FsT)=>some (y88,y90,0,()))=some (Sp.svl F (d+1) i ((w,r,l),fc) p):=by
   rintro D rfl
   rw[bj0 g.w (by omega) db.1,Sp.svl]
   by_cases u:Sp.utd ((w,r,l),fc) i (Sp.dat F i)=true
   ·rw[if_pos u,if_pos u,ei]
    exact ih
   ·rw[if_neg u,if_neg u]
    by_cases e:(Sp.wrv ((w,r,l),fc) i (Sp.dat F i) p).2.2.1=0
    ·rw[if_pos e,if_pos e,ei,wv.2]
     dsimp only
     rw[bb01]
     exact sv1 hv F4 z6 z7 z8 z9 w r d q (i+1) _ _ (wrv_go g (by omega) (by omega) (by omega) db.1 e) (by omega) (by omega)
    ·rw[if_neg e,if_neg e]
     show some ((v_61 ((w,r,l),fc) i (Sp.dat F i) p).1,(v_61 ((w,r,l),fc) i (Sp.dat F i) p).2.1,(v_61 ((w,r,l),fc) i (Sp.dat F i) p).2.2.1,())=_
     rw[wv.2]
  rw[L_21_91_0_0,S_21_91_0_0,cond_dtt (by omega),gd_inB (by omega) (by omega),Int.toNat_natCast,st.1,st.2,gd_tt]
  dsimp only
  cases hs:Sp.sto (F.2.1.getD i Zd0)
  ·rw[hs,if_neg Bool.false_ne_true]at ed
   rw[cond_f]
   exact fin [] ed.symm
  ·rw[hs,if_pos rfl]at ed
   rw[cond_t,pk.1,pk.2,gd_tt,gd_inB (by omega) (by omega),gd_room (by dsimp only;omega) (by dsimp only;omega)]
   exact fin _ ed.symm
theorem save_pv{m:MeT}{F:FsT}(hw:W32f m.1)(sm:Sm F)(p:PwT):p_21 m F p=true/\v_21 m F p=Sp.svv m F p:=by
 have v:=mvl_pv hw
 have f:=vf_pv sm
 refine pv_21 m F p ?_
 unfold F_21 Sp.svv
 rw[v.1,v.2,gd_tt]
 dsimp only
 cases hm:Sp.mvl m
 ·rw[Bool.not_false,cond_t,if_neg (fun z=>Bool.noConfusion z.1)];rfl
 rw[Bool.not_true,cond_f,f.1,f.2,gd_tt]
 dsimp only
 cases hf:Sp.vf F
 ·rw[Bool.not_false,cond_t,if_neg (fun z=>Bool.noConfusion z.2.1)];rfl
 rw[Bool.not_true,cond_f]
 by_cases h0:p.1<0
 ·rw[cond_dtt h0,if_neg (fun z=>by have:=z.2.2;unfold Sp.pok at this;simp at this;omega)];rfl
 by_cases h1:p.1>1099511627776
 ·rw[cond_dff h0,cond_dtt h1,if_neg (fun z=>by have:=z.2.2;unfold Sp.pok at this;simp at this;omega)];rfl
 have g:MG m p:=⟨hw,hm,by omega,by omega⟩
 have vd:=vf_d hf
 have fl:=fv_iff.1 (mvl_d hm).1
 have db:=dat_b hf (key:=254) (.inl rfl)
 have d0:Sp.dat F 254=[wrap .u32 F.2.2.1]:=by unfold Sp.dat;rw[if_pos rfl]
 have em:((m.1.1,m.1.2.1,m.1.2.2),m.2)=m:=rfl
 have u:=utd_pv hw (key:=254) (d:=[wrap .u32 F.2.2.1]) (by show 1<=1000;decide)
 have wv:=wrv_pv hw (key:=254) (d0▸db.1) p
 rw[cond_dff h0,cond_dff h1,if_pos ⟨rfl,rfl,g.pok⟩,gd_room (by omega) (by omega),gd_room (by omega) (by omega),em,u.1,u.2,gd_tt]
 unfold Sp.svw
 rw[d0]
 dsimp only
 cases hu:Sp.utd m 254 [wrap .u32 F.2.2.1]
 ·rw[cond_f,wv.1,wv.2,gd_tt,if_neg Bool.false_ne_true]
  by_cases e:(Sp.wrv m 254 [wrap .u32 F.2.2.1] p).2.2.1=0
  ·rw[cond_nff e,if_pos e]
   exact sv1 hf F (0,()) (0,0,()) (0,0,()) 0 m.1.1 m.1.2.1 F.2.1.length 4611686018427387904 0 _ _ (wrv_go g (by omega) (by omega) (by show 1<=24;decide) (d0▸db.1) e) (by omega) (by omega)
  ·rw[cond_ntt e,if_neg e]
 ·rw[cond_t,if_pos rfl]
  exact sv0 hf F (0,()) (0,0,()) (0,0,()) 0 (w:=m.1.1) (r:=m.1.2.1) (l:=m.1.2.2) (fc:=m.2) g F.2.1.length 4611686018427387904 0 (by omega) (by omega)
set_option maxRecDepth 100000
set_option maxHeartbeats 4000000
noncomputable def Sp.kys(n:Nat):List Int:=[254]++(List.range n).map fun(i:Nat)=>(i:Int)
theorem kys_len(n:Nat):(Sp.kys n).length=n+1:=by simp[Sp.kys]
theorem kys_0(n:Nat):(Sp.kys n).getD 0 0=254:=rfl
theorem kys_s{n i:Nat}(h:i<n):(Sp.kys n).getD (i+1) 0=(i:Int):=by
 unfold Sp.kys
 rw[List.getD_eq_getElem?_getD,List.getElem?_append_right (by simp)]
 simp[h]
theorem rrd{R:Type}(K k){F:FsT}(hv:Sp.vf F=true){m:MeT}{p:PwT}(g:MG m p){j:Nat}{key:Int}(hj:j<F.2.1.length+1)(he:(Sp.kys F.2.1.length).getD j 0=key)(hk:key=254\/0<=key/\key<(F.2.1.length:Int))(p4 p5 p6 p7 p8) :
 (S_24_1 K k (j:Int) m F p p4 p5 p6 p7 p8 (Sp.kys F.2.1.length):Option R)=if Sp.utd m key (Sp.dat F key)=true then K ((j+1:Nat):Int) m F p p4 p5 p6 p7 p8 (Sp.kys F.2.1.length)else if(Sp.wrs m key (Sp.dat F key)).2.1=0 then(if(Sp.wrv m key (Sp.dat F key) p).2.2.1=0 then K ((j+1:Nat):Int) (Sp.wrv m key (Sp.dat F key) p).1 F (Sp.wrv m key (Sp.dat F key) p).2.1 p4 p5 p6 p7 p8 (Sp.kys F.2.1.length)else k (.e1 (j:Int) m F p (Sp.kys F.2.1.length)))else k (.e0 (j:Int) m F (Sp.kys F.2.1.length)):=by
 have vd:=vf_d hv
 have kl:=kys_len F.2.1.length
 have db:=dat_b hv hk
 have fr:=fresh_pv g.w g.v hv hk
 have en:=rent_d hv hk
 have rw_:=rwrs_w g.w g.v (key:=key) (by omega) (by omega) (d:=Sp.dat F key) (by omega) db.1
 have wr:=wrv_r g (key:=key) (d:=Sp.dat F key) (by omega) (by omega) (by omega) db.1
 have ei:wrap .i64 ((j:Int)+1)=((j+1:Nat):Int):=by rw[wi64 (by omega) (by omega)];push_cast;rfl
 have tt:(decide (toNat (j:Int)<(Sp.kys F.2.1.length).length)&&true)=true:=by rw[Int.toNat_natCast,decide_eq_true (by omega)];rfl
 unfold S_24_1
 rw[cond_dtt (by omega)]
 simp only[tt,gd_tt,gd_inB (show(0:Int)<=(j:Int) by omega) (show(j:Int)<((Sp.kys F.2.1.length).length:Int) by omega)]
 rw[Int.toNat_natCast,he,fr.1,fr.2,gd_tt]
 dsimp only
 cases hu:Sp.utd m key (Sp.dat F key)
 rotate_left
 ·rw[cond_t,if_pos rfl,ei]
 rw[cond_f,if_neg Bool.false_ne_true,en.1,en.2,gd_tt]
 dsimp only
 rw[rw_.1,rw_.2,gd_tt]
 by_cases c:(Sp.wrs m key (Sp.dat F key)).2.1=0
 rotate_left
 ·rw[cond_ntt c,if_neg c]
 obtain⟨w1,w2⟩:=wr.2 c
 have sv:=(wrs_sv g.w g.v c).1
 have dd:=rdo_pv (mvl_d g.v).1 g.w g.p0 g.p1 sv.1 sv.2
 rw[cond_nff c,if_pos c,dd.1,dd.2,gd_tt,w1]
 by_cases e:(Sp.rdo m (Sp.wrs m key (Sp.dat F key)).1 p).2.2.1=0
 ·rw[cond_nff e,if_pos e,ei]
 ·rw[cond_ntt e,if_neg e]
theorem rex{F:FsT}(hv:Sp.vf F=true){m:MeT}{p:PwT}(g:MG m p){j:Nat}{key:Int}(he:(Sp.kys F.2.1.length).getD j 0=key)(hk:key=254\/0<=key/\key<(F.2.1.length:Int)) :
 ((Sp.wrs m key (Sp.dat F key)).2.1≠0->B_24_1 (some (.e0 (j:Int) m F (Sp.kys F.2.1.length))) (fun(y34:Int)(y35:MeT)(y36:FsT)(y37:List Int)=>some (((([],[],0,()),0,0,()):MeT),((0,0,()):PwT),(v_65 y35 (y37.getD y34.toNat 0) (v_66 y36 (y37.getD y34.toNat 0)).1).2.1,())) (fun(y38:Int)(y39:MeT)(y40:FsT)(y41:PwT)(y42:List Int)=>some ((v_67 y39 (v_65 y39 (y42.getD y38.toNat 0) (v_66 y40 (y42.getD y38.toNat 0)).1).1 y41).1,(v_67 y39 (v_65 y39 (y42.getD y38.toNat 0) (v_66 y40 (y42.getD y38.toNat 0)).1).1 y41).2.1,(v_67 y39 (v_65 y39 (y42.getD y38.toNat 0) (v_66 y40 (y42.getD y38.toNat 0)).1).1 y41).2.2.1,())) (fun(y43:MeT)(y44:PwT)(y45:Int×Unit)(y46:PwT)(y47 y48:List Int)(y49:PwT)=>some (y43,y44,0,()))=some (Sp.wrv m key (Sp.dat F key) p))/\((Sp.wrs m key (Sp.dat F key)).2.1=0->B_24_1 (some (.e1 (j:Int) m F p (Sp.kys F.2.1.length))) (fun(y34:Int)(y35:MeT)(y36:FsT)(y37:List Int)=>some (((([],[],0,()),0,0,()):MeT),((0,0,()):PwT),(v_65 y35 (y37.getD y34.toNat 0) (v_66 y36 (y37.getD y34.toNat 0)).1).2.1,())) (fun(y38:Int)(y39:MeT)(y40:FsT)(y41:PwT)(y42:List Int)=>some ((v_67 y39 (v_65 y39 (y42.getD y38.toNat 0) (v_66 y40 (y42.getD y38.toNat 0)).1).1 y41).1,(v_67 y39 (v_65 y39 (y42.getD y38.toNat 0) (v_66 y40 (y42.getD y38.toNat 0)).1).1 y41).2.1,(v_67 y39 (v_65 y39 (y42.getD y38.toNat 0) (v_66 y40 (y42.getD y38.toNat 0)).1).1 y41).2.2.1,())) (fun(y43:MeT)(y44:PwT)(y45:Int×Unit)(y46:PwT)(y47 y48:List Int)(y49:PwT)=>some (y43,y44,0,()))=some (Sp.wrv m key (Sp.dat F key) p)):=by
 have vd:=vf_d hv
 have db:=dat_b hv hk
 have en:=rent_d hv hk
 have rw_:=rwrs_w g.w g.v (key:=key) (by omega) (by omega) (d:=Sp.dat F key) (by omega) db.1
 have wr:=wrv_r g (key:=key) (d:=Sp.dat F key) (by omega) (by omega) (by omega) db.1
 refine⟨fun c=> ?_,fun c=> ?_⟩
 ·rw[wr.1 c]
  unfold B_24_1
  dsimp only
  rw[Int.toNat_natCast,he,en.2]
  dsimp only
  rw[rw_.2]
  rfl
 ·have sv:=(wrs_sv g.w g.v c).1
  have dd:=rdo_pv (mvl_d g.v).1 g.w g.p0 g.p1 sv.1 sv.2
  rw[(wr.2 c).1]
  unfold B_24_1
  dsimp only
  rw[Int.toNat_natCast,he,en.2]
  dsimp only
  rw[rw_.2,dd.2]
theorem rs1{F:FsT}(hv:Sp.vf F=true)(p4:Int×Unit)(p5:PwT)(p6 p7:List Int)(p8:PwT):∀(d q i:Nat)(m:MeT)(p:PwT),MG m p->i+d=F.2.1.length->d<q->
 B_24_1 (L_24_1 q ((i+1:Nat):Int) m F p p4 p5 p6 p7 p8 (Sp.kys F.2.1.length)) (fun(y34:Int)(y35:MeT)(y36:FsT)(y37:List Int)=>some (((([],[],0,()),0,0,()):MeT),((0,0,()):PwT),(v_65 y35 (y37.getD y34.toNat 0) (v_66 y36 (y37.getD y34.toNat 0)).1).2.1,())) (fun(y38:Int)(y39:MeT)(y40:FsT)(y41:PwT)(y42:List Int)=>some ((v_67 y39 (v_65 y39 (y42.getD y38.toNat 0) (v_66 y40 (y42.getD y38.toNat 0)).1).1 y41).1,(v_67 y39 (v_65 y39 (y42.getD y38.toNat 0) (v_66 y40 (y42.getD y38.toNat 0)).1).1 y41).2.1,(v_67 y39 (v_65 y39 (y42.getD y38.toNat 0) (v_66 y40 (y42.getD y38.toNat 0)).1).1 y41).2.2.1,())) (fun(y43:MeT)(y44:PwT)(y45:Int×Unit)(y46:PwT)(y47 y48:List Int)(y49:PwT)=>some (y43,y44,0,()))=some (Sp.svl F d i m p)
 |0,q,i,m,p,g,hi,hq=>by
  obtain⟨q,rfl⟩:∃k,q=k+1:=⟨q-1,by omega⟩
  have kl:=kys_len F.2.1.length
  rw[L_24_1,S_24_1,cond_dff (by omega)];rfl
 |d+1,q,i,m,p,g,hi,hq=>by
  obtain⟨q,rfl⟩:∃k,q=k+1:=⟨q-1,by omega⟩
  have vd:=vf_d hv
  have ih:=fun(m':MeT)(p':PwT)(g':MG m' p')=>rs1 hv p4 p5 p6 p7 p8 d q (i+1) m' p' g' (by omega) (by omega)
  have ky:=kys_s (n:=F.2.1.length) (i:=i) (by omega)
  have hk:(i:Int)=254\/0<=(i:Int)/\(i:Int)<(F.2.1.length:Int):= .inr ⟨by omega,by omega⟩
  have db:=dat_b hv hk
  have ex:=rex hv g ky hk
  show B_24_1 (S_24_1 (L_24_1 q) some ((i+1:Nat):Int) m F p p4 p5 p6 p7 p8 (Sp.kys F.2.1.length)) (fun(y34:Int)(y35:MeT)(y36:FsT)(y37:List Int)=>some (((([],[],0,()),0,0,()):MeT),((0,0,()):PwT),(v_65 y35 (y37.getD y34.toNat 0) (v_66 y36 (y37.getD y34.toNat 0)).1).2.1,())) (fun(y38:Int)(y39:MeT)(y40:FsT)(y41:PwT)(y42:List Int)=>some ((v_67 y39 (v_65 y39 (y42.getD y38.toNat 0) (v_66 y40 (y42.getD y38.toNat 0)).1).1 y41).1,(v_67 y39 (v_65 y39 (y42.getD y38.toNat 0) (v_66 y40 (y42.getD y38.toNat 0)).1).1 y41).2.1,(v_67 y39 (v_65 y39 (y42.getD y38.toNat 0) (v_66 y40 (y42.getD y38.toNat 0)).1).1 y41).2.2.1,())) (fun(y43:MeT)(y44:PwT)(y45:Int×Unit)(y46:PwT)(y47 y48:List Int)(y49:PwT)=>some (y43,y44,0,()))=_
  rw[rrd (L_24_1 q) some hv g (by omega) ky hk,Sp.svl]
  by_cases u:Sp.utd m i (Sp.dat F i)=true
  ·rw[if_pos u,if_pos u];exact ih m p g
  rw[if_neg u,if_neg u]
  by_cases c:(Sp.wrs m i (Sp.dat F i)).2.1=0
  ·rw[if_pos c]
   by_cases e:(Sp.wrv m i (Sp.dat F i) p).2.2.1=0
   ·rw[if_pos e,if_pos e]
    exact ih _ _ (wrv_go g (by omega) (by omega) (by omega) db.1 e)
   ·rw[if_neg e,if_neg e]
    exact ex.2 c
  ·have e:(Sp.wrv m i (Sp.dat F i) p).2.2.1≠0:=by
    rw[(wrv_r g (key:=i) (d:=Sp.dat F i) (by omega) (by omega) (by omega) db.1).1 c]
    exact c
   rw[if_neg c,if_neg e]
   exact ex.1 c
theorem rsave_pv{m:MeT}{F:FsT}{p:PwT}(g:MG m p)(hv:Sp.vf F=true):p_24 m F p=true/\v_24 m F p=Sp.svw F m p:=by
 have vd:=vf_d hv
 refine pv_24 m F p ?_
 unfold F_24
 have t:=run0 (fun q i acc=>L_24_0 q i m F p (0,()) (0,0,()) [] [] (0,0,()) acc) (n:=F.2.1.length) (fun j=>Sp.kys j) (r:=some (.e0 m F p (0,()) (0,0,()) [] [] (0,0,()) (Sp.kys F.2.1.length))) (by omega) (fun q i hi=>by
  show L_24_0 (q+1) (i:Int) m F p (0,()) (0,0,()) [] [] (0,0,()) (Sp.kys i)=L_24_0 q ((i+1:Nat):Int) m F p (0,()) (0,0,()) [] [] (0,0,()) (Sp.kys (i+1))
  have kl:=kys_len i
  have ks:Sp.kys (i+1)=Sp.kys i++[(i:Int)]:=by simp[Sp.kys,List.range_succ]
  rw[L_24_0,S_24_0,cond_dtt (by omega),gd_room (by omega) (by omega),wi64 (by omega) (by omega),ks]
  push_cast
  rfl) (fun q=>by
  show L_24_0 (q+1) (F.2.1.length:Int) m F p (0,()) (0,0,()) [] [] (0,0,()) (Sp.kys F.2.1.length)=_
  rw[L_24_0,S_24_0,cond_dff (by omega)])
 refine(congrArg (fun z=>B_24_0 z _) t).trans ?_
 have kl:=kys_len F.2.1.length
 have ky:=kys_0 F.2.1.length
 have hk:(254:Int)=254\/0<=(254:Int)/\(254:Int)<(F.2.1.length:Int):= .inl rfl
 have db:=dat_b hv hk
 have ex:=rex hv g ky hk
 have rd:=rrd (R:=E_24_1) (L_24_1 4611686018427387903) some hv g (j:=0) (by omega) ky hk (0,()) (0,0,()) [] [] (0,0,())
 show B_24_1 (L_24_1 4611686018427387904 0 m F p (0,()) (0,0,()) [] [] (0,0,()) (Sp.kys F.2.1.length)) (fun(y34:Int)(y35:MeT)(y36:FsT)(y37:List Int)=>some (((([],[],0,()),0,0,()):MeT),((0,0,()):PwT),(v_65 y35 (y37.getD y34.toNat 0) (v_66 y36 (y37.getD y34.toNat 0)).1).2.1,())) (fun(y38:Int)(y39:MeT)(y40:FsT)(y41:PwT)(y42:List Int)=>some ((v_67 y39 (v_65 y39 (y42.getD y38.toNat 0) (v_66 y40 (y42.getD y38.toNat 0)).1).1 y41).1,(v_67 y39 (v_65 y39 (y42.getD y38.toNat 0) (v_66 y40 (y42.getD y38.toNat 0)).1).1 y41).2.1,(v_67 y39 (v_65 y39 (y42.getD y38.toNat 0) (v_66 y40 (y42.getD y38.toNat 0)).1).1 y41).2.2.1,())) (fun(y43:MeT)(y44:PwT)(y45:Int×Unit)(y46:PwT)(y47 y48:List Int)(y49:PwT)=>some (y43,y44,0,()))=_
 have st:L_24_1 4611686018427387904 0 m F p (0,()) (0,0,()) [] [] (0,0,()) (Sp.kys F.2.1.length)=S_24_1 (L_24_1 4611686018427387903) some ((0:Nat):Int) m F p (0,()) (0,0,()) [] [] (0,0,()) (Sp.kys F.2.1.length):=rfl
 rw[st,rd]
 unfold Sp.svw
 by_cases u:Sp.utd m 254 (Sp.dat F 254)=true
 ·rw[if_pos u,if_pos u];exact rs1 hv _ _ _ _ _ _ _ 0 m p g (by omega) (by omega)
 rw[if_neg u,if_neg u]
 by_cases c:(Sp.wrs m 254 (Sp.dat F 254)).2.1=0
 ·rw[if_pos c]
  by_cases e:(Sp.wrv m 254 (Sp.dat F 254) p).2.2.1=0
  ·rw[if_pos e,if_pos e]
   exact rs1 hv _ _ _ _ _ _ _ 0 _ _ (wrv_go g (by omega) (by omega) (by omega) db.1 e) (by omega) (by omega)
  ·rw[if_neg e,if_neg e]
   exact ex.2 c
 ·have e:(Sp.wrv m 254 (Sp.dat F 254) p).2.2.1≠0:=by
   rw[(wrv_r g (key:=254) (d:=Sp.dat F 254) (by omega) (by omega) (by omega) db.1).1 c]
   exact c
  rw[if_neg c,if_neg e]
  exact ex.1 c
noncomputable def FRL(L:List FaT):Prop:=∀f∈L,f.2.2.2.2.2.1.length<=1000
theorem FRL.set{L:List FaT}(h:FRL L)(i:Nat){f:FaT}(hf:f.2.2.2.2.2.1.length<=1000):FRL (L.set i f):=fun x hx=>by
 rcases List.mem_or_eq_of_mem_set hx with h1|rfl
 ·exact h x h1
 ·exact hf
theorem FRL.sm{F:FsT}(h:FRL F.2.1)(hl:F.2.1.length<=1000):Sm F:=⟨by omega,fun j hj=>by
 have:=h _ (List.getElem_mem hj)
 rw[getD_at _ hj]
 omega⟩
theorem few_pv(F:FsT):∃r,p_9 F=true/\v_9 F=(r,())/\(r=true->F.1.length<=70/\F.2.1.length<=70/\FRL F.2.1):=by
 by_cases h1:(F.1.length:Int)<=70
 rotate_left
 ·have:=pv_9 F (y:=(false,())) (by unfold F_9;rw[cond_dff h1])
  exact⟨false,this.1,this.2,fun z=>by cases z⟩
 by_cases h2:(F.2.1.length:Int)<=70
 rotate_left
 ·have:=pv_9 F (y:=(false,())) (by unfold F_9;rw[cond_dtt h1,cond_dff h2])
  exact⟨false,this.1,this.2,fun z=>by cases z⟩
 have hf:=find0 (fun m i=>L_9_77_0_0 m F.2.1 F.2.1.length i F) (n:=F.2.1.length) (fun j=>decide (((F.2.1.getD j Zd0).2.2.2.2.2.1.length:Int)>20)) (ex:=fun j=>some (.e0 (j:Int) F)) (e1:=some (.e1 F)) (by omega) (fun m j hj=>by
  show L_9_77_0_0 (m+1) F.2.1 F.2.1.length (j:Int) F=bif decide (((F.2.1.getD j Zd0).2.2.2.2.2.1.length:Int)>20)then some (.e0 (j:Int) F)else L_9_77_0_0 m F.2.1 F.2.1.length ((j+1:Nat):Int) F
  rw[L_9_77_0_0,S_9_77_0_0,cond_dtt (by omega),gd_inB (by omega) (by omega),Int.toNat_natCast,wi64 (by omega) (by omega)]
  push_cast
  rfl) (fun m=>by
  show L_9_77_0_0 (m+1) F.2.1 F.2.1.length (F.2.1.length:Int) F=_
  rw[L_9_77_0_0,S_9_77_0_0,cond_dff (by omega)])
 cases hq:fnd (fun j=>decide (((F.2.1.getD j Zd0).2.2.2.2.2.1.length:Int)>20)) F.2.1.length 0 with
 |some j=>
  rw[hq]at hf
  have:=pv_9 F (y:=(false,())) (by
   unfold F_9
   rw[cond_dtt h1,cond_dtt h2]
   refine(congrArg (fun z=>B_9_77_0_0 z _ _) hf).trans ?_
   show some (!decide ((j:Int)>=0),())=_
   rw[decide_eq_true (by omega)]
   rfl)
  exact⟨false,this.1,this.2,fun z=>by cases z⟩
 |none=>
  rw[hq]at hf
  have:=pv_9 F (y:=(true,())) (by
   unfold F_9
   rw[cond_dtt h1,cond_dtt h2]
   exact(congrArg (fun z=>B_9_77_0_0 z _ _) hf).trans rfl)
  refine⟨true,this.1,this.2,fun _=>⟨by omega,by omega,fun f hf2=> ?_⟩⟩
  obtain⟨i,hi,e⟩:=List.mem_iff_getElem.1 hf2
  have:=of_decide_eq_false (fnd_none.1 hq i (by omega) (by omega))
  rw[getD_at _ hi,e]at this
  omega
theorem small_pv(m:MeT)(F:FsT):∃r,p_8 m F=true/\v_8 m F=(r,())/\(r=true->F.1.length<=70/\F.2.1.length<=70/\FRL F.2.1):=by
 obtain⟨ra,pa,qa,ha⟩:=few_pv F
 by_cases h1:(m.1.1.length:Int)<=1024
 rotate_left
 ·have:=pv_8 m F (y:=(false,())) (by unfold F_8;rw[cond_dff h1])
  exact⟨false,this.1,this.2,fun z=>by cases z⟩
 by_cases h2:(m.1.2.1.length:Int)<=16
 rotate_left
 ·have:=pv_8 m F (y:=(false,())) (by unfold F_8;rw[cond_dtt h1,cond_dff h2])
  exact⟨false,this.1,this.2,fun z=>by cases z⟩
 by_cases h3:m.2.2.1<=16
 rotate_left
 ·have:=pv_8 m F (y:=(false,())) (by unfold F_8;rw[cond_dtt h1,cond_dtt h2,cond_dff h3])
  exact⟨false,this.1,this.2,fun z=>by cases z⟩
 have:=pv_8 m F (y:=(ra,())) (by unfold F_8;rw[cond_dtt h1,cond_dtt h2,cond_dtt h3,pa,qa,gd_tt])
 exact⟨ra,this.1,this.2,ha⟩
theorem chk_v(m:MeT)(F:FsT)(p:PwT)(hw:W32f m.1)(sm:Sm F):p_22 m F p=true/\v_22 m F p=(Sp.mvl m&&(Sp.vf F&&Sp.pok p),()):=by
 have rv:=rmv_pv hw
 have rf:=rvf_pv sm
 have rp:=rpok_pv p
 refine pv_22 m F p ?_
 unfold F_22
 rw[rv.1,rv.2,gd_tt]
 dsimp only
 cases Sp.mvl m
 ·rfl
 rw[cond_t,rf.1,rf.2,gd_tt]
 dsimp only
 cases Sp.vf F
 ·rfl
 rw[cond_t,rp.1,rp.2,gd_tt,Bool.true_and,Bool.true_and]
theorem plain_4(m:MeT)(F:FsT)(p:PwT)(wf:wfD (.pair (.pair (.slice (.int .u32)) (.pair (.slice (.int .i64)) (.pair (.int .i64) .unit))) (.pair (.int .i64) (.pair (.int .i64) .unit))) m)(_:wfD (.pair (.slice (.pair (.int .i64) (.pair (.int .i64) (.pair (.int .i64) (.pair (.int .i64) (.pair (.int .i64) (.pair (.int .i64) (.pair .bool (.pair (.int .i64) .unit))))))))) (.pair (.slice (.pair (.int .i64) (.pair (.int .i64) (.pair (.int .i64) (.pair (.int .i64) (.pair (.int .i64) (.pair (.slice (.int .i64)) (.pair (.int .i64) .unit)))))))) (.pair (.int .i64) (.pair .bool .unit)))) F)(_:wfD (.pair (.int .i64) (.pair (.int .u32) .unit)) p):F_4 m F p=some true:=by
 have hw:W32f m.1:=fun x hx=>u32_b (wf.1.1 x hx)
 obtain⟨rs,ps,qs,hs⟩:=small_pv m F
 unfold F_4
 rw[aw_pv.1,aw_pv.2,gd_tt,ps,qs,gd_tt]
 dsimp only
 rw[Bool.not_true,cond_f,gd_tt]
 cases rs
 ·rfl
 obtain⟨ca,la,fa⟩:=hs rfl
 have sm:Sm F:=FRL.sm fa (by omega)
 have sv:=save_pv hw sm p
 have ck:=chk_v m F p hw sm
 rw[Bool.not_true,cond_f,sv.1,sv.2,gd_tt,ck.1,ck.2,gd_tt]
 dsimp only
 by_cases c:Sp.mvl m=true/\Sp.vf F=true/\Sp.pok p=true
 ·have hp:=c.2.2
  have g:MG m p:=by
   unfold Sp.pok at hp
   simp only[Bool.and_eq_true,decide_eq_true_eq]at hp
   exact⟨hw,c.1,hp.1,hp.2⟩
  have rsv:=rsave_pv g c.2.1
  have ln:=svw_len c.2.1 g
  have s1:=smem_pv (Sp.svw F m p).1 ln.1 ln.2
  unfold Sp.svv
  rw[if_pos c,c.1,c.2.1,c.2.2,Bool.and_self,Bool.and_self,Bool.not_true,cond_f,rsv.1,rsv.2,gd_tt,s1.1,s1.2,gd_tt]
  dsimp only
  rw[cond_t,beq_pw,cond_t,beq_self_eq_true]
 ·have cf:(Sp.mvl m&&(Sp.vf F&&Sp.pok p))=false:=by
   rw[Bool.eq_false_iff]
   intro z
   rw[Bool.and_eq_true,Bool.and_eq_true]at z
   exact c z
  have s0:=smem_pv Sp.zM (Nat.zero_le _) (Nat.zero_le _)
  unfold Sp.svv
  rw[cf,if_neg c,Bool.not_false,cond_t]
  dsimp only
  have s0:p_23 Sp.zM (([],[],0,()),0,0,())=true/\v_23 Sp.zM (([],[],0,()),0,0,())=(true,()):=s0
  rw[s0.1,s0.2,gd_tt]
  dsimp only
  rw[cond_t,beq_pw,cond_t]
  rfl
end Go.Ev
