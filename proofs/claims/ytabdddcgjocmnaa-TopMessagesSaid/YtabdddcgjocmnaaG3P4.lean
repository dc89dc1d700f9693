/- Helpers: functions of the program as Lean functions, and what they compute. No condition. -/
import Derived.Test.YtabdddcgjocmnaaE3P4
import Derived.Test.YtabdddcgjocmnaaG3P1
import Derived.Test.YtabdddcgjocmnaaE3P2
import Derived.Test.YtabdddcgjocmnaaG3P2
import Derived.Test.YtabdddcgjocmnaaG3P3
set_option maxRecDepth 10000
set_option linter.unusedVariables false
set_option linter.unusedSimpArgs false
open Go.IntKind (wrap i64 i32 i16 i8 u64 u32 u16 u8)
open List (getD length take drop replicate)
open Int (toNat)
open Go.Ev.Sp
set_option linter.unusedSimpArgs false
set_option linter.unusedVariables false
namespace Go.Ev
open Go
set_option maxRecDepth 100000
set_option maxHeartbeats 4000000
abbrev SgT:=List Int×Int×Int×Bool×Bool×Int×Int×Int×Int×Int×Unit
abbrev FrT:=List Int×Int×Int×Bool×List SgT×Unit
namespace Sp
noncomputable def sg0:SgT:=([108,111,119],0,32,false,false,1,0,1,0,4294967295,())
noncomputable def sg1:SgT:=([104,105,103,104],32,32,false,false,1,0,1,0,4294967295,())
noncomputable def frm8:FrT:=([100,105,97,103],2016,8,false,[sg0,sg1],())
noncomputable def bitl(o:Nat):List Int:=(List.range 32).map fun j=>((o+j:Nat):Int)
noncomputable def bn(b:List Int)(i:Nat):Nat:=(b.getD i 0).toNat
noncomputable def vl(b:List Int):Nat->Nat
 |0=>0
 |j+1=>vl b j+bn b j*2^(8*j)
end Sp
theorem fr_pv:p_48 Sp.frm8=true/\v_48 Sp.frm8=(true,()):=pv_48 _ (by kernel_rfl)
theorem bt0_pv:p_49 Sp.sg0=true/\v_49 Sp.sg0=(Sp.bitl 0,()):=pv_49 _ (by kernel_rfl)
theorem bt1_pv:p_49 Sp.sg1=true/\v_49 Sp.sg1=(Sp.bitl 32,()):=pv_49 _ (by kernel_rfl)
theorem wth_pv(x a b:Int):p_62 x a b=true/\v_62 x a b=(decide (a<=x)&&decide (x<=b),()):=by
 refine pv_62 x a b ?_
 unfold F_62
 by_cases h:x>=a
 ·rw[cond_dtt h,decide_eq_true (show a<=x from h),Bool.true_and]
 ·rw[cond_dff h,decide_eq_false (show ¬a<=x from h),Bool.false_and]
theorem prm_pv(s:SgT)(hs:s.2.2.2.2.2.2.2.2.1=0/\s.2.2.2.2.2.2.2.2.2.1=4294967295)(r:Nat)(hr:r<2^32):p_50 s r=true/\v_50 s r=(true,()):=by
 refine pv_50 s r ?_
 unfold F_50
 rw[hs.1,hs.2,(wth_pv _ _ _).1,(wth_pv _ _ _).2,gd_tt,decide_eq_true (by omega),decide_eq_true (by omega)]
 rfl
theorem bitl_len(o:Nat):(Sp.bitl o).length=32:=by simp[Sp.bitl]
theorem bitl_at(o:Nat){j:Nat}(hj:j<32):(Sp.bitl o).getD j 0=((o+j:Nat):Int):=by
 simp[Sp.bitl,List.getD_eq_getElem?_getD,hj]
theorem w64n{a:Nat}(h:a<2^64):wrap .u64 (a:Int)=a:=wu64 (by omega) (by omega)
theorem orW_nat{a b:Nat}(ha:a<2^64)(hb:b<2^64):Sp.orI .u64 a b=((a|||b:Nat):Int):=by
 unfold Sp.orI
 rw[BitVec.toNat_or,ofInt_nat (n:=IntKind.bits .u64) ha,ofInt_nat (n:=IntKind.bits .u64) hb]
 exact w64n (Nat.or_lt_two_pow (n:=64) ha hb)
theorem andW_one{a:Nat}(ha:a<2^64):Sp.andI .u64 a 1=((a%2:Nat):Int):=by
 unfold Sp.andI
 rw[BitVec.toNat_and,ofInt_nat (n:=IntKind.bits .u64) ha,show(BitVec.ofInt (IntKind.bits .u64) 1).toNat=1 from rfl,Nat.and_one_is_mod]
 exact w64n (by omega)
theorem andJ_one{a:Nat}(ha:a<2^62):Sp.andI .i64 a 1=((a%2:Nat):Int):=by
 have:=andI_nat (k:= .i64) 62 (by decide) ha (b:=1) (by decide)
 rw[Nat.and_one_is_mod]at this
 exact this
theorem fdiv_nat(a n:Nat):Int.fdiv (a:Int) (2^n)=((a/2^n:Nat):Int):=by
 rw[Int.fdiv_eq_ediv_of_nonneg _ (by exact_mod_cast Nat.zero_le _)]
 push_cast
 rfl
theorem pmul(a n:Nat):(a:Int)*2^n=((a*2^n:Nat):Int):=by push_cast;rfl
theorem vl_lt{b:List Int}(hb:∀x∈b,0<=x/\x<256):∀j,Sp.vl b j<2^(8*j)
 |0=>Nat.two_pow_pos _
 |j+1=>by
  have:=vl_lt hb j
  have h:Sp.bn b j<=255:=by
   unfold Sp.bn
   rw[List.getD_eq_getElem?_getD]
   cases e:b[j]? with
   |none=>decide
   |some x=>have:=hb x (List.mem_of_getElem? e);show x.toNat<=255;omega
  rw[Sp.vl,show 8*(j+1)=8*j+8 by omega,Nat.pow_add]
  have h2:Sp.bn b j*2^(8*j)<=255*2^(8*j):=Nat.mul_le_mul_right _ h
  omega
theorem bn_at{b:List Int}(hb:∀x∈b,0<=x/\x<256)(j:Nat):b.getD j 0=(Sp.bn b j:Int)/\Sp.bn b j<256:=by
 unfold Sp.bn
 rw[List.getD_eq_getElem?_getD]
 cases e:b[j]? with
 |none=>exact⟨rfl,by decide⟩
 |some x=>have:=hb x (List.mem_of_getElem? e);exact⟨by show x=(x.toNat:Int);omega,by show x.toNat<256;omega⟩
theorem p64{j:Nat}(hj:j<=64):(2:Nat)^j<=2^64:=Nat.pow_le_pow_right (by decide) hj
theorem dec0{b:List Int}(hl:b.length=8)(hb:∀x∈b,0<=x/\x<256)(f:FrT):L_26_0 4611686018427387904 0 b 8 0 f=some (.e0 (Sp.vl b 8) f):=by
 have t:=run0 (fun m i x=>L_26_0 m x b 8 i f) (n:=8) (fun j=>(Sp.vl b j:Int)) (r:=some (.e0 (Sp.vl b 8) f)) (by decide) (fun m j hj=>by
  show L_26_0 (m+1) (Sp.vl b j) b 8 (j:Int) f=L_26_0 m (Sp.vl b (j+1)) b 8 ((j+1:Nat):Int) f
  obtain⟨e,h⟩:=bn_at hb j
  have v:=vl_lt hb j
  have p:=p64 (j:=8*j+8) (by omega)
  rw[Nat.pow_add]at p
  have h2:Sp.bn b j*2^(8*j)<=255*2^(8*j):=Nat.mul_le_mul_right _ (by omega)
  rw[L_26_0,S_26_0,cond_dtt (by omega),gd_inB (by omega) (by omega),wi64 (n:=8*(j:Int)) (by omega) (by omega),gd_dec (by omega),Int.toNat_natCast,e,w64n (by omega),show(8*(j:Int)).toNat=8*j by omega,nmin_l (by omega),pmul,w64n (by omega),orW_nat (by omega) (by omega),Nat.or_comm,or_add _ v,Nat.add_comm,wi64 (by omega) (by omega)]
  rfl) (fun m=>by
  show L_26_0 (m+1) (Sp.vl b 8) b 8 8 f=_
  rw[L_26_0,S_26_0,cond_dff (by decide)])
 exact t
theorem dec2{x:Nat}(hx:x<2^64)(o:Nat)(ho:o<=32)(l:List SgT)(p3 p4:Int)(p8:List Int)(s:SgT):L_26_2 4611686018427387904 x 0 l p3 p4 (Sp.bitl o) 32 0 p8 s=some (.e0 x ((x/2^o%2^32:Nat):Int) l p3 p4 p8 s):=by
 have t:=run0 (fun m i r=>L_26_2 m x r l p3 p4 (Sp.bitl o) 32 i p8 s) (n:=32) (fun j=>((x/2^o%2^j:Nat):Int)) (r:=some (.e0 x ((x/2^o%2^32:Nat):Int) l p3 p4 p8 s)) (by decide) (fun m j hj=>by
  show L_26_2 (m+1) x ((x/2^o%2^j:Nat):Int) l p3 p4 (Sp.bitl o) 32 (j:Int) p8 s=L_26_2 m x ((x/2^o%2^(j+1):Nat):Int) l p3 p4 (Sp.bitl o) 32 ((j+1:Nat):Int) p8 s
  have q:x/2^o%2^j<2^j:=Nat.mod_lt _ (Nat.two_pow_pos j)
  have q2:(2:Nat)^j<=2^31:=Nat.pow_le_pow_right (by decide) (by omega)
  have q3:x/2^(o+j)%2*2^j<=1*2^j:=Nat.mul_le_mul_right _ (by omega)
  have q4:x/2^(o+j)<=x:=Nat.div_le_self ..
  rw[L_26_2,S_26_2,cond_dtt (by omega),gd_inB (by omega) (by rw[bitl_len];omega),Int.toNat_natCast,bitl_at o hj,gd_dec (by omega),gd_dec (by omega),Int.toNat_natCast,nmin_l (a:=o+j) (by omega),nmin_l (a:=j) (by omega),fdiv_nat,andW_one (by omega),wi64 (n:=((x/2^(o+j)%2:Nat):Int)) (by omega) (by omega),pmul,wi64 (n:=((x/2^(o+j)%2*2^j:Nat):Int)) (by omega) (by omega),orI_nat (k:= .i64) 33 (by decide) (by omega) (by omega),Nat.or_comm,or_add _ q,wi64 (n:=(j:Int)+1) (by omega) (by omega),Nat.mod_pow_succ,Nat.pow_add,<-Nat.div_div_eq_div_mul,Nat.mul_comm (2^j),Nat.add_comm]
  rfl) (fun m=>by
  show L_26_2 (m+1) x _ l p3 p4 (Sp.bitl o) 32 32 p8 s=_
  rw[L_26_2,S_26_2,cond_dff (by decide)])
 have e0:((x/2^o%2^0:Nat):Int)=0:=by rw[Nat.pow_zero,Nat.mod_one];rfl
 have t:L_26_2 4611686018427387904 x ((x/2^o%2^0:Nat):Int) l p3 p4 (Sp.bitl o) 32 0 p8 s=_:=t
 rw[e0]at t
 exact t
noncomputable def Sp.raws(x:Nat):Nat->List Int
 |0=>[]
 |1=>[((x/2^0%2^32:Nat):Int)]
 |_=>[((x/2^0%2^32:Nat):Int),((x/2^32%2^32:Nat):Int)]
theorem dec_s{x:Nat}(hx:x<2^64)(m:Nat)(i:Int)(s:SgT)(o:Nat)(ho:o<=32)(acc:List Int)(hi:0<=i/\i<2)(hg:([Sp.sg0,Sp.sg1]:List SgT).getD i.toNat (Ty.dflt (.pair .str (.pair (.int .i64) (.pair (.int .i64) (.pair .bool (.pair .bool (.pair (.int .i64) (.pair (.int .i64) (.pair (.int .i64) (.pair (.int .i64) (.pair (.int .i64) .unit)))))))))))=s)(hs:s.2.2.2.2.1=false)(hp:s.2.2.2.2.2.2.2.2.1=0/\s.2.2.2.2.2.2.2.2.2.1=4294967295)(hb:p_49 s=true/\v_49 s=(Sp.bitl o,()))(ha:acc.length<=10) :
 L_26_1 (m+1) x [Sp.sg0,Sp.sg1] 2 i acc=L_26_1 m x [Sp.sg0,Sp.sg1] 2 (i+1) (acc++[((x/2^o%2^32:Nat):Int)]):=by
 have r:=prm_pv s hp (x/2^o%2^32) (Nat.mod_lt _ (Nat.two_pow_pos 32))
 rw[L_26_1,S_26_1,cond_dtt hi.2,gd_inB hi.1 (by show i<((2:Nat):Int);omega),hg,hb.1,hb.2,gd_tt]
 dsimp only
 rw[bitl_len]
 refine(congrArg (fun z=>B_26_2 z _) (dec2 hx o ho _ _ _ _ _)).trans ?_
 unfold B_26_2
 dsimp only
 rw[hs,cond_f,r.1,r.2,gd_tt,Bool.not_true,cond_f,gd_room (by omega) (by omega),wi64 (by omega) (by omega)]
theorem dec1{x:Nat}(hx:x<2^64):L_26_1 4611686018427387904 x [Sp.sg0,Sp.sg1] 2 0 []=some (.e1 (Sp.raws x 2)):=by
 have t:=run0 (fun m i r=>L_26_1 m x [Sp.sg0,Sp.sg1] 2 i r) (n:=2) (Sp.raws x) (r:=some (.e1 (Sp.raws x 2))) (by decide) (fun m j hj=>by
  match j,hj with
  |0,_=>exact dec_s hx m 0 Sp.sg0 0 (by decide) [] ⟨by decide,by decide⟩ rfl rfl ⟨rfl,rfl⟩ bt0_pv (by decide)
  |1,_=>exact dec_s hx m 1 Sp.sg1 32 (by decide) _ ⟨by decide,by decide⟩ rfl rfl ⟨rfl,rfl⟩ bt1_pv (by show(1:Nat)<=10;decide)) (fun m=>by
  show L_26_1 (m+1) x [Sp.sg0,Sp.sg1] 2 2 (Sp.raws x 2)=_
  rw[L_26_1,S_26_1,cond_dff (by decide)])
 exact t
theorem b260{R:Type}(x:Int)(f:FrT)(k:Int->FrT->Option R):B_26_0 (some (.e0 x f)) k=k x f:=rfl
theorem b261{R:Type}(x:List Int)(k0:Option R)(k:List Int->Option R):B_26_1 (some (.e1 x)) k0 k=k x:=rfl
theorem decd_pv{b:List Int}(hl:b.length=8)(hb:∀x∈b,0<=x/\x<256):p_26 Sp.frm8 b=true/\v_26 Sp.frm8 b=(Sp.raws (Sp.vl b 8) 2,0,()):=by
 refine pv_26 _ _ ?_
 have hx:=vl_lt hb 8
 unfold F_26
 rw[fr_pv.1,fr_pv.2,gd_tt]
 dsimp only
 rw[Bool.not_true,cond_f,cond_nff (by rw[hl];rfl),hl,show((8:Nat):Int)=8 from rfl,dec0 hl hb Sp.frm8,b260,show Sp.frm8.2.2.2.2.1=[Sp.sg0,Sp.sg1]from rfl,show(([Sp.sg0,Sp.sg1]:List SgT).length:Int)=2 from rfl,dec1 hx,b261]
theorem b271{R:Type}(p0 p1 p3 p4 p5 p9)(k:List Int->Int->List SgT->Int->Int->FrT->Option R):B_27_1 (some (.e0 p0 p1 p3 p4 p5 p9)) k=k p0 p1 p3 p4 p5 p9:=rfl
theorem b270{R:Type}(p1 p5)(k0:Option R)(k:Int->FrT->Option R):B_27_0 (some (.e1 p1 p5)) k0 k=k p1 p5:=rfl
theorem b272{R:Type}(p3)(k:List Int->Option R):B_27_2 (some (.e0 p3)) k=k p3:=rfl
theorem enc1{l:List Int}{q:Nat}{r a:Nat}(hq:l.getD q 0=(r:Int))(hql:q<l.length)(hr:r<2^32)(o:Nat)(ho:o<=32)(ha:a<2^o)(p3:List SgT)(p4 p5:Int)(f:FrT) :
 L_27_1 4611686018427387904 l a q p3 p4 p5 (Sp.bitl o) 32 0 f=some (.e0 l ((a+r*2^o:Nat):Int) p3 p4 p5 f):=by
 have t:=run0 (fun m i x=>L_27_1 m l x q p3 p4 p5 (Sp.bitl o) 32 i f) (n:=32) (fun j=>((a+r%2^j*2^o:Nat):Int)) (r:=some (.e0 l ((a+r*2^o:Nat):Int) p3 p4 p5 f)) (by decide) (fun m j hj=>by
  show L_27_1 (m+1) l ((a+r%2^j*2^o:Nat):Int) q p3 p4 p5 (Sp.bitl o) 32 (j:Int) f=L_27_1 m l ((a+r%2^(j+1)*2^o:Nat):Int) q p3 p4 p5 (Sp.bitl o) 32 ((j+1:Nat):Int) f
  have m1:r%2^j<2^j:=Nat.mod_lt _ (Nat.two_pow_pos j)
  have m2:r%2^j*2^o+2^o<=2^j*2^o:=by
   have:=Nat.mul_le_mul_right (2^o) (show r%2^j+1<=2^j from m1)
   rw[Nat.add_mul,Nat.one_mul]at this
   exact this
  have m3:(2:Nat)^(o+j)<=2^63:=Nat.pow_le_pow_right (by decide) (by omega)
  have m4:a+r%2^j*2^o<2^(o+j):=by rw[Nat.pow_add,Nat.mul_comm (2^o)];omega
  have m5:r/2^j%2*2^(o+j)<=1*2^(o+j):=Nat.mul_le_mul_right _ (by omega)
  have m6:r/2^j<=r:=Nat.div_le_self ..
  have e:a+r%2^(j+1)*2^o=r/2^j%2*2^(o+j)+(a+r%2^j*2^o):=by
   rw[Nat.mod_pow_succ,Nat.add_mul,Nat.mul_comm (2^j),Nat.mul_assoc,<-Nat.pow_add,Nat.add_comm j o]
   omega
  rw[L_27_1,S_27_1,cond_dtt (by omega),gd_inB (by omega) (by rw[bitl_len];omega),gd_inB (by omega) (by omega),gd_dec (by omega),Int.toNat_natCast,bitl_at o hj,gd_dec (by omega),Int.toNat_natCast,Int.toNat_natCast,hq,nmin_l (a:=o+j) (by omega),nmin_l (a:=j) (by omega),fdiv_nat,andJ_one (by omega),w64n (a:=r/2^j%2) (by omega),pmul,w64n (by omega),orW_nat (by omega) (by omega),Nat.or_comm,or_add _ m4,wi64 (n:=(j:Int)+1) (by omega) (by omega),e]
  rfl) (fun m=>by
  show L_27_1 (m+1) l ((a+r%2^32*2^o:Nat):Int) q p3 p4 p5 (Sp.bitl o) 32 32 f=_
  rw[L_27_1,S_27_1,cond_dff (by decide),Nat.mod_eq_of_lt hr])
 have e0:((a+r%2^0*2^o:Nat):Int)=(a:Int):=by rw[Nat.pow_zero,Nat.mod_one,Nat.zero_mul];rfl
 have t:L_27_1 4611686018427387904 l ((a+r%2^0*2^o:Nat):Int) q p3 p4 p5 (Sp.bitl o) 32 0 f=_:=t
 rw[e0]at t
 exact t
theorem enc_s{l:List Int}{q:Nat}{r a:Nat}(hq:l.getD q 0=(r:Int))(hql:q<l.length)(hq2:q<2)(hr:r<2^32)(m:Nat)(s:SgT)(o:Nat)(ho:o<=32)(ha:a<2^o)(f:FrT)(hg:([Sp.sg0,Sp.sg1]:List SgT).getD q (Ty.dflt (.pair .str (.pair (.int .i64) (.pair (.int .i64) (.pair .bool (.pair .bool (.pair (.int .i64) (.pair (.int .i64) (.pair (.int .i64) (.pair (.int .i64) (.pair (.int .i64) .unit)))))))))))=s)(hp:s.2.2.2.2.2.2.2.2.1=0/\s.2.2.2.2.2.2.2.2.2.1=4294967295)(hb:p_49 s=true/\v_49 s=(Sp.bitl o,())) :
 L_27_0 (m+1) l a [Sp.sg0,Sp.sg1] 2 q f=L_27_0 m l ((a+r*2^o:Nat):Int) [Sp.sg0,Sp.sg1] 2 ((q+1:Nat):Int) f:=by
 have t:=prm_pv s hp r hr
 rw[L_27_0,S_27_0,cond_dtt (by omega),gd_inB (by omega) (by show(q:Int)<((2:Nat):Int);omega),gd_inB (by omega) (by omega),Int.toNat_natCast,hg,hq,t.1,t.2,gd_tt,Bool.not_true,cond_f,hb.1,hb.2,gd_tt]
 dsimp only
 rw[bitl_len]
 refine(congrArg (fun z=>B_27_1 z _) (enc1 hq hql hr o ho ha _ _ _ _)).trans ?_
 rw[b271,wi64 (by omega) (by omega)]
 rfl
noncomputable def Sp.acs(x:Nat):Nat->Int
 |0=>0
 |1=>((0+x/2^0%2^32*2^0:Nat):Int)
 |_=>((0+x/2^0%2^32*2^0+x/2^32%2^32*2^32:Nat):Int)
theorem enc0{x:Nat}(hx:x<2^64)(f:FrT):L_27_0 4611686018427387904 (Sp.raws x 2) 0 [Sp.sg0,Sp.sg1] 2 0 f=some (.e1 (x:Int) f):=by
 have h0:x/2^0%2^32<2^32:=Nat.mod_lt _ (Nat.two_pow_pos 32)
 have h1:x/2^32%2^32<2^32:=Nat.mod_lt _ (Nat.two_pow_pos 32)
 have e:0+x/2^0%2^32*2^0+x/2^32%2^32*2^32=x:=by omega
 have t:=run0 (fun m i a=>L_27_0 m (Sp.raws x 2) a [Sp.sg0,Sp.sg1] 2 i f) (n:=2) (Sp.acs x) (r:=some (.e1 (x:Int) f)) (by decide) (fun m j hj=>by
  match j,hj with
  |0,_=>exact enc_s (l:=Sp.raws x 2) (q:=0) (r:=x/2^0%2^32) (a:=0) rfl (by show(0:Nat)<2;decide) (by decide) h0 m Sp.sg0 0 (by decide) (by decide) f rfl ⟨rfl,rfl⟩ bt0_pv
  |1,_=>exact enc_s (l:=Sp.raws x 2) (q:=1) (r:=x/2^32%2^32) (a:=0+x/2^0%2^32*2^0) rfl (by show(1:Nat)<2;decide) (by decide) h1 m Sp.sg1 32 (by decide) (by omega) f rfl ⟨rfl,rfl⟩ bt1_pv) (fun m=>by
  show L_27_0 (m+1) (Sp.raws x 2) ((0+x/2^0%2^32*2^0+x/2^32%2^32*2^32:Nat):Int) [Sp.sg0,Sp.sg1] 2 2 f=_
  rw[L_27_0,S_27_0,cond_dff (by decide),e])
 exact t
theorem set_tk{b:List Int}(hb:b.length=8){j:Nat}(hj:j<8):(b.take j++replicate (8-j) 0).set j (b.getD j 0)=b.take (j+1)++replicate (8-(j+1)) 0:=by
 match b,hb with
 |[_,_,_,_,_,_,_,_],_=>
  match j,hj with
  |0,_=>rfl|1,_=>rfl|2,_=>rfl|3,_=>rfl|4,_=>rfl|5,_=>rfl|6,_=>rfl|7,_=>rfl
theorem vl_at{b:List Int}(hb:∀x∈b,0<=x/\x<256){j:Nat}(hj:j<8):Sp.vl b 8/2^(8*j)%256=Sp.bn b j:=by
 have h:=fun i=>(bn_at hb i).2
 have h0:=h 0;have h1:=h 1;have h2:=h 2;have h3:=h 3;have h4:=h 4;have h5:=h 5;have h6:=h 6;have h7:=h 7
 have e:Sp.vl b 8=Sp.bn b 0+Sp.bn b 1*256+Sp.bn b 2*65536+Sp.bn b 3*16777216+Sp.bn b 4*4294967296+Sp.bn b 5*1099511627776+Sp.bn b 6*281474976710656+Sp.bn b 7*72057594037927936:=by
  show 0+Sp.bn b 0*1+Sp.bn b 1*256+Sp.bn b 2*65536+Sp.bn b 3*16777216+Sp.bn b 4*4294967296+Sp.bn b 5*1099511627776+Sp.bn b 6*281474976710656+Sp.bn b 7*72057594037927936=_
  omega
 rw[e]
 match j,hj with
 |0,_=>show _/1%256=_;omega
 |1,_=>show _/256%256=_;omega
 |2,_=>show _/65536%256=_;omega
 |3,_=>show _/16777216%256=_;omega
 |4,_=>show _/4294967296%256=_;omega
 |5,_=>show _/1099511627776%256=_;omega
 |6,_=>show _/281474976710656%256=_;omega
 |7,_=>show _/72057594037927936%256=_;omega
theorem enc2{b:List Int}(hl:b.length=8)(hb:∀x∈b,0<=x/\x<256):L_27_2 4611686018427387904 (Sp.vl b 8) 8 0 (replicate 8 0)=some (.e0 b):=by
 have t:=run0 (fun m i l=>L_27_2 m (Sp.vl b 8) 8 i l) (n:=8) (fun j=>b.take j++replicate (8-j) 0) (r:=some (.e0 b)) (by decide) (fun m j hj=>by
  show L_27_2 (m+1) (Sp.vl b 8) 8 (j:Int) (b.take j++replicate (8-j) 0)=L_27_2 m (Sp.vl b 8) 8 ((j+1:Nat):Int) (b.take (j+1)++replicate (8-(j+1)) 0)
  have ll:(b.take j++replicate (8-j) (0:Int)).length=8:=by rw[List.length_append,List.length_take,List.length_replicate];omega
  obtain⟨e,h⟩:=bn_at hb j
  rw[L_27_2,S_27_2,cond_dtt (by omega),wi64 (n:=8*(j:Int)) (by omega) (by omega),gd_dec (by omega),gd_inB (by omega) (by omega),Int.toNat_natCast,Bool.and_true,Bool.and_true,gd_dec (by omega),show(8*(j:Int)).toNat=8*j by omega,nmin_l (by omega),fdiv_nat,u8_mod,show((Sp.vl b 8/2^(8*j):Nat):Int)%256=((Sp.vl b 8/2^(8*j)%256:Nat):Int) by omega,vl_at hb hj,<-e,set_tk hl hj,wi64 (by omega) (by omega)]
  rfl) (fun m=>by
  show L_27_2 (m+1) (Sp.vl b 8) 8 8 (b.take 8++replicate (8-8) 0)=_
  rw[L_27_2,S_27_2,cond_dff (by decide),List.take_of_length_le (by omega)]
  exact congrArg (fun z=>some (E_27_2.e0 z)) (List.append_nil b))
 exact t
theorem encd_pv{b:List Int}(hl:b.length=8)(hb:∀x∈b,0<=x/\x<256):p_27 Sp.frm8 (Sp.raws (Sp.vl b 8) 2)=true/\v_27 Sp.frm8 (Sp.raws (Sp.vl b 8) 2)=(b,0,()):=by
 refine pv_27 _ _ ?_
 have hx:=vl_lt hb 8
 unfold F_27
 rw[fr_pv.1,fr_pv.2,gd_tt]
 dsimp only
 rw[Bool.not_true,cond_f,cond_nff (show((Sp.raws (Sp.vl b 8) 2).length:Int)=(Sp.frm8.2.2.2.2.1.length:Int)from rfl),show Sp.frm8.2.2.2.2.1=[Sp.sg0,Sp.sg1]from rfl,show(([Sp.sg0,Sp.sg1]:List SgT).length:Int)=2 from rfl,enc0 hx Sp.frm8,b270]
 rw[show Sp.frm8.2.2.1=8 from rfl,show(decide ((0:Int)<=8)&&((8:Int)==8&&room (toNat 8) 1))=true by decide,gd_tt,show((replicate (toNat 8) (0:Int)).length:Int)=8 from rfl,show replicate (toNat 8) (0:Int)=replicate 8 0 from rfl,enc2 hl hb,b272]
theorem beq_pv(a b:List Int):p_5 a b=true/\v_5 a b=(a==b,()):=pv_5 a b rfl
theorem bus_pv{b:List Int}(hl:b.length=8)(hb:∀x∈b,0<=x/\x<256):p_10 b=true/\v_10 b=(b,true,()):=by
 have d:=decd_pv hl hb
 have e:=encd_pv hl hb
 have q:=beq_pv b b
 refine pv_10 b ?_
 unfold F_10
 rw[show(([100,105,97,103],2016,8,false,[([108,111,119],0,32,false,false,1,0,1,0,4294967295,()),([104,105,103,104],32,32,false,false,1,0,1,0,4294967295,())],()):FrT)=Sp.frm8 from rfl,d.1,d.2,gd_tt]
 dsimp only
 rw[cond_nff rfl,e.1,e.2,gd_tt]
 dsimp only
 rw[cond_ett rfl,q.1,q.2,gd_tt,beq_self_eq_true]
set_option maxRecDepth 100000
set_option maxHeartbeats 4000000
abbrev SnT:=List Int×Int×Int×Int×Int×Bool×Int×Int×Bool×Unit
abbrev RcT:=List Int×Int×Int×Int×Int×Bool×Bool×Int×Bool×Unit
abbrev By(l:List Int):Prop:=∀x∈l,0<=x/\x<256
theorem msg_pv{l:List Int}(h0:1<=l.length)(h1:l.length<=1023):p_22 l=true/\v_22 l=(true,()):=by
 refine pv_22 l ?_
 unfold F_22
 rw[cond_dtt (by omega),decide_eq_true (by omega)]
theorem ins_pv{t:Int}(h0:0<=t)(h1:t<=1099511627776):p_23 t=true/\v_23 t=(true,()):=by
 refine pv_23 t ?_
 unfold F_23
 rw[cond_dtt (by omega),decide_eq_true (by omega)]
theorem prt_pv{n l:Nat}(h0:7<l)(h1:l<=1023)(h2:6<=n)(h3:n<l)(h4:(n-6)%7=0):p_51 n l=true/\v_51 n l=(true,()):=by
 refine pv_51 n l ?_
 unfold F_51
 have e:Int.tmod (wrap .i64 ((n:Int)-6)) 7=0:=by
  rw[wi64 (by omega) (by omega),Int.tmod_eq_emod_of_nonneg (by omega)];omega
 rw[cond_dtt (by omega),cond_dtt (by omega),cond_dtt (by omega),cond_dtt (by omega),e]
 rfl
theorem cnt_pv{b n:Nat}(h0:b<=255)(h1:n<=255)(h2:b=0\/n<b):p_52 b n=true/\v_52 b n=(true,()):=by
 refine pv_52 b n ?_
 unfold F_52
 rw[cond_dtt (by omega),cond_dtt (by omega),cond_dtt (by omega),cond_dtt (by omega)]
 by_cases e:b=0
 ·rw[cond_ett (by omega)]
 ·rw[cond_eff (by omega),decide_eq_true (by omega)]
noncomputable def Sp.pad(l:List Int):List Int:=over (replicate 8 0) 0 (take 8 l)
theorem pad_pv(l:List Int):p_25 l=true/\v_25 l=(Sp.pad l,()):=pv_25 l rfl
theorem pad_eq{l:List Int}(h:l.length<=8):Sp.pad l=l++replicate (8-l.length) 0:=by
 unfold Sp.pad over
 rw[List.take_of_length_le h,List.take_zero,List.nil_append,Nat.zero_add,List.drop_replicate]
theorem pad_len{l:List Int}(h:l.length<=8):(Sp.pad l).length=8:=by
 rw[pad_eq h,List.length_append,List.length_replicate];omega
theorem pad_by{l:List Int}(h:l.length<=8)(hb:By l):By (Sp.pad l):=by
 rw[pad_eq h]
 intro x hx
 rcases List.mem_append.1 hx with hx|hx
 ·exact hb x hx
 ·rw[List.mem_replicate]at hx;omega
theorem pad_at{l:List Int}(h:l.length<=8){i:Nat}(hi:i<l.length):(Sp.pad l).getD i 0=l.getD i 0:=by
 rw[pad_eq h,List.getD_eq_getElem?_getD,List.getElem?_append_left hi,<-List.getD_eq_getElem?_getD]
theorem pad_drop{l:List Int}(h:l.length<=8):drop l.length (Sp.pad l)=replicate (8-l.length) 0:=by
 rw[pad_eq h,List.drop_append_of_le_length (Nat.le_refl _),List.drop_length,List.nil_append]
theorem pad_tail{x:Int}{d:List Int}(h:d.length<=7){k:Nat}(hk:k=d.length):take k (drop 1 (Sp.pad ([x]++d)))=d:=by
 rw[pad_eq (by simp;omega),List.append_assoc]
 show take k (d++_)=d
 rw[hk,List.take_append_of_le_length (Nat.le_refl _),List.take_length]
theorem knd_l(k:Int)(n:Nat)(hn:n<=8):L_28_1 4611686018427387904 k (replicate n 0) n 0=some (.e1 k):=by
 have t:=run0 (fun m i(_:Unit)=>L_28_1 m k (replicate n 0) n i) (n:=n) (fun _=>()) (r:=some (.e1 k)) (by omega) (fun m j hj=>by
  show L_28_1 (m+1) k (replicate n 0) n (j:Int)=L_28_1 m k (replicate n 0) n ((j+1:Nat):Int)
  have e:(replicate n (0:Int)).getD j 0=0:=by
   rw[List.getD_eq_getElem?_getD,List.getElem?_replicate,if_pos hj];rfl
  rw[L_28_1,S_28_1,cond_dtt (by omega),gd_inB (by omega) (by rw[List.length_replicate];omega),Int.toNat_natCast,e,cond_nff rfl,wi64 (by omega) (by omega)]
  rfl) (fun m=>by
  show L_28_1 (m+1) k (replicate n 0) n (n:Int)=_
  rw[L_28_1,S_28_1,cond_dff (by omega)])
 exact t
theorem b281{R:Type}(p0:Int)(k0:Option R)(k:Int->Option R):B_28_1 (some (.e1 p0)) k0 k=k p0:=rfl
theorem b280{R:Type}(p0:Int)(k0:Option R)(k:Int->Option R):B_28_0 (some (.e1 p0)) k0 k=k p0:=rfl
theorem knd_j{f:List Int}(hf:f.length=8)(k:Int){r:Nat}(hr:r<=8)(hd:drop r f=replicate (8-r) 0):J_28_0 f k r=some (.e1 k):=by
 unfold J_28_0 S_28_0
 rw[gd_sl3 (by omega) (by omega) (by omega),Int.toNat_natCast,hd,List.length_replicate,knd_l k (8-r) (by omega),b281]
theorem n_con:∀n:Fin 16,wrap .u8 (Sp.orI .i64 32 (n.val:Int))=32+(n.val:Int)/\wrap .i64 (Int.fdiv (32+(n.val:Int)) 16)=2/\Sp.andI .u8 (32+(n.val:Int)) 15=(n.val:Int):=by decide+kernel
theorem n_fst:∀n:Fin 4,wrap .u8 (Sp.orI .i64 16 (n.val:Int))=16+(n.val:Int)/\wrap .i64 (Int.fdiv (16+(n.val:Int)) 16)=1/\Sp.andI .u8 (16+(n.val:Int)) 15=(n.val:Int):=by decide+kernel
theorem n_sgl:∀n:Fin 8,wrap .i64 (Int.fdiv (n.val:Int) 16)=0/\Sp.andI .u8 (n.val:Int) 15=(n.val:Int):=by decide+kernel
theorem k_sgl{d:List Int}(h0:1<=d.length)(h1:d.length<=7):p_28 (Sp.pad ([(d.length:Int)]++d))=true/\v_28 (Sp.pad ([(d.length:Int)]++d))=(0,true,()):=by
 refine pv_28 _ ?_
 have hl:([(d.length:Int)]++d).length<=8:=by simp;omega
 have hp:=pad_len hl
 have e0:(Sp.pad ([(d.length:Int)]++d)).getD 0 0=(d.length:Int):=pad_at hl (by simp)
 obtain⟨a,b⟩:=n_sgl ⟨d.length,by omega⟩
 have a:wrap .i64 (Int.fdiv (d.length:Int) 16)=0:=a
 have b:Sp.andI .u8 (d.length:Int) 15=(d.length:Int):=b
 have dd:=pad_drop hl
 rw[show([(d.length:Int)]++d).length=d.length+1 by simp]at dd
 unfold F_28
 rw[cond_nff (by rw[hp];rfl),gd_inB (by decide) (by rw[hp];decide),gd_inB (by decide) (by rw[hp];decide),e0,a,cond_ett rfl,b,wi64 (n:=(d.length:Int)) (by omega) (by omega),cond_dff (by omega),cond_dff (by omega),wi64 (by omega) (by omega),show(d.length:Int)+1=((d.length+1:Nat):Int) by omega,knd_j hp 0 (by omega) dd,b280]
theorem k_con{n:Nat}(hn:n<16){d:List Int}(h1:d.length<=7):p_28 (Sp.pad ([32+(n:Int)]++d))=true/\v_28 (Sp.pad ([32+(n:Int)]++d))=(2,true,()):=by
 refine pv_28 _ ?_
 have hl:([32+(n:Int)]++d).length<=8:=by simp;omega
 have hp:=pad_len hl
 have e0:(Sp.pad ([32+(n:Int)]++d)).getD 0 0=32+(n:Int):=pad_at hl (by simp)
 obtain⟨_,a,_⟩:=n_con ⟨n,hn⟩
 have a:wrap .i64 (Int.fdiv (32+(n:Int)) 16)=2:=a
 unfold F_28
 rw[cond_nff (by rw[hp];rfl),gd_inB (by decide) (by rw[hp];decide),gd_inB (by decide) (by rw[hp];decide),e0,a,cond_eff (by decide),cond_eff (by decide),cond_ett rfl,show(8:Int)=((8:Nat):Int)from rfl,knd_j hp 2 (Nat.le_refl 8) (by rw[List.drop_of_length_le (by omega)];rfl),b280]
theorem or_hl{h l:Nat}(hh:h<4)(hl:l<256):Sp.orI .i64 (wrap .i64 (wrap .i64 (h:Int)*256)) (wrap .i64 (l:Int))=((h*256+l:Nat):Int):=by
 rw[wi64 (n:=(h:Int)) (by omega) (by omega),wi64 (n:=(h:Int)*256) (by omega) (by omega),wi64 (n:=(l:Int)) (by omega) (by omega),show(h:Int)*256=((h*256:Nat):Int) by omega,orI_nat (k:= .i64) 12 (by decide) (by omega) (by omega),show h*256=h*2^8 from rfl,or_add 8 hl]
theorem k_fst{h l:Nat}(hh:h<4)(hl:l<256)(g0:8<=h*256+l)(g1:h*256+l<=1023){d:List Int}(h1:d.length=6):p_28 (Sp.pad ([16+(h:Int),(l:Int)]++d))=true/\v_28 (Sp.pad ([16+(h:Int),(l:Int)]++d))=(1,true,()):=by
 refine pv_28 _ ?_
 have hl8:([16+(h:Int),(l:Int)]++d).length<=8:=by simp;omega
 have hp:=pad_len hl8
 have e0:(Sp.pad ([16+(h:Int),(l:Int)]++d)).getD 0 0=16+(h:Int):=pad_at hl8 (by simp)
 have e1:(Sp.pad ([16+(h:Int),(l:Int)]++d)).getD 1 0=(l:Int):=pad_at hl8 (by simp)
 obtain⟨_,a,b⟩:=n_fst ⟨h,hh⟩
 have a:wrap .i64 (Int.fdiv (16+(h:Int)) 16)=1:=a
 have b:Sp.andI .u8 (16+(h:Int)) 15=(h:Int):=b
 unfold F_28
 rw[cond_nff (by rw[hp];rfl),gd_inB (by decide) (by rw[hp];decide),gd_inB (by decide) (by rw[hp];decide),e0,a,cond_eff (by decide),cond_ett rfl,gd_inB (by decide) (by rw[hp];decide),b,e1,or_hl hh hl,cond_dff (by omega),cond_dff (by omega),show(8:Int)=((8:Nat):Int)from rfl,knd_j hp 1 (Nat.le_refl 8) (by rw[List.drop_of_length_le (by omega)];rfl),b280]
theorem k_go{b:Nat}(hb:b<256):p_28 (Sp.pad [48,(b:Int),0])=true/\v_28 (Sp.pad [48,(b:Int),0])=(3,true,()):=by
 refine pv_28 _ ?_
 have hl:([48,(b:Int),0]:List Int).length<=8:=by show(3:Nat)<=8;decide
 have hp:=pad_len hl
 have e0:(Sp.pad [48,(b:Int),0]).getD 0 0=48:=rfl
 have e2:(Sp.pad [48,(b:Int),0]).getD 2 0=0:=rfl
 have j3:J_28_0 (Sp.pad [48,(b:Int),0]) 3 3=some (.e1 3):=knd_j hp 3 (r:=3) (by decide) (pad_drop hl)
 unfold F_28
 rw[cond_nff (by rw[hp];rfl),gd_inB (by decide) (by rw[hp];decide),gd_inB (by decide) (by rw[hp];decide),e0,show wrap .i64 (Int.fdiv 48 16)=3 from rfl,cond_eff (by decide),cond_eff (by decide),cond_eff (by decide),cond_ett rfl,show wrap .i64 (Sp.andI .u8 48 15)=0 by decide+kernel,cond_dff (by decide),gd_inB (by decide) (by rw[hp];decide),e2,cond_dff (by decide),j3,b280]
theorem goon_pv{b:Nat}(hb:b<256):p_30 b 0=true/\v_30 b 0=(Sp.pad [48,(b:Int),0],()):=by
 refine pv_30 b 0 ?_
 unfold F_30
 rw[(pad_pv _).1,(pad_pv _).2,gd_tt,wu8 (n:=(b:Int)) (by omega) (by omega)]
 rfl
namespace Sp
noncomputable def seg(d:List Int)(j:Nat):List Int:=(d.drop (6+7*j)).take 7
noncomputable def frc(d:List Int)(j:Nat):List Int:=pad ([32+(((j+1)%16:Nat):Int)]++seg d j)
noncomputable def gob(b j:Nat):Nat:=if b=0 then 0 else j%b
noncomputable def snx(d:List Int)(b:Nat)(now:Int)(j:Nat):SnT:=(d,((6+7*j:Nat):Int),(((j+1)%16:Nat):Int),(b:Int),(gob b j:Int),false,0,now,false,())
noncomputable def snw(d:List Int)(b:Nat)(now:Int)(j:Nat):SnT:=(d,((6+7*j:Nat):Int),(((j+1)%16:Nat):Int),(b:Int),0,true,0,now+1000000,false,())
noncomputable def sne(d:List Int):SnT:=(d,(d.length:Int),0,0,0,false,0,0,false,())
noncomputable def sna(d:List Int)(b:Nat)(now:Int)(j:Nat):SnT:=if d.length<=6+7*(j+1)then sne d else if b≠0/\(j+1)%b=0 then snw d b now (j+1)else snx d b now (j+1)
noncomputable def rcb(d:List Int)(b:Nat)(now:Int)(j:Nat):RcT:=(d.take (6+7*j),(d.length:Int),(((j+1)%16:Nat):Int),(b:Int),(gob b j:Int),true,false,now+1000000,false,())
noncomputable def rc0(b:Nat):RcT:=([],0,0,(b:Int),0,false,false,0,false,())
noncomputable def rdn(d:List Int)(b:Nat):RcT:=(d,(d.length:Int),0,(b:Int),0,false,true,0,false,())
noncomputable def goF(b:Nat):List Int:=pad [48,(b:Int),0]
end Sp
theorem seg_len(d:List Int)(j:Nat):(Sp.seg d j).length<=7:=by unfold Sp.seg;rw[List.length_take];omega
theorem gob_lt(b j:Nat):Sp.gob b j<=255\/255<b:=by
 unfold Sp.gob
 by_cases h:b=0
 ·rw[if_pos h];exact .inl (by decide)
 ·rw[if_neg h]
  have:=Nat.mod_lt j (show 0<b by omega)
  omega
theorem gob_c(b j:Nat):b=0\/Sp.gob b j<b:=by
 unfold Sp.gob
 by_cases h:b=0
 ·exact .inl h
 ·rw[if_neg h];exact .inr (Nat.mod_lt j (show 0<b by omega))
theorem vsn_pv{d:List Int}(h0:8<=d.length)(h1:d.length<=1023){j k b g:Nat}(hj:6+7*j<d.length)(hk:k<16)(hb:b<=255)(hg:g<=255)(hc:b=0\/g<b){t:Int}(t0:0<=t)(t1:t<=1099512627776)(w:Bool) :
 p_32 (d,((6+7*j:Nat):Int),(k:Int),(b:Int),(g:Int),w,0,t,false,())=true/\v_32 (d,((6+7*j:Nat):Int),(k:Int),(b:Int),(g:Int),w,0,t,false,())=(true,()):=by
 refine pv_32 _ ?_
 have m:=msg_pv (l:=d) (by omega) h1
 have c:=cnt_pv hb hg hc
 have p:=prt_pv (n:=6+7*j) (l:=d.length) (by omega) h1 (by omega) hj (by omega)
 unfold F_32
 dsimp only
 rw[m.1,m.2,gd_tt]
 dsimp only
 rw[Bool.not_true,cond_f,c.1,c.2,gd_tt]
 dsimp only
 rw[Bool.not_true,cond_f,cond_dff (by omega),cond_dff (by omega),cond_dff (by decide),cond_dff (by decide),cond_dff (by omega),cond_dff (by omega),cond_eff (by omega),p.1,p.2,gd_tt]
 dsimp only
 rw[cond_t]
 cases w<;>rfl
theorem vrc_pv{d:List Int}(h0:8<=d.length)(h1:d.length<=1023){j b:Nat}(hj:6+7*j<d.length)(hb:b<=255){now:Int}(t0:0<=now)(t1:now<=1099511627776) :
 p_29 (Sp.rcb d b now j)=true/\v_29 (Sp.rcb d b now j)=(true,()):=by
 refine pv_29 _ ?_
 have hg:Sp.gob b j<=255:=(gob_lt b j).resolve_right (by omega)
 have c:=cnt_pv hb hg (gob_c b j)
 have ll:(d.take (6+7*j)).length=6+7*j:=by rw[List.length_take];omega
 have p:=prt_pv (n:=6+7*j) (l:=d.length) (by omega) h1 (by omega) hj (by omega)
 unfold F_29 Sp.rcb
 dsimp only
 rw[cond_dff (by omega),cond_dff (by omega),cond_dff (by omega),cond_dff (by omega),cond_t,Bool.not_false,cond_t,cond_t,ll,p.1,p.2,gd_tt]
 dsimp only
 rw[cond_t,cond_dtt (by omega),cond_dtt (by omega),c.1,c.2,gd_tt]
theorem vr0_pv{b:Nat}(hb:b<=255):p_29 (Sp.rc0 b)=true/\v_29 (Sp.rc0 b)=(true,()):=by
 refine pv_29 _ ?_
 unfold F_29 Sp.rc0
 dsimp only
 rw[cond_dff (by omega),cond_dff (by omega),cond_dff (by decide),cond_dff (by decide),cond_f,cond_nff rfl,cond_nff rfl,cond_nff rfl,cond_nff (show(0:Int)=(([]:List Int).length:Int)from rfl),cond_f]
 rfl
theorem snd_short{d:List Int}(h0:1<=d.length)(h1:d.length<=7){now:Int}(t0:0<=now)(t1:now<=1099511627776):p_9 d now=true/\v_9 d now=(Sp.sne d,Sp.pad ([(d.length:Int)]++d),0,()):=by
 refine pv_9 d now ?_
 have m:=msg_pv (l:=d) h0 (by omega)
 have i:=ins_pv t0 t1
 unfold F_9
 rw[m.1,m.2,gd_tt]
 dsimp only
 rw[Bool.not_true,cond_f,i.1,i.2,gd_tt]
 dsimp only
 rw[Bool.not_true,cond_f,gd_room (by omega) (by omega),cond_dtt (by omega),gd_room (by omega) (by omega),(pad_pv _).1,(pad_pv _).2,gd_tt,wu8 (n:=(d.length:Int)) (by omega) (by omega)]
 rfl
theorem snd_long{d:List Int}(h0:8<=d.length)(h1:d.length<=1023){now:Int}(t0:0<=now)(t1:now<=1099511627776):p_9 d now=true/\v_9 d now=(Sp.snw d 0 now 0,Sp.pad ([16+((d.length/256:Nat):Int),((d.length%256:Nat):Int)]++d.take 6),0,()):=by
 refine pv_9 d now ?_
 have m:=msg_pv (l:=d) (by omega) h1
 have i:=ins_pv t0 t1
 obtain⟨a,_⟩:=n_fst ⟨d.length/256,by omega⟩
 have a:wrap .u8 (Sp.orI .i64 16 ((d.length/256:Nat):Int))=16+((d.length/256:Nat):Int):=a
 have e:Int.fdiv (d.length:Int) 256=((d.length/256:Nat):Int):=fdiv_nat d.length 8
 have u:wrap .u8 (d.length:Int)=((d.length%256:Nat):Int):=by rw[u8_mod];omega
 unfold F_9
 rw[m.1,m.2,gd_tt]
 dsimp only
 rw[Bool.not_true,cond_f,i.1,i.2,gd_tt]
 dsimp only
 rw[Bool.not_true,cond_f,gd_room (by omega) (by omega),cond_dff (by omega),gd_sl3 (by omega) (by omega) (by omega),List.drop_zero,gd_room (by rw[List.length_take];omega) (by rw[List.length_take];omega),(pad_pv _).1,(pad_pv _).2,gd_tt,e,a,u,wi64 (n:=now+1000000) (by omega) (by omega)]
 rfl
theorem seg_min{d:List Int}{j:Nat}(h1:d.length<=1023):take (toNat (if(d.length:Int)<wrap .i64 (((6+7*j:Nat):Int)+7)then(d.length:Int)else wrap .i64 (((6+7*j:Nat):Int)+7))-toNat ((6+7*j:Nat):Int)) (drop (toNat ((6+7*j:Nat):Int)) d)=Sp.seg d j\/1000<j:=by
 by_cases hj:1000<j
 ·exact .inr hj
 refine .inl ?_
 unfold Sp.seg
 rw[wi64 (by omega) (by omega),Int.toNat_natCast]
 by_cases c:(d.length:Int)<((6+7*j:Nat):Int)+7
 ·rw[if_pos c,List.take_of_length_le (by rw[List.length_drop];omega),List.take_of_length_le (by rw[List.length_drop];omega)]
 ·rw[if_neg c,show(((6+7*j:Nat):Int)+7).toNat-(6+7*j)=7 by omega]
theorem mod16(j:Nat):Int.tmod (wrap .i64 ((((j+1)%16:Nat):Int)+1)) 16=(((j+1+1)%16:Nat):Int):=by
 rw[wi64 (by omega) (by omega),Int.tmod_eq_emod_of_nonneg (by omega)]
 omega
theorem gob_s{b j:Nat}(hb:b≠0):(Sp.gob b j+1=b->(j+1)%b=0)/\(¬Sp.gob b j+1=b->(j+1)%b=Sp.gob b j+1/\¬(j+1)%b=0):=by
 have hl:=Nat.mod_lt j (show 0<b by omega)
 have e:(j+1)%b=(j%b+1)%b:=by rw[Nat.mod_add_mod]
 unfold Sp.gob
 rw[if_neg hb]
 refine⟨fun h=> ?_,fun h=> ?_⟩
 ·rw[e,h,Nat.mod_self]
 ·have:(j%b+1)%b=j%b+1:=Nat.mod_eq_of_lt (by omega)
  omega
theorem b130{R:Type}(p0 p1 p2 p3 p4 p5)(k0 k1:Int->List Int->(Int×Int×Int×Int×Bool×Int×Int×Bool×Unit)->List Int->(Int×Int×Int×Int×Bool×Int×Int×Bool×Unit)->List Int->Option R):B_13_0 (J_13_0 p0 p1 p2 p3 p4 p5) k0 k1=bif p2.2.2.1==0 then k0 p0 p1 p2 p3 p4 p5 else k1 p0 p1 p2 p3 p4 p5:=by
 unfold J_13_0 S_13_0
 cases p2.2.2.1==0<;>rfl
theorem nxt_pv{d:List Int}(h0:8<=d.length)(h1:d.length<=1023){j b:Nat}(hj:6+7*j<d.length)(hb:b<=255){now:Int}(t0:0<=now)(t1:now<=1099511627776) :
 p_13 (Sp.snx d b now j) now=true/\v_13 (Sp.snx d b now j) now=(Sp.sna d b now j,Sp.frc d j,0,()):=by
 refine pv_13 _ _ ?_
 have hg:Sp.gob b j<=255:=(gob_lt b j).resolve_right (by omega)
 have v:=vsn_pv h0 h1 hj (k:=(j+1)%16) (by omega) hb hg (gob_c b j) t0 (by omega) (t:=now) false
 have i:=ins_pv t0 t1
 have sl:=(seg_min (d:=d) (j:=j) h1).resolve_right (by omega)
 have w7:wrap .i64 (((6+7*j:Nat):Int)+7)=((6+7*j:Nat):Int)+7:=wi64 (by omega) (by omega)
 have s7:=seg_len d j
 obtain⟨a,_⟩:=n_con ⟨(j+1)%16,by omega⟩
 have a:wrap .u8 (Sp.orI .i64 32 (((j+1)%16:Nat):Int))=32+(((j+1)%16:Nat):Int):=a
 unfold F_13 Sp.snx
 dsimp only
 rw[v.1,v.2,gd_tt]
 dsimp only
 rw[Bool.not_true,cond_f,i.1,i.2,gd_tt]
 dsimp only
 rw[Bool.not_true,cond_f,cond_eff (by omega),cond_f,cond_f,cond_dff (by omega),gd_room (by omega) (by omega),sl,a,(pad_pv _).1,(pad_pv _).2,w7,mod16]
 dsimp only
 rw[gd_sl3 (by omega) (by split<;>omega) (by split<;>omega),gd_and,gd_dec (by split<;>omega),gd_room (by omega) (by omega),gd_tt]
 have fr:Sp.pad ([32+(((j+1)%16:Nat):Int)]++Sp.seg d j)=Sp.frc d j:=rfl
 rw[fr]
 by_cases c:d.length<=6+7*(j+1)
 ·have e:(if(d.length:Int)<((6+7*j:Nat):Int)+7 then(d.length:Int)else((6+7*j:Nat):Int)+7)=(d.length:Int):=by split<;>omega
  rw[e,cond_ett rfl]
  unfold Sp.sna
  rw[if_pos c]
  rfl
 ·have e:(if(d.length:Int)<((6+7*j:Nat):Int)+7 then(d.length:Int)else((6+7*j:Nat):Int)+7)=((6+7*(j+1):Nat):Int):=by split<;>omega
  rw[e,cond_eff (by omega),wi64 (n:=(Sp.gob b j:Int)+1) (by omega) (by omega),wi64 (n:=now+1000000) (by omega) (by omega)]
  unfold Sp.sna
  rw[if_neg c]
  by_cases b0:b=0
  ·subst b0
   rw[cond_nff (show((0:Nat):Int)=0 from rfl),b130]
   dsimp only
   rw[if_neg (by omega),cond_ett (show((0:Nat):Int)=0 from rfl),show wrap .i64 (1000*0)=0 from rfl,Int.add_zero,wi64 (n:=now) (by omega) (by omega)]
   rfl
  ·obtain⟨g1,g2⟩:=gob_s (j:=j) b0
   rw[cond_ntt (by omega)]
   by_cases q:Sp.gob b j+1=b
   ·rw[cond_ett (by omega),if_pos ⟨b0,g1 q⟩]
    rfl
   ·rw[cond_eff (by omega),b130]
    dsimp only
    obtain⟨g3,g4⟩:=g2 q
    rw[cond_eff (by omega),if_neg (fun z=>g4 z.2),show wrap .i64 (1000*0)=0 from rfl,Int.add_zero,wi64 (n:=now) (by omega) (by omega)]
    unfold Sp.snx
    rw[show Sp.gob b (j+1)=Sp.gob b j+1 by rw[<-g3];unfold Sp.gob;rw[if_neg b0]]
    rfl
theorem ctl_pv{d:List Int}(h0:8<=d.length)(h1:d.length<=1023){j b c:Nat}(hj:6+7*j<d.length)(hb:b<=255)(hc:c<=255)(hg:Sp.gob b j=0){now:Int}(t0:0<=now)(t1:now<=1099511627776) :
 p_12 (Sp.snw d c now j) (Sp.goF b) now=true/\v_12 (Sp.snw d c now j) (Sp.goF b) now=(Sp.snx d b now j,0,()):=by
 refine pv_12 _ _ _ ?_
 have k:=k_go (b:=b) (by omega)
 have v:p_32 (d,((6+7*j:Nat):Int),(((j+1)%16:Nat):Int),(c:Int),0,true,0,now+1000000,false,())=true/\v_32 (d,((6+7*j:Nat):Int),(((j+1)%16:Nat):Int),(c:Int),0,true,0,now+1000000,false,())=(true,()):=vsn_pv h0 h1 hj (k:=(j+1)%16) (by omega) hc (g:=0) (by omega) (by omega) (t:=now+1000000) (by omega) (by omega) true
 have i:=ins_pv t0 t1
 have hl:([48,(b:Int),0]:List Int).length<=8:=by show(3:Nat)<=8;decide
 have hp:=pad_len hl
 have e0:(Sp.pad [48,(b:Int),0]).getD 0 0=48:=rfl
 have e1:(Sp.pad [48,(b:Int),0]).getD 1 0=(b:Int):=rfl
 have e2:(Sp.pad [48,(b:Int),0]).getD 2 0=0:=rfl
 unfold F_12 Sp.snw Sp.goF
 dsimp only
 rw[k.1,k.2,gd_tt,v.1,v.2,gd_tt]
 dsimp only
 rw[Bool.not_true,cond_f,i.1,i.2,gd_tt]
 dsimp only
 rw[Bool.not_true,cond_f,cond_f,cond_nff rfl,cond_f,cond_dff (by omega),gd_room (by omega) (by omega),gd_inB (by decide) (by rw[hp];decide),e0,show Sp.andI .u8 48 15=0 by decide+kernel,cond_ett rfl,gd_inB (by decide) (by rw[hp];decide),gd_inB (by decide) (by rw[hp];decide),e1,e2,wi64 (n:=(b:Int)) (by omega) (by omega)]
 unfold Sp.snx
 rw[hg]
 rfl
set_option maxRecDepth 100000
set_option maxHeartbeats 4000000
theorem By.td{d:List Int}(h:By d)(a n:Nat):By (take n (drop a d)):=fun x hx=>h x (List.mem_of_mem_drop (List.mem_of_mem_take hx))
theorem By.cons{d:List Int}(h:By d){x:Int}(h0:0<=x)(h1:x<256):By ([x]++d):=fun y hy=>by
 rcases List.mem_cons.1 hy with rfl|hy
 ·exact⟨h0,h1⟩
 ·exact h y hy
theorem frc_by{d:List Int}(h:By d)(j:Nat):By (Sp.frc d j)/\(Sp.frc d j).length=8:=by
 have sl:=seg_len d j
 have l8:([32+(((j+1)%16:Nat):Int)]++Sp.seg d j).length<=8:=by rw[List.length_append,List.length_singleton];omega
 exact⟨pad_by l8 ((h.td _ _).cons (by omega) (by omega)),pad_len l8⟩
theorem goF_by{b:Nat}(hb:b<=255):By (Sp.goF b)/\(Sp.goF b).length=8:=by
 have hl:([48,(b:Int),0]:List Int).length<=8:=by show(3:Nat)<=8;decide
 refine⟨pad_by hl fun x hx=> ?_,pad_len hl⟩
 rcases List.mem_cons.1 hx with rfl|hx
 ·decide
 rcases List.mem_cons.1 hx with rfl|hx
 ·omega
 rw[List.mem_singleton]at hx
 omega
theorem rec_s{d:List Int}(h0:1<=d.length)(h1:d.length<=7){b:Nat}(hb:b<=255){now:Int}(t0:0<=now)(t1:now<=1099511627776):p_11 (Sp.rc0 b) (Sp.pad ([(d.length:Int)]++d)) now=true/\v_11 (Sp.rc0 b) (Sp.pad ([(d.length:Int)]++d)) now=(Sp.rdn d b,[],0,()):=by
 refine pv_11 _ _ _ ?_
 have k:=k_sgl h0 h1
 have v:=vr0_pv hb
 have i:=ins_pv t0 t1
 have hl:([(d.length:Int)]++d).length<=8:=by simp;omega
 have hp:=pad_len hl
 have e0:(Sp.pad ([(d.length:Int)]++d)).getD 0 0=(d.length:Int):=pad_at hl (by simp)
 obtain⟨_,c⟩:=n_sgl ⟨d.length,by omega⟩
 have c:Sp.andI .u8 (d.length:Int) 15=(d.length:Int):=c
 have tl:=pad_tail (x:=(d.length:Int)) (d:=d) h1 rfl
 have v':p_29 ([],0,0,(b:Int),0,false,false,0,false,())=true/\v_29 ([],0,0,(b:Int),0,false,false,0,false,())=(true,()):=v
 unfold F_11 Sp.rc0
 dsimp only
 rw[k.1,k.2,gd_tt,v'.1,v'.2,gd_tt]
 dsimp only
 rw[Bool.not_true,cond_f,i.1,i.2,gd_tt]
 dsimp only
 rw[Bool.not_true,cond_f,cond_f,gd_room (by decide) (by decide),gd_inB (by decide) (by rw[hp];decide),cond_ett rfl,e0,c,wi64 (n:=(d.length:Int)) (by omega) (by omega),wi64 (n:=(d.length:Int)+1) (by omega) (by omega),show((d.length:Int)+1).toNat-1=d.length by omega,tl,gd_sl3 (by omega) (by omega) (by rw[hp];omega),gd_room (by omega) (by omega)]
 rfl
theorem gob_0(b:Nat):Sp.gob b 0=0:=by unfold Sp.gob;split<;>simp
theorem rec_f{d:List Int}(h0:8<=d.length)(h1:d.length<=1023){b:Nat}(hb:b<=255){now:Int}(t0:0<=now)(t1:now<=1099511627776):p_11 (Sp.rc0 b) (Sp.pad ([16+((d.length/256:Nat):Int),((d.length%256:Nat):Int)]++d.take 6)) now=true/\v_11 (Sp.rc0 b) (Sp.pad ([16+((d.length/256:Nat):Int),((d.length%256:Nat):Int)]++d.take 6)) now=(Sp.rcb d b now 0,Sp.goF b,0,()):=by
 refine pv_11 _ _ _ ?_
 have t6:(d.take 6).length=6:=by rw[List.length_take];omega
 have k:=k_fst (h:=d.length/256) (l:=d.length%256) (by omega) (by omega) (by omega) (by omega) t6
 have v:=vr0_pv hb
 have i:=ins_pv t0 t1
 have g:=goon_pv (b:=b) (by omega)
 have hl:([16+((d.length/256:Nat):Int),((d.length%256:Nat):Int)]++d.take 6).length<=8:=by simp;omega
 have hp:=pad_len hl
 have e0:(Sp.pad ([16+((d.length/256:Nat):Int),((d.length%256:Nat):Int)]++d.take 6)).getD 0 0=16+((d.length/256:Nat):Int):=pad_at hl (by simp)
 have e1:(Sp.pad ([16+((d.length/256:Nat):Int),((d.length%256:Nat):Int)]++d.take 6)).getD 1 0=((d.length%256:Nat):Int):=pad_at hl (by simp)
 obtain⟨_,_,c⟩:=n_fst ⟨d.length/256,by omega⟩
 have c:Sp.andI .u8 (16+((d.length/256:Nat):Int)) 15=((d.length/256:Nat):Int):=c
 have e2:drop 2 (Sp.pad ([16+((d.length/256:Nat):Int),((d.length%256:Nat):Int)]++d.take 6))=d.take 6:=by
  rw[pad_eq hl,show 8-([16+((d.length/256:Nat):Int),((d.length%256:Nat):Int)]++d.take 6).length=0 by simp;omega,List.replicate_zero,List.append_nil]
  rfl
 have v':p_29 ([],0,0,(b:Int),0,false,false,0,false,())=true/\v_29 ([],0,0,(b:Int),0,false,false,0,false,())=(true,()):=v
 unfold F_11 Sp.rc0
 dsimp only
 rw[k.1,k.2,gd_tt,v'.1,v'.2,gd_tt]
 dsimp only
 rw[Bool.not_true,cond_f,i.1,i.2,gd_tt]
 dsimp only
 rw[Bool.not_true,cond_f,cond_f,gd_room (by decide) (by decide),gd_inB (by decide) (by rw[hp];decide),cond_eff (by decide),cond_ett rfl,gd_sl3 (by decide) (by rw[hp];decide) (by rw[hp];decide),e2,t6,gd_room (by decide) (by decide),gd_inB (by decide) (by rw[hp];decide),g.1,g.2,gd_tt,e0,e1,c,or_hl (by omega) (by omega),wi64 (n:=now+1000000) (by omega) (by omega),show d.length/256*256+d.length%256=d.length by omega]
 unfold Sp.rcb
 rw[gob_0]
 rfl
theorem seg_l{d:List Int}{j:Nat}(hj:6+7*j<d.length):(Sp.seg d j).length=if d.length<6+7*(j+1)then d.length-(6+7*j)else 7:=by
 unfold Sp.seg
 rw[List.length_take,List.length_drop]
 split<;>omega
theorem seg_app(d:List Int)(j:Nat):d.take (6+7*j)++Sp.seg d j=d.take (6+7*(j+1)):=by
 unfold Sp.seg
 rw[show 6+7*(j+1)=(6+7*j)+7 by omega]
 exact(List.take_add (i:=6+7*j) (j:=7)).symm
theorem rec_c{d:List Int}(h0:8<=d.length)(h1:d.length<=1023){b j:Nat}(hb:b<=255)(hj:6+7*j<d.length){now:Int}(t0:0<=now)(t1:now<=1099511627776):p_11 (Sp.rcb d b now j) (Sp.frc d j) now=true/\v_11 (Sp.rcb d b now j) (Sp.frc d j) now=(if d.length<=6+7*(j+1)then(Sp.rdn d b,[],0,())else(Sp.rcb d b now (j+1),(if b≠0/\(j+1)%b=0 then Sp.goF b else []),0,())):=by
 refine pv_11 _ _ _ ?_
 have sl:=seg_len d j
 have sl2:=seg_l hj
 have k:p_28 (Sp.frc d j)=true/\v_28 (Sp.frc d j)=(2,true,()):=k_con (n:=(j+1)%16) (by omega) sl
 have v:=vrc_pv h0 h1 hj hb t0 t1
 have i:=ins_pv t0 t1
 have g:=goon_pv (b:=b) (by omega)
 have hl:([32+(((j+1)%16:Nat):Int)]++Sp.seg d j).length<=8:=by rw[List.length_append,List.length_singleton];omega
 have hp:(Sp.frc d j).length=8:=pad_len hl
 have e0:(Sp.frc d j).getD 0 0=32+(((j+1)%16:Nat):Int):=pad_at hl (by simp)
 obtain⟨_,_,c⟩:=n_con ⟨(j+1)%16,by omega⟩
 have c:Sp.andI .u8 (32+(((j+1)%16:Nat):Int)) 15=(((j+1)%16:Nat):Int):=c
 have ll:(d.take (6+7*j)).length=6+7*j:=by rw[List.length_take];omega
 have tl:take ((Sp.seg d j).length) (drop 1 (Sp.frc d j))=Sp.seg d j:=pad_tail sl rfl
 have hg:Sp.gob b j<=255:=(gob_lt b j).resolve_right (by omega)
 have v':p_29 (d.take (6+7*j),(d.length:Int),(((j+1)%16:Nat):Int),(b:Int),(Sp.gob b j:Int),true,false,now+1000000,false,())=true/\v_29 (d.take (6+7*j),(d.length:Int),(((j+1)%16:Nat):Int),(b:Int),(Sp.gob b j:Int),true,false,now+1000000,false,())=(true,()):=v
 unfold F_11 Sp.rcb
 dsimp only
 rw[k.1,k.2,gd_tt,v'.1,v'.2,gd_tt]
 dsimp only
 rw[Bool.not_true,cond_f,i.1,i.2,gd_tt]
 dsimp only
 rw[Bool.not_true,cond_f,cond_f,gd_room (by omega) (by omega),gd_inB (by decide) (by rw[hp];decide),cond_eff (by decide),cond_eff (by decide),cond_eff (by decide),cond_f,cond_dff (by omega),e0,c,wi64 (n:=(((j+1)%16:Nat):Int)) (by omega) (by omega),cond_nff rfl,ll,wi64 (n:=(d.length:Int)-((6+7*j:Nat):Int)) (by omega) (by omega)]
 have en:wrap .i64 ((if(d.length:Int)-((6+7*j:Nat):Int)<7 then(d.length:Int)-((6+7*j:Nat):Int)else 7)+1)=((Sp.seg d j).length:Int)+1:=by
  rw[sl2]
  by_cases q:(d.length:Int)-((6+7*j:Nat):Int)<7
  ·rw[if_pos q,if_pos (by omega),wi64 (by omega) (by omega)];omega
  ·rw[if_neg q,if_neg (by omega),wi64 (by omega) (by omega)];rfl
 rw[en,show(((Sp.seg d j).length:Int)+1).toNat-1=(Sp.seg d j).length by omega,tl,seg_app,gd_sl3 (by omega) (by omega) (by rw[hp];omega),gd_room (by omega) (by omega),mod16,wi64 (n:=now+1000000) (by omega) (by omega),wi64 (n:=(Sp.gob b j:Int)+1) (by omega) (by omega)]
 by_cases q:d.length<=6+7*(j+1)
 ·rw[if_pos q,List.take_of_length_le q,cond_ett rfl]
  rfl
 ·rw[if_neg q,cond_eff (by rw[List.length_take];omega)]
  by_cases b0:b=0
  ·subst b0
   rw[cond_ett (show((0:Nat):Int)=0 from rfl),if_neg (by omega)]
   rfl
  ·obtain⟨g1,g2⟩:=gob_s (j:=j) b0
   have gj:Sp.gob b (j+1)=(j+1)%b:=by unfold Sp.gob;rw[if_neg b0]
   rw[cond_eff (by omega)]
   by_cases r:Sp.gob b j+1=b
   ·rw[cond_ett (by omega),g.1,g.2,gd_tt,if_pos ⟨b0,g1 r⟩,gj,g1 r]
    rfl
   ·obtain⟨g3,g4⟩:=g2 r
    rw[cond_eff (by omega),if_neg (fun z=>g4 z.2),gj,g3]
    rfl
theorem b401{R:Type}(x:Int)(f:List Int)(r:RcT)(k0 k2:Option R)(k1:Int->List Int->RcT->Option R):B_4_0_1 (some (.e1 x f r)) k0 k1 k2=k1 x f r:=rfl
theorem ovl{d:List Int}(h0:8<=d.length)(h1:d.length<=1023)(hd:By d){b z:Nat}(hb:b<=255)(z0:6+7*z<d.length)(z1:d.length<=6+7*(z+1)){now N:Int}(hN:(z:Int)+1<N)(t0:0<=now)(t1:now<=1099511627776):∀(k m j:Nat),j+k=z->k<m->
 L_4_0_1 m now (Sp.frc d j) 0 N ((j+1:Nat):Int) (Sp.sna d b now j) (Sp.rcb d b now j)=some (.e1 now (Sp.frc d z) (Sp.rcb d b now z))
 |0,m+1,j,hj,_=>by
  have:j=z:=by omega
  subst this
  obtain⟨f1,f2⟩:=frc_by hd j
  have bp:=bus_pv f2 f1
  have r:=rec_c h0 h1 hb z0 t0 t1
  rw[if_pos z1]at r
  rw[L_4_0_1,S_4_0_1,cond_dtt (by omega),bp.1,bp.2,gd_tt]
  dsimp only
  rw[cond_nff rfl,Bool.not_true,cond_f,r.1,r.2,gd_tt]
  rfl
 |k+1,m+1,j,hj,hm=>by
  obtain⟨f1,f2⟩:=frc_by hd j
  obtain⟨y1,y2⟩:=goF_by hb
  have bp:=bus_pv f2 f1
  have gp:=bus_pv y2 y1
  have hjn:¬d.length<=6+7*(j+1):=by omega
  have r:=rec_c h0 h1 hb (j:=j) (by omega) t0 t1
  rw[if_neg hjn]at r
  have nx:=nxt_pv h0 h1 (j:=j+1) (b:=b) (by omega) hb t0 t1
  have ih:=ovl h0 h1 hd hb z0 z1 hN t0 t1 k m (j+1) (by omega) (by omega)
  rw[L_4_0_1,S_4_0_1,cond_dtt (by omega),bp.1,bp.2,gd_tt]
  dsimp only
  rw[cond_nff rfl,Bool.not_true,cond_f,r.1,r.2,gd_tt]
  dsimp only
  rw[cond_nff rfl,show(Sp.rcb d b now (j+1)).2.2.2.2.2.2.1=false from rfl,cond_f]
  unfold Sp.sna at *
  rw[if_neg hjn]
  by_cases q:b≠0/\(j+1)%b=0
  ·have gz:Sp.gob b (j+1)=0:=by unfold Sp.gob;rw[if_neg q.1];exact q.2
   have ct:=ctl_pv h0 h1 (j:=j+1) (b:=b) (c:=b) (by omega) hb hb gz t0 t1
   rw[if_pos q,if_pos q,y2,cond_dtt (by decide),gp.1,gp.2,gd_tt]
   dsimp only
   rw[Bool.not_true,cond_f,ct.1,ct.2,gd_tt]
   dsimp only
   rw[cond_nff rfl,nx.1,nx.2,gd_tt,wi64 (by omega) (by omega)]
   exact ih
  ·rw[if_neg q,if_neg q,cond_dff (by decide),nx.1,nx.2,gd_tt,wi64 (by omega) (by omega)]
   exact ih
theorem ov0{d:List Int}(h0:8<=d.length)(h1:d.length<=1023)(hd:By d){b z:Nat}(hb:b<=255)(z0:6+7*z<d.length)(z1:d.length<=6+7*(z+1)){now N:Int}(hN:(z:Int)+1<N)(t0:0<=now)(t1:now<=1099511627776)(m:Nat)(hm:z<m) :
 L_4_0 (m+1) now (Sp.pad ([16+((d.length/256:Nat):Int),((d.length%256:Nat):Int)]++d.take 6)) 0 N 0 (Sp.snw d 0 now 0) (0,0,(b:Int),0,false,false,0,false,()) []=some (.e4 now (Sp.frc d z) (Sp.rcb d b now z)):=by
 have hl:([16+((d.length/256:Nat):Int),((d.length%256:Nat):Int)]++d.take 6).length<=8:=by simp;omega
 have by_:By ([16+((d.length/256:Nat):Int),((d.length%256:Nat):Int)]++d.take 6):=fun x hx=>by
  rcases List.mem_cons.1 hx with rfl|hx
  ·omega
  rcases List.mem_cons.1 hx with rfl|hx
  ·omega
  exact hd x (List.mem_of_mem_take hx)
 have bp:=bus_pv (pad_len hl) (pad_by hl by_)
 obtain⟨y1,y2⟩:=goF_by hb
 have gp:=bus_pv y2 y1
 have r:=rec_f h0 h1 hb t0 t1
 have r1:p_11 ([],0,0,(b:Int),0,false,false,0,false,()) _ now=true:=r.1
 have r2:v_11 ([],0,0,(b:Int),0,false,false,0,false,()) _ now=_:=r.2
 have ct:=ctl_pv h0 h1 (j:=0) (b:=b) (c:=0) (by omega) hb (by decide) (gob_0 b) t0 t1
 have nx:=nxt_pv h0 h1 (j:=0) (b:=b) (by omega) hb t0 t1
 have lp:=ovl h0 h1 hd hb z0 z1 hN t0 t1 z m 0 (by omega) hm
 rw[L_4_0,S_4_0,cond_dtt (by omega),bp.1,bp.2,gd_tt]
 dsimp only
 rw[cond_nff rfl,Bool.not_true,cond_f,r1,r2,gd_tt]
 dsimp only
 rw[cond_nff rfl,show(Sp.rcb d b now 0).2.2.2.2.2.2.1=false from rfl,cond_f,y2,cond_dtt (by decide),gp.1,gp.2,gd_tt]
 dsimp only
 rw[Bool.not_true,cond_f,ct.1,ct.2,gd_tt]
 dsimp only
 rw[cond_nff rfl,nx.1,nx.2,gd_tt,wi64 (by decide) (by decide)]
 refine(congrArg (fun x=>B_4_0_1 x _ _ _) lp).trans ?_
 rw[b401]
theorem b40e4{R:Type}(x:Int)(f:List Int)(r:RcT)(k0 k2 k3 k5:Option R)(k1)(k4:Int->List Int->RcT->Option R):B_4_0 (some (.e4 x f r)) k0 k1 k2 k3 k4 k5=k4 x f r:=rfl
theorem b40e1{R:Type}(x:Int)(f:List Int)(p6)(p7)(k0 k2 k3 k5:Option R)(k1)(k4:Int->List Int->RcT->Option R):B_4_0 (some (.e1 x f p6 p7)) k0 k1 k2 k3 k4 k5=k1 x f p6 p7:=rfl
theorem ovs{d:List Int}(h0:1<=d.length)(h1:d.length<=7)(hd:By d){b:Nat}(hb:b<=255){now N:Int}(hN:0<N)(t0:0<=now)(t1:now<=1099511627776)(m:Nat)(s:SnT) :
 L_4_0 (m+1) now (Sp.pad ([(d.length:Int)]++d)) 0 N 0 s (0,0,(b:Int),0,false,false,0,false,()) []=some (.e1 now (Sp.pad ([(d.length:Int)]++d)) (0,0,(b:Int),0,false,false,0,false,()) []):=by
 have hl:([(d.length:Int)]++d).length<=8:=by simp;omega
 have bp:=bus_pv (pad_len hl) (pad_by hl (hd.cons (by omega) (by omega)))
 have r:=rec_s h0 h1 hb t0 t1
 have r1:p_11 ([],0,0,(b:Int),0,false,false,0,false,()) _ now=true:=r.1
 have r2:v_11 ([],0,0,(b:Int),0,false,false,0,false,()) _ now=_:=r.2
 rw[L_4_0,S_4_0,cond_dtt (by omega),bp.1,bp.2,gd_tt]
 dsimp only
 rw[cond_nff rfl,Bool.not_true,cond_f,r1,r2,gd_tt]
 rfl
theorem ovf_pv{d:List Int}(h0:1<=d.length)(h1:d.length<=1023)(hd:By d){b:Int}(b0:0<=b)(b1:b<256){now:Int}(t0:0<=now)(t1:now<=1099511627776):p_4 d b now=true/\v_4 d b now=(d,true,()):=by
 refine pv_4 _ _ _ ?_
 obtain⟨c,rfl⟩:=Int.eq_ofNat_of_zero_le b0
 have hc:c<=255:=by omega
 have eN:wrap .i64 (2+wrap .i64 (Int.tdiv (d.length:Int) 7))=2+((d.length/7:Nat):Int):=by
  rw[show Int.tdiv (d.length:Int) 7=((d.length/7:Nat):Int)from(Int.ofNat_tdiv d.length 7).symm,wi64 (n:=((d.length/7:Nat):Int)) (by omega) (by omega),wi64 (by omega) (by omega)]
 unfold F_4
 rw[eN,wi64 (n:=(c:Int)) (by omega) (by omega)]
 by_cases hs:d.length<=7
 ·have s:=snd_short h0 hs t0 t1
  have r:=rec_s h0 hs hc t0 t1
  have hl:([(d.length:Int)]++d).length<=8:=by simp;omega
  have bp:=bus_pv (pad_len hl) (pad_by hl (hd.cons (by omega) (by omega)))
  rw[s.1,s.2,gd_tt]
  dsimp only
  refine(congrArg (fun x=>B_4_0 x _ _ _ _ _ _) (ovs h0 hs hd hc (by omega) t0 t1 4611686018427387903 _)).trans ?_
  rw[b40e1,bp.2]
  show some ((v_11 (Sp.rc0 c) (Sp.pad ([(d.length:Int)]++d)) now).1.1,true,())=_
  rw[r.2]
  rfl
 ·have s:=snd_long (by omega) h1 t0 t1
  obtain⟨z,z0,z1,z2⟩:∃z,6+7*z<d.length/\d.length<=6+7*(z+1)/\z<d.length:=⟨(d.length-7)/7,by omega,by omega,by omega⟩
  have r:=rec_c (by omega) h1 hc z0 t0 t1
  rw[if_pos z1]at r
  obtain⟨f1,f2⟩:=frc_by hd z
  have bp:=bus_pv f2 f1
  rw[s.1,s.2,gd_tt]
  dsimp only
  refine(congrArg (fun x=>B_4_0 x _ _ _ _ _ _) (ov0 (by omega) h1 hd hc z0 z1 (by omega) t0 t1 4611686018427387903 (by omega))).trans ?_
  rw[b40e4,bp.2]
  dsimp only
  rw[r.2]
  rfl
abbrev CfT:=Int×Int×Int×Int×Int×Int×Bool×Int×Unit
abbrev FaT:=Int×Int×Int×Int×Int×List Int×Int×Unit
abbrev FsT:=List CfT×List FaT×Int×Bool×Unit
namespace Sp
noncomputable def inr(x l h:Int):Bool:=decide (x>=l)&&decide (x<=h)
noncomputable def cfg(c:CfT):Bool:=inr c.1 1 16777215&&(inr c.2.1 1 100&&(inr c.2.2.1 1 100&&(inr c.2.2.2.1 1 100&&(inr c.2.2.2.2.1 c.2.2.2.1 255&&(inr c.2.2.2.2.2.1 0 255&&inr c.2.2.2.2.2.2.2.1 0 8)))))
noncomputable def val(x:Int):Bool:=inr x (-1099511627776) 1099511627776
noncomputable def vals(l:List Int):Bool:=(List.range l.length).all fun j=>val (l.getD j 0)
noncomputable def bt(f:FaT)(k:Int):Bool:=andI .i64 f.1 k==k
noncomputable def kno(f:FaT):Bool:=decide (f.2.2.2.2.1>=1)&&(decide (f.2.2.1>=1)&&decide (f.2.2.2.2.2.2.1>=1))
noncomputable def unk(f:FaT):Bool:=(f.2.2.1==0)&&((f.2.2.2.1==0)&&((f.2.2.2.2.1==0)&&(f.2.2.2.2.2.2.1==0)))
noncomputable def q2(f:FaT):Bool:= !(bt f 2&&(f.2.2.2.1 !=0))
noncomputable def q1(c:CfT)(f:FaT):Bool:=(bt f 4==(f.2.2.1==2))&&(!bt f 16||(bt f 4&&c.2.2.2.2.2.2.1))
noncomputable def q0(cyc:Int)(f:FaT):Bool:= !bt f 1||((bt f 2&&bt f 8)&&(f.2.2.2.2.2.2.1==cyc))
noncomputable def rngs(c:CfT)(f:FaT)(cyc:Int):Bool:=inr f.1 0 31&&(inr f.2.1 (0-c.2.2.1) c.2.1&&(inr f.2.2.1 0 2&&(inr f.2.2.2.1 0 (c.2.2.2.2.1-1)&&(inr f.2.2.2.2.1 0 255&&inr f.2.2.2.2.2.2.1 0 cyc))))
noncomputable def frq(c:CfT)(f:FaT):Bool:=(((f.2.2.2.2.2.1.length:Int)==0)||((f.2.2.2.2.2.1.length:Int)==c.2.2.2.2.2.2.2.1))&&vals f.2.2.2.2.2.1
noncomputable def fin(c:CfT)(f:FaT):Bool:=bif bt f 2||bt f 4 then kno f&&((f.2.2.2.2.2.1.length:Int)==c.2.2.2.2.2.2.2.1)else unk f&&((f.2.2.2.2.2.1.length:Int)==0)
noncomputable def rgt(c:CfT)(f:FaT)(cyc:Int):Bool:=rngs c f cyc&&(frq c f&&((q0 cyc f&&(q1 c f&&q2 f))&&fin c f))
end Sp
theorem inr_iff{x l h:Int}:Sp.inr x l h=true↔l<=x/\x<=h:=by simp[Sp.inr]
theorem wit_ok(x l h:Int):F_18 x l h=some (Sp.inr x l h,()):=by
 unfold F_18 Sp.inr
 cases decide (x>=l)<;>rfl
theorem wit_pv(x l h:Int):p_18 x l h=true/\v_18 x l h=(Sp.inr x l h,()):=pv_18 x l h (wit_ok x l h)
theorem cfg_ok(c:CfT):F_34 c=some (Sp.cfg c,()):=by
 unfold F_34 Sp.cfg
 simp only[wit_pv,gd_tt]
 cases Sp.inr c.1 1 16777215<;>try rfl
 cases Sp.inr c.2.1 1 100<;>try rfl
 cases Sp.inr c.2.2.1 1 100<;>try rfl
 cases Sp.inr c.2.2.2.1 1 100<;>try rfl
 cases Sp.inr c.2.2.2.2.1 c.2.2.2.1 255<;>try rfl
 cases Sp.inr c.2.2.2.2.2.1 0 255<;>rfl
theorem cfg_pv(c:CfT):p_34 c=true/\v_34 c=(Sp.cfg c,()):=pv_34 c (cfg_ok c)
theorem has_pv(f:FaT)(k:Int):p_36 f k=true/\v_36 f k=(Sp.bt f k,()):=pv_36 f k rfl
theorem tab(P:Int->Bool)(h:(List.range 32).all (fun n=>P (n:Int))=true){s:Int}(h0:0<=s)(h1:s<=31):P s=true:=by
 obtain⟨n,rfl⟩:=Int.eq_ofNat_of_zero_le h0
 rw[List.all_eq_true]at h
 exact h n (by rw[List.mem_range];omega)
theorem bt_ne{s:Int}(h0:0<=s)(h1:s<=31):((Sp.andI .i64 s 1 !=0)=(Sp.andI .i64 s 1==1)/\(Sp.andI .i64 s 2 !=0)=(Sp.andI .i64 s 2==2)/\(Sp.andI .i64 s 4 !=0)=(Sp.andI .i64 s 4==4))/\((Sp.andI .i64 s 8 !=0)=(Sp.andI .i64 s 8==8)/\(Sp.andI .i64 s 16 !=0)=(Sp.andI .i64 s 16==16))/\(Sp.andI .i64 s 10==10)=((Sp.andI .i64 s 2==2)&&(Sp.andI .i64 s 8==8))/\(Sp.andI .i64 s 6 !=0)=((Sp.andI .i64 s 2==2)||(Sp.andI .i64 s 4==4)):=by
 have:=tab (fun s=>((((Sp.andI .i64 s 1 !=0)==(Sp.andI .i64 s 1==1))&&((Sp.andI .i64 s 2 !=0)==(Sp.andI .i64 s 2==2))&&((Sp.andI .i64 s 4 !=0)==(Sp.andI .i64 s 4==4))))&&((((Sp.andI .i64 s 8 !=0)==(Sp.andI .i64 s 8==8))&&((Sp.andI .i64 s 16 !=0)==(Sp.andI .i64 s 16==16))))&&((Sp.andI .i64 s 10==10)==((Sp.andI .i64 s 2==2)&&(Sp.andI .i64 s 8==8)))&&((Sp.andI .i64 s 6 !=0)==((Sp.andI .i64 s 2==2)||(Sp.andI .i64 s 4==4)))) (by decide+kernel) h0 h1
 simp only[Bool.and_eq_true,beq_iff_eq]at this
 exact⟨⟨this.1.1.1.1.1,this.1.1.1.1.2,this.1.1.1.2⟩,this.1.1.2,this.1.2,this.2⟩
set_option maxRecDepth 100000
set_option maxHeartbeats 4000000
theorem fnd_all(P:Nat->Bool)(n:Nat):(fnd (fun j=> !P j) n 0=none)↔(List.range n).all P=true:=by
 rw[fnd_none,List.all_eq_true]
 constructor
 ·intro h x hx
  have:=h x (by omega) (by rw[List.mem_range]at hx;omega)
  simpa using this
 ·intro h i _ hi
  rw[h i (by rw[List.mem_range];omega)]
  rfl
namespace Sp
noncomputable def frm(c:CfT)(l:List Int):Bool:=((l.length:Int)==c.2.2.2.2.2.2.2.1)&&vals l
noncomputable def cfgs(l:List CfT):Bool:=(List.range l.length).all fun j=>cfg (l.getD j Zd0)
noncomputable def rgts(F:FsT):Bool:=(List.range F.2.1.length).all fun j=>rgt (F.1.getD j Zd0) (F.2.1.getD j Zd1) F.2.2.1
noncomputable def vf(F:FsT):Bool:=decide (F.1.length<=64)&&(cfgs F.1&&(dst (F.1.map fun c=>c.1)&&(((F.2.1.length:Int)==F.1.length)&&(inr F.2.2.1 0 1073741824&&((!F.2.2.2.1||decide (F.2.2.1>=1))&&rgts F)))))
end Sp
theorem val_pv(x:Int):p_55 x=true/\v_55 x=(Sp.val x,()):=by
 refine pv_55 x ?_
 unfold F_55
 rw[(wit_pv _ _ _).1,(wit_pv _ _ _).2,gd_tt]
 rfl
theorem frm_ok(c:CfT)(l:List Int)(h:(l.length:Int)=c.2.2.2.2.2.2.2.1->l.length<4611686018427387904):F_35 c l=some (Sp.frm c l,()):=by
 unfold F_35 Sp.frm
 cases he:((l.length:Int)==c.2.2.2.2.2.2.2.1)
 ·rfl
 have h:=h (beq_iff_eq.1 he)
 have hf:=find0 (fun m i=>L_35_63_0_0 m l l.length i c) (n:=l.length) (fun j=> !Sp.val (l.getD j 0)) (ex:=fun j=>some (.e0 (j:Int) c)) (e1:=some (.e1 c)) h (fun m j hj=>by
  show L_35_63_0_0 (m+1) l l.length j c=bif !Sp.val (l.getD j 0)then some (.e0 (j:Int) c)else L_35_63_0_0 m l l.length ((j+1:Nat):Int) c
  rw[L_35_63_0_0,S_35_63_0_0,cond_dtt (by omega),gd_inB (by omega) (by omega),Int.toNat_natCast,(val_pv _).1,(val_pv _).2,gd_tt,wi64 (by omega) (by omega)]
  push_cast
  rfl) (fun m=>by
  show L_35_63_0_0 (m+1) l l.length l.length c=_
  rw[L_35_63_0_0,S_35_63_0_0,cond_dff (by omega)])
 rw[hf,cond_t]
 cases hk:fnd (fun j=> !Sp.val (l.getD j 0)) l.length 0 with
 |none=>
  have:Sp.vals l=true:=(fnd_all (fun j=>Sp.val (l.getD j 0)) l.length).1 hk
  rw[this]
  rfl
 |some k=>
  have:Sp.vals l=false:=by
   cases hv:Sp.vals l
   ·rfl
   ·have:=(fnd_all (fun j=>Sp.val (l.getD j 0)) l.length).2 hv
    rw[this]at hk;cases hk
  rw[this]
  simp only[B_35_63_0_0]
  rw[decide_eq_true (by omega)]
  rfl
theorem frm_pv(c:CfT)(l:List Int)(h:(l.length:Int)=c.2.2.2.2.2.2.2.1->l.length<4611686018427387904):p_35 c l=true/\v_35 c l=(Sp.frm c l,()):=pv_35 c l (frm_ok c l h)
section
variable{c:CfT}{f:FaT}{cyc:Int}
theorem kn_pv(h0:0<=f.1)(h1:f.1<=31):p_37 f=true/\v_37 f=(Sp.bt f 2||Sp.bt f 4,()):=by
 refine pv_37 f ?_
 unfold F_37 Sp.bt
 rw[(bt_ne h0 h1).2.2.2]
theorem bt10(h0:0<=f.1)(h1:f.1<=31):Sp.bt f 10=(Sp.bt f 2&&Sp.bt f 8):=(bt_ne h0 h1).2.2.1
theorem gJ3(h0:0<=f.1)(h1:f.1<=31):J_19_3 c f=some (bif Sp.bt f 2||Sp.bt f 4 then(bif Sp.kno f then .e0 c f else .e1)else .e2 c f):=by
 unfold J_19_3 S_19_3 Sp.kno
 rw[(kn_pv h0 h1).1,(kn_pv h0 h1).2,gd_tt]
 cases Sp.bt f 2||Sp.bt f 4<;>try rfl
 cases decide (f.2.2.2.2.1>=1)<;>try rfl
 cases decide (f.2.2.1>=1)<;>try rfl
 cases decide (f.2.2.2.2.2.2.1>=1)<;>rfl
theorem gJ2(h0:0<=f.1)(h1:f.1<=31):J_19_2 c f=some (bif Sp.q2 f then(bif Sp.bt f 2||Sp.bt f 4 then(bif Sp.kno f then .e1 c f else .e0)else .e2 c f)else .e0):=by
 unfold J_19_2 S_19_2 Sp.q2
 simp only[has_pv,gd_tt,gJ3 h0 h1]
 cases Sp.bt f 2<;>cases f.2.2.2.1 !=0<;>cases Sp.bt f 4<;>cases Sp.kno f<;>rfl
theorem gJ1(h0:0<=f.1)(h1:f.1<=31):J_19_1 c f=some (bif Sp.q1 c f&&Sp.q2 f then(bif Sp.bt f 2||Sp.bt f 4 then(bif Sp.kno f then .e1 c f else .e0)else .e2 c f)else .e0):=by
 unfold J_19_1 S_19_1 Sp.q1
 simp only[has_pv,gd_tt,gJ2 h0 h1]
 cases Sp.bt f 4<;>cases f.2.2.1==2<;>cases Sp.bt f 16<;>cases c.2.2.2.2.2.2.1<;>cases Sp.q2 f<;>cases Sp.bt f 2<;>cases Sp.kno f<;>rfl
theorem gJ0(h0:0<=f.1)(h1:f.1<=31):J_19_0 cyc c f=some (bif Sp.q0 cyc f&&(Sp.q1 c f&&Sp.q2 f)then(bif Sp.bt f 2||Sp.bt f 4 then(bif Sp.kno f then .e1 c f else .e0)else bif Sp.unk f then .e2 f else .e0)else .e0):=by
 unfold J_19_0 S_19_0 Sp.q0 Sp.unk
 simp only[has_pv,gd_tt,gJ1 h0 h1,bt10 h0 h1]
 have hz:∀x y:Int,(bif !(x==y)then(some (E_19_0.e0):Option E_19_0)else none)=(bif x !=y then some (E_19_0.e0)else none):=fun _ _=>rfl
 cases e1:f.2.2.1==0<;>cases e2:f.2.2.2.1==0<;>cases e3:f.2.2.2.2.1==0<;>cases e4:f.2.2.2.2.2.2.1==0<;>cases e5:f.2.2.2.2.2.2.1==cyc<;>cases Sp.q1 c f&&Sp.q2 f<;>cases Sp.bt f 1<;>cases Sp.bt f 2<;>cases Sp.bt f 8<;>cases Sp.bt f 4<;>cases Sp.kno f<;>simp only[bne,e1,e2,e3,e4,e5,B_19_1,Bool.not_true,Bool.not_false,cond_true,cond_false,Bool.and_true,Bool.and_false,Bool.true_and,Bool.false_and,Bool.or_true,Bool.or_false,Bool.true_or,Bool.false_or]
theorem right_ok(hc:Sp.cfg c=true):F_19 c f cyc=some (Sp.rgt c f cyc,()):=by
 simp only[Sp.cfg,Bool.and_eq_true,inr_iff]at hc
 have hfr:(f.2.2.2.2.2.1.length:Int)=c.2.2.2.2.2.2.2.1->f.2.2.2.2.2.1.length<4611686018427387904:=fun e=>by omega
 unfold F_19 Sp.rgt Sp.rngs
 simp only[wit_pv,gd_tt]
 rw[wi64 (n:=0-c.2.2.1) (by omega) (by omega),wi64 (n:=c.2.2.2.2.1-1) (by omega) (by omega)]
 cases h1:Sp.inr f.1 0 31
 ·rfl
 have hb:=inr_iff.1 h1
 cases Sp.inr f.2.1 (0-c.2.2.1) c.2.1
 ·rfl
 cases Sp.inr f.2.2.1 0 2
 ·rfl
 cases Sp.inr f.2.2.2.1 0 (c.2.2.2.2.1-1)
 ·rfl
 cases Sp.inr f.2.2.2.2.1 0 255
 ·rfl
 cases Sp.inr f.2.2.2.2.2.2.1 0 cyc
 ·rfl
 simp only[Bool.not_true,cond_f,Bool.and_true,Bool.true_and]
 simp only[frm_pv _ _ hfr,gd_tt,gJ0 hb.1 hb.2]
 unfold Sp.frq Sp.fin Sp.frm
 by_cases hl:f.2.2.2.2.2.1=[]
 ·have hv:Sp.vals f.2.2.2.2.2.1=true:=by rw[hl];rfl
  have hz:((f.2.2.2.2.2.1.length:Int)==0)=true:=by rw[hl];rfl
  rw[cond_dff (by rw[hl];decide),hv,hz]
  cases e1:((f.2.2.2.2.2.1.length:Int)==c.2.2.2.2.2.2.2.1)<;>cases Sp.bt f 2<;>cases Sp.bt f 4<;>cases Sp.q0 cyc f&&(Sp.q1 c f&&Sp.q2 f)<;>cases Sp.kno f<;>cases Sp.unk f<;>simp only[bne,hz,e1,B_19_0,Bool.not_true,Bool.not_false,cond_true,cond_false,Bool.and_true,Bool.and_false,Bool.true_and,Bool.false_and,Bool.or_true,Bool.or_false,Bool.true_or,Bool.false_or]
 ·have hp:0<f.2.2.2.2.2.1.length:=List.length_pos_iff.2 hl
  have hz:((f.2.2.2.2.2.1.length:Int)==0)=false:=beq_eq_false_iff_ne.2 (by omega)
  rw[cond_dtt (by omega),hz]
  cases e1:((f.2.2.2.2.2.1.length:Int)==c.2.2.2.2.2.2.2.1)<;>cases Sp.vals f.2.2.2.2.2.1<;>cases Sp.bt f 2<;>cases Sp.bt f 4<;>cases Sp.q0 cyc f&&(Sp.q1 c f&&Sp.q2 f)<;>cases Sp.kno f<;>cases Sp.unk f<;>simp only[bne,hz,e1,B_19_0,Bool.not_true,Bool.not_false,cond_true,cond_false,Bool.and_true,Bool.and_false,Bool.true_and,Bool.false_and,Bool.or_true,Bool.or_false,Bool.true_or,Bool.false_or]
theorem right_pv(hc:Sp.cfg c=true):p_19 c f cyc=true/\v_19 c f cyc=(Sp.rgt c f cyc,()):=pv_19 c f cyc (right_ok hc)
end
structure Sm(F:FsT):Prop where
 l:F.2.1.length<4611686018427387904
theorem cfgs_at{l:List CfT}(h:Sp.cfgs l=true){j:Nat}(hj:j<l.length):Sp.cfg (l.getD j Zd0)=true:=by
 unfold Sp.cfgs at h
 rw[List.all_eq_true]at h
 exact h j (by rw[List.mem_range];exact hj)
theorem vJ0{F:FsT}(hs:Sm F)(hc:Sp.cfgs F.1=true)(hl:F.2.1.length=F.1.length):J_7_0 F=some (bif Sp.rgts F then .e1 else .e0):=by
 have:=all0 (fun m i=>L_7_1 m F.2.1 F.2.1.length i F) (n:=F.2.1.length) (fun j=>Sp.rgt (F.1.getD j Zd0) (F.2.1.getD j Zd1) F.2.2.1) (e0:=some .e0) (e1:=some .e1) hs.l (fun m j hj=>by
  show L_7_1 (m+1) F.2.1 F.2.1.length j F=bif Sp.rgt (F.1.getD j Zd0) (F.2.1.getD j Zd1) F.2.2.1 then L_7_1 m F.2.1 F.2.1.length ((j+1:Nat):Int) F else some .e0
  have hr:=right_pv (cyc:=F.2.2.1) (f:=F.2.1.getD j Zd1) (cfgs_at hc (j:=j) (by omega))
  rw[L_7_1,S_7_1,cond_dtt (by omega),gd_inB (by omega) (by omega),gd_inB (by omega) (by omega),Int.toNat_natCast,hr.1,hr.2,gd_tt,wi64 (by have:=hs.l;omega) (by have:=hs.l;omega)]
  push_cast
  cases Sp.rgt (F.1.getD j Zd0) (F.2.1.getD j Zd1) F.2.2.1<;>rfl) (fun m=>by
  show L_7_1 (m+1) F.2.1 F.2.1.length F.2.1.length F=_
  rw[L_7_1,S_7_1,cond_dff (by omega)])
 unfold J_7_0 S_7_0
 rw[this]
 unfold Sp.rgts
 cases (List.range F.2.1.length).all fun j=>Sp.rgt (F.1.getD j Zd0) (F.2.1.getD j Zd1) F.2.2.1<;>rfl
theorem vf_ok{F:FsT}(hs:Sm F):F_7 F=some (Sp.vf F,()):=by
 unfold F_7 Sp.vf
 by_cases h1:(F.1.length:Int)>64
 ·rw[cond_dtt h1,decide_eq_false (by omega)];rfl
 rw[cond_dff h1,decide_eq_true (p:=F.1.length<=64) (by omega),Bool.true_and]
 have hf:=find0 (fun m i=>L_7_33_0_0 m F.1 F.1.length i F) (n:=F.1.length) (fun j=> !Sp.cfg (F.1.getD j Zd0)) (ex:=fun j=>some (.e0 (j:Int) F)) (e1:=some (.e1 F)) (by omega) (fun m j hj=>by
  show L_7_33_0_0 (m+1) F.1 F.1.length j F=bif !Sp.cfg (F.1.getD j Zd0)then some (.e0 (j:Int) F)else L_7_33_0_0 m F.1 F.1.length ((j+1:Nat):Int) F
  rw[L_7_33_0_0,S_7_33_0_0,cond_dtt (by omega),gd_inB (by omega) (by omega),Int.toNat_natCast,(cfg_pv _).1,(cfg_pv _).2,gd_tt,wi64 (by omega) (by omega)]
  push_cast
  rfl) (fun m=>by
  show L_7_33_0_0 (m+1) F.1 F.1.length F.1.length F=_
  rw[L_7_33_0_0,S_7_33_0_0,cond_dff (by omega)])
 rw[hf]
 cases hk:fnd (fun j=> !Sp.cfg (F.1.getD j Zd0)) F.1.length 0 with
 |some k=>
  have:Sp.cfgs F.1=false:=by
   cases hv:Sp.cfgs F.1
   ·rfl
   ·have:=(fnd_all (fun j=>Sp.cfg (F.1.getD j Zd0)) F.1.length).2 hv
    rw[this]at hk;cases hk
  rw[this]
  simp only[B_7_33_0_0]
  rw[cond_dtt (by omega)]
  rfl
 |none=>
  have hc:Sp.cfgs F.1=true:=(fnd_all (fun j=>Sp.cfg (F.1.getD j Zd0)) F.1.length).1 hk
  rw[hc]
  simp only[B_7_33_0_0,Bool.true_and]
  have em:(List.map (fun(y:Ty.den CfgTy)=>Prod.fst y) F.1)=(F.1.map fun c=>c.1):=rfl
  rw[em]
  cases Sp.dst (F.1.map fun c=>c.1)
  ·rfl
  simp only[Bool.not_true,cond_f,Bool.true_and]
  by_cases hl:(F.2.1.length:Int)=(F.1.length:Int)
  rotate_left
  ·rw[cond_ntt hl,beq_eq_false_iff_ne.2 hl];rfl
  rw[cond_nff hl,beq_iff_eq.2 hl,Bool.true_and,(wit_pv _ _ _).1,(wit_pv _ _ _).2,gd_tt]
  cases Sp.inr F.2.2.1 0 1073741824
  ·rfl
  simp only[Bool.not_true,cond_f,Bool.true_and]
  rw[vJ0 hs hc (by omega)]
  cases F.2.2.2.1
  ·cases Sp.rgts F<;>rfl
  ·by_cases hy:F.2.2.1<1
   ·rw[cond_t,cond_dtt hy,decide_eq_false (by omega)]
    rfl
   ·rw[cond_t,cond_dff hy,decide_eq_true (p:=F.2.2.1>=1) (by omega)]
    cases Sp.rgts F<;>rfl
theorem vf_pv{F:FsT}(hs:Sm F):p_7 F=true/\v_7 F=(Sp.vf F,()):=pv_7 F (vf_ok hs)
set_option maxRecDepth 100000
set_option maxHeartbeats 4000000
abbrev SvT:=Int×Int×Int×Int×Int×Int×Unit
namespace Sp
noncomputable def sv(s:SvT):Bool:=inr s.1 1 3&&(inr s.2.1 0 65535&&(inr s.2.2.1 0 1&&(inr s.2.2.2.1 0 2&&(inr s.2.2.2.2.1 0 1099521627776&&(inr s.2.2.2.2.2.1 0 1099521627776&&((s.1 !=1)||((s.2.1==0)&&((s.2.2.1==0)&&(s.2.2.2.2.2.1==0)))))))))
noncomputable def ent(s:SvT)(n:Int):SvT:=if n=1 then(n,0,0,s.2.2.2.1,s.2.2.2.2.1,0,())else(n,0,0,s.2.2.2.1,s.2.2.2.2.1,s.2.2.2.2.2.1,())
noncomputable def tck(s:SvT)(now:Int):SvT:=if sv s=true/\inr now 0 1099511627776=true/\¬s.1=1/\¬now<s.2.2.2.2.2.1 then ent s 1 else s
noncomputable def fill:Nat->Int->List Int->List Int
 |0,_,l=>l
 |j+1,n,l=>fill j (Int.fdiv n 256) (l.set j (wrap .u8 n))
end Sp
theorem din_pv(x l h:Int):p_14 x l h=true/\v_14 x l h=(Sp.inr x l h,()):=by
 refine pv_14 x l h ?_
 unfold F_14 Sp.inr
 cases decide (x>=l)<;>rfl
theorem sv_ok(s:SvT):F_6 s=some (Sp.sv s,()):=by
 unfold F_6 Sp.sv
 simp only[din_pv,gd_tt]
 cases Sp.inr s.1 1 3<;>try rfl
 cases Sp.inr s.2.1 0 65535<;>try rfl
 cases Sp.inr s.2.2.1 0 1<;>try rfl
 cases Sp.inr s.2.2.2.1 0 2<;>try rfl
 cases Sp.inr s.2.2.2.2.1 0 1099521627776<;>try rfl
 cases Sp.inr s.2.2.2.2.2.1 0 1099521627776<;>try rfl
 cases s.1 !=1<;>cases s.2.1==0<;>cases s.2.2.1==0<;>rfl
theorem sv_pv(s:SvT):p_6 s=true/\v_6 s=(Sp.sv s,()):=pv_6 s (sv_ok s)
theorem ent_pv(s:SvT)(n:Int):p_38 s n=true/\v_38 s n=(Sp.ent s n,()):=by
 refine pv_38 s n ?_
 unfold F_38 Sp.ent
 by_cases h:n=1
 ·rw[cond_ett h,if_pos h]
 ·rw[cond_eff h,if_neg h]
theorem tck_pv(s:SvT)(now:Int):p_20 s now=true/\v_20 s now=(Sp.tck s now,()):=by
 refine pv_20 s now ?_
 unfold F_20 Sp.tck
 rw[(sv_pv s).1,(sv_pv s).2,gd_tt,(din_pv _ _ _).1,(din_pv _ _ _).2,gd_tt,(ent_pv s 1).1,(ent_pv s 1).2,gd_tt]
 cases h1:Sp.sv s
 ·rw[if_neg (by rintro⟨h,_⟩;cases h)];rfl
 cases h2:Sp.inr now 0 1099511627776
 ·rw[if_neg (by rintro⟨_,h,_⟩;cases h)];rfl
 simp only[Bool.not_true,cond_f]
 by_cases h3:s.1=1
 ·rw[cond_ett h3,if_neg (by rintro⟨_,_,h,_⟩;exact h h3)]
 rw[cond_eff h3]
 by_cases h4:now<s.2.2.2.2.2.1
 ·rw[cond_dtt h4,if_neg (by rintro⟨_,_,_,h⟩;exact h h4)]
 ·rw[cond_dff h4,if_pos (by simp[h3,h4])]
theorem by_loop:∀(j m:Nat)(n:Int)(l:List Int),j<=l.length->j<=1000->j<m->L_57_0 m n ((j:Int)-1) l=some (.e0 (Sp.fill j n l))
 |0,m+1,n,l,_,_,_=>by
  rw[L_57_0,S_57_0,cond_dff (by omega)]
  rfl
 |j+1,m+1,n,l,hj,hk,hm=>by
  rw[L_57_0,S_57_0,cond_dtt (by omega),gd_inB (by omega) (by omega),show(((j+1:Nat):Int)-1).toNat=j by omega,Bool.and_true,Bool.and_true,gd_dec (by omega),wi64 (by omega) (by omega),show((j+1:Nat):Int)-1-1=(j:Int)-1 by omega,by_loop j m _ _ (by rw[List.length_set];omega) (by omega) (by omega)]
  rfl
theorem bytes_pv(n:Int)(k:Nat)(hk:k<=8):p_57 n (k:Int)=true/\v_57 n (k:Int)=(Sp.fill k n (replicate k 0),()):=by
 refine pv_57 n (k:Int) ?_
 unfold F_57
 rw[decide_eq_true (by omega),beq_self_eq_true,Int.toNat_natCast,show room k 1=true from room_ok (by omega) (by omega),Bool.and_true,Bool.and_true,gd_tt,wi64 (by omega) (by omega),by_loop k _ n _ (by simp) (by omega) (by omega)]
 rfl
set_option maxRecDepth 100000
set_option maxHeartbeats 4000000
namespace Sp
noncomputable def smf(F:FsT):Bool:=(fnd (fun j=>decide (((F.2.1.getD j Zd1).2.2.2.2.2.1.length:Int)>20)) F.2.1.length 0).isNone
noncomputable def fw(F:FsT):Bool:=decide ((F.1.length:Int)<=70)&&(decide ((F.2.1.length:Int)<=70)&&smf F)
end Sp
structure Sv(s:SvT):Prop where
 s0:1<=s.1
 s1:s.1<=3
 e0:0<=s.2.1
 e1:s.2.1<=65535
 l0:0<=s.2.2.1
 l1:s.2.2.1<=1
 t0:0<=s.2.2.2.1
 t1:s.2.2.2.1<=2
 u0:0<=s.2.2.2.2.1
 u1:s.2.2.2.2.1<=1099521627776
 d0:0<=s.2.2.2.2.2.1
 d1:s.2.2.2.2.2.1<=1099521627776
 z:s.1=1->s.2.1=0/\s.2.2.1=0/\s.2.2.2.2.2.1=0
theorem sv_iff{s:SvT}:Sp.sv s=true↔Sv s:=by
 unfold Sp.sv
 simp only[Bool.and_eq_true,inr_iff,Bool.or_eq_true,bne_iff_ne,ne_eq,beq_iff_eq]
 constructor
 ·rintro⟨a,b,c,d,e,f,g⟩
  refine⟨a.1,a.2,b.1,b.2,c.1,c.2,d.1,d.2,e.1,e.2,f.1,f.2,fun h=> ?_⟩
  rcases g with g|g
  ·exact absurd h g
  ·exact g
 ·intro h
  refine⟨⟨h.s0,h.s1⟩,⟨h.e0,h.e1⟩,⟨h.l0,h.l1⟩,⟨h.t0,h.t1⟩,⟨h.u0,h.u1⟩,⟨h.d0,h.d1⟩,?_⟩
  by_cases e:s.1=1
  ·exact Or.inr (h.z e)
  ·exact Or.inl e
theorem ent_sv{s:SvT}{n:Int}(h:Sv s)(h0:1<=n)(h1:n<=3):Sv (Sp.ent s n):=by
 unfold Sp.ent
 split
 ·refine⟨?_,?_,?_,?_,?_,?_,h.t0,h.t1,h.u0,h.u1,?_,?_,?_⟩<;>dsimp only<;>first|omega|(intro _;exact⟨rfl,rfl,rfl⟩)
 ·refine⟨?_,?_,?_,?_,?_,?_,h.t0,h.t1,h.u0,h.u1,h.d0,h.d1,?_⟩<;>dsimp only<;>first|omega|(intro e;omega)
theorem tck_sv{s:SvT}(now:Int)(h:Sv s):Sv (Sp.tck s now):=by
 unfold Sp.tck
 split
 ·exact ent_sv h (by decide) (by decide)
 ·exact h
set_option maxRecDepth 100000
set_option maxHeartbeats 4000000
abbrev IbT:=Int×Bool×Unit
abbrev VvT:=SvT×FsT×Int×Unit
namespace Sp
noncomputable def ded(s:SvT)(now:Int):SvT:=(s.1,s.2.1,s.2.2.1,s.2.2.2.1,s.2.2.2.2.1,(if s.1=1 then 0 else wrap .i64 (now+5000000)),s.2.2.2.2.2.2)
noncomputable def ln(b:List Int):Int:=bif b.getD 0 0==16 then 2 else bif b.getD 0 0==17 then 2 else bif b.getD 0 0==62 then 2 else bif b.getD 0 0==20 then 4 else bif b.getD 0 0==25 then 3 else bif b.getD 0 0==34 then 3 else bif b.getD 0 0==39 then(bif decide ((b.length:Int)>1)then(bif b.getD 1 0==2 then 4 else 2)else 2)else 0
noncomputable def fnc(b:List Int):Bool:=bif b.getD 0 0==16 then(bif decide (b.getD 1 0>=1)then decide (b.getD 1 0<=3)else false)else bif b.getD 0 0==17 then b.getD 1 0==1 else bif b.getD 0 0==25 then b.getD 1 0==2 else bif b.getD 0 0==39 then(bif b.getD 1 0==1 then true else b.getD 1 0==2)else bif b.getD 0 0==62 then(bif b.getD 1 0==0 then true else b.getD 1 0==128)else true
end Sp
theorem rp_pv(b:List Int):p_42 b=true/\v_42 b=(b,0,()):=pv_42 b rfl
theorem ln_pv(b:List Int)(h:0<b.length):p_39 b=true/\v_39 b=(Sp.ln b,()):=by
 refine pv_39 b ?_
 unfold F_39 Sp.ln
 rw[gd_inB (by omega) (by omega)]
 by_cases h1:(b.length:Int)>1
 ·rw[gd_inB (by omega) (by omega),decide_eq_true h1]
  cases b.getD 0 0==16<;>cases b.getD 0 0==17<;>cases b.getD 0 0==62<;>cases b.getD 0 0==20<;>cases b.getD 0 0==25<;>cases b.getD 0 0==34<;>cases b.getD 0 0==39<;>cases b.getD 1 0==2<;>rfl
 ·rw[decide_eq_false h1]
  cases b.getD 0 0==16<;>cases b.getD 0 0==17<;>cases b.getD 0 0==62<;>cases b.getD 0 0==20<;>cases b.getD 0 0==25<;>cases b.getD 0 0==34<;>cases b.getD 0 0==39<;>rfl
theorem fnc_pv(b:List Int)(h:1<b.length):p_40 b=true/\v_40 b=(Sp.fnc b,()):=by
 refine pv_40 b ?_
 unfold F_40 Sp.fnc
 simp only[gd_inB (i:=(0:Int)) (n:=b.length) (by omega) (by omega),gd_inB (i:=(1:Int)) (n:=b.length) (by omega) (by omega)]
 cases b.getD 0 0==16<;>cases b.getD 0 0==17<;>cases b.getD 0 0==25<;>cases b.getD 0 0==39<;>cases b.getD 0 0==62<;>cases decide (b.getD 1 0>=1)<;>cases b.getD 1 0==1<;>cases b.getD 1 0==0<;>rfl
theorem by1(n:Int):p_57 n 1=true/\v_57 n 1=([wrap .u8 n],()):=bytes_pv n 1 (by omega)
theorem by2(n:Int):p_57 n 2=true/\v_57 n 2=([wrap .u8 (Int.fdiv n 256),wrap .u8 n],()):=bytes_pv n 2 (by omega)
theorem by3(n:Int):p_57 n 3=true/\v_57 n 3=([wrap .u8 (Int.fdiv (Int.fdiv n 256) 256),wrap .u8 (Int.fdiv n 256),wrap .u8 n],()):=bytes_pv n 3 (by omega)
theorem by4(n:Int):p_57 n 4=true/\v_57 n 4=([wrap .u8 (Int.fdiv (Int.fdiv (Int.fdiv n 256) 256) 256),wrap .u8 (Int.fdiv (Int.fdiv n 256) 256),wrap .u8 (Int.fdiv n 256),wrap .u8 n],()):=bytes_pv n 4 (by omega)
section
variable{now:Int}{q1:SvT}{q2:IbT}{q3:List CfT}{q4:List FaT}{v:VvT}{o b:List Int}
theorem j3:J_8_3 now q1 q2 q3 q4 v o=some (.e0 (Sp.ded v.1 now,v.2) o):=by
 unfold J_8_3 S_8_3 Sp.ded
 by_cases h:v.1.1=1
 ·rw[cond_nff h,if_pos h];rfl
 ·rw[cond_ntt h,if_neg h];rfl
theorem j31:J_8_3_1 now o q1 q2 q3 q4 v=some (.e0 o (Sp.ded v.1 now,v.2)):=by
 unfold J_8_3_1 S_8_3_1 Sp.ded
 by_cases h:v.1.1=1
 ·rw[cond_nff h,if_pos h];rfl
 ·rw[cond_ntt h,if_neg h];rfl
theorem j20:J_8_2 b now 0 q1 q2 q3 q4 v o=some (.e0 (Sp.ded v.1 now,v.2) o):=by
 unfold J_8_2 S_8_2
 rw[cond_nff rfl,j3];rfl
theorem j2n{c:Int}(hc:c≠0)(hb:0<b.length):J_8_2 b now c q1 q2 q3 q4 v o=some (.e0 (Sp.ded v.1 now,v.2) [127,b.getD 0 0,wrap .u8 c]):=by
 unfold J_8_2 S_8_2
 rw[cond_ntt hc,gd_inB (by omega) (by omega),j3];rfl
theorem j21:J_8_2_1 b now o 0 q1 q2 q3 q4 v=some (.e1 o (Sp.ded v.1 now,v.2)):=by
 unfold J_8_2_1 S_8_2_1
 rw[cond_nff rfl,j31];rfl
theorem j330{F:FsT}{s:SvT}{n:Int}(h:(b.length:Int)=n)(h1:1<b.length)(hf:Sp.fnc b=true):J_8_21_0_0 b n false s F q1 q2 q3 q4 v=some (.e3 b n s F q1 q2 q3 q4 v):=by
 unfold J_8_21_0_0 S_8_21_0_0
 rw[cond_f,cond_nff h,(fnc_pv b h1).1,(fnc_pv b h1).2,gd_tt,hf];rfl
end
structure Rq(s:SvT)(F:FsT)(now:Int):Prop where
 s:Sv s
 f:p_7 F=true
 g:v_7 F=(true,())
 n0:0<=now
 n1:now<=1099511627776
theorem rq0{s:SvT}{F:FsT}{now:Int}{b:List Int}(h:Rq s F now)(hb0:1<=b.length)(hb1:b.length<=1023) :
 F_8 s F b now=B_8_1 (J_8_1 b now s F (0,0,0,0,0,0,()) (0,false,()) [] []) (fun v o=>some (v.1,v.2.1,o,())) (fun o v=>some (v.1,v.2.1,o,())):=by
 unfold F_8
 rw[(sv_pv s).1,(sv_pv s).2,gd_tt,sv_iff.2 h.s,Bool.not_true,cond_f,h.f,h.g,gd_tt,Bool.not_true,cond_f,(din_pv now _ _).1,(din_pv now _ _).2,gd_tt,inr_iff.2 ⟨h.n0,h.n1⟩,Bool.not_true,cond_f,
  (din_pv _ 1 1023).1,(din_pv _ 1 1023).2,gd_tt,inr_iff.2 ⟨by omega,by omega⟩,Bool.not_true]
 rfl
set_option maxRecDepth 100000
set_option maxHeartbeats 4000000
theorem tck_v(s:SvT)(now:Int):(v_20 s now).1=Sp.tck s now:=by rw[(tck_pv s now).2]
theorem ln_v(b:List Int)(h:0<b.length):(v_39 b).1=Sp.ln b:=by rw[(ln_pv b h).2]
section
variable{s:SvT}{F:FsT}{now x y:Int}{q1:SvT}{q2:IbT}{q3:List CfT}{q4:List FaT}{v:VvT}
theorem s_id0(ho:Sp.orI .i64 (wrap .i64 (wrap .i64 (getD [34,x,y] 1 0)*256)) (wrap .i64 (getD [34,x,y] 2 0))=256):J_8_21_1_0 [34,x,y] s F q1 q2 q3 q4 v=some (.e7 [34,x,y] s F q1 q2 q3 q4 v):=by
 unfold J_8_21_1_0 S_8_21_1_0
 rw[show inB (0:Int) (length ([34,x,y]:List Int))=true from rfl,gd_tt,show(getD ([34,x,y]:List Int) (0:Nat) (0:Int)==(16:Int))=false from rfl,cond_f,show(getD ([34,x,y]:List Int) (0:Nat) (0:Int)==(17:Int))=false from rfl,cond_f,show(getD ([34,x,y]:List Int) (0:Nat) (0:Int)==(20:Int))=false from rfl,cond_f,show(getD ([34,x,y]:List Int) (0:Nat) (0:Int)==(25:Int))=false from rfl,cond_f,show(getD ([34,x,y]:List Int) (0:Nat) (0:Int)==(34:Int))=true from rfl,cond_t,show inB (1:Int) (length ([34,x,y]:List Int))=true from rfl,gd_tt,show inB (2:Int) (length ([34,x,y]:List Int))=true from rfl,gd_tt,ho,show((256:Int)==(256:Int))=true from rfl,cond_t,(by1 _).1,gd_tt,(by1 _).2,show room (3+length _) 1=true from rfl,gd_tt]
theorem s_id1(ho:Sp.orI .i64 (wrap .i64 (wrap .i64 (getD [34,x,y] 1 0)*256)) (wrap .i64 (getD [34,x,y] 2 0))=257):J_8_21_1_0 [34,x,y] s F q1 q2 q3 q4 v=some (.e8 [34,x,y] s F q1 q2 q3 q4 v):=by
 unfold J_8_21_1_0 S_8_21_1_0
 rw[show inB (0:Int) (length ([34,x,y]:List Int))=true from rfl,gd_tt,show(getD ([34,x,y]:List Int) (0:Nat) (0:Int)==(16:Int))=false from rfl,cond_f,show(getD ([34,x,y]:List Int) (0:Nat) (0:Int)==(17:Int))=false from rfl,cond_f,show(getD ([34,x,y]:List Int) (0:Nat) (0:Int)==(20:Int))=false from rfl,cond_f,show(getD ([34,x,y]:List Int) (0:Nat) (0:Int)==(25:Int))=false from rfl,cond_f,show(getD ([34,x,y]:List Int) (0:Nat) (0:Int)==(34:Int))=true from rfl,cond_t,show inB (1:Int) (length ([34,x,y]:List Int))=true from rfl,gd_tt,show inB (2:Int) (length ([34,x,y]:List Int))=true from rfl,gd_tt,ho,show((257:Int)==(256:Int))=false from rfl,cond_f,show((257:Int)==(257:Int))=true from rfl,cond_t,(by1 _).1,gd_tt,(by1 _).2,show room (3+length _) 1=true from rfl,gd_tt]
theorem s_id2(ho:Sp.orI .i64 (wrap .i64 (wrap .i64 (getD [34,x,y] 1 0)*256)) (wrap .i64 (getD [34,x,y] 2 0))=258):J_8_21_1_0 [34,x,y] s F q1 q2 q3 q4 v=some (.e9 [34,x,y] s F q1 q2 q3 q4 v):=by
 unfold J_8_21_1_0 S_8_21_1_0
 rw[show inB (0:Int) (length ([34,x,y]:List Int))=true from rfl,gd_tt,show(getD ([34,x,y]:List Int) (0:Nat) (0:Int)==(16:Int))=false from rfl,cond_f,show(getD ([34,x,y]:List Int) (0:Nat) (0:Int)==(17:Int))=false from rfl,cond_f,show(getD ([34,x,y]:List Int) (0:Nat) (0:Int)==(20:Int))=false from rfl,cond_f,show(getD ([34,x,y]:List Int) (0:Nat) (0:Int)==(25:Int))=false from rfl,cond_f,show(getD ([34,x,y]:List Int) (0:Nat) (0:Int)==(34:Int))=true from rfl,cond_t,show inB (1:Int) (length ([34,x,y]:List Int))=true from rfl,gd_tt,show inB (2:Int) (length ([34,x,y]:List Int))=true from rfl,gd_tt,ho,show((258:Int)==(256:Int))=false from rfl,cond_f,show((258:Int)==(257:Int))=false from rfl,cond_f,show((258:Int)==(258:Int))=true from rfl,cond_t,(by4 _).1,gd_tt,(by4 _).2,show room (3+length _) 1=true from rfl,gd_tt]
theorem s_id3(ho:Sp.orI .i64 (wrap .i64 (wrap .i64 (getD [34,x,y] 1 0)*256)) (wrap .i64 (getD [34,x,y] 2 0))=259):J_8_21_1_0 [34,x,y] s F q1 q2 q3 q4 v=some (.e10 [34,x,y] s F q1 q2 q3 q4 v):=by
 unfold J_8_21_1_0 S_8_21_1_0
 rw[show inB (0:Int) (length ([34,x,y]:List Int))=true from rfl,gd_tt,show(getD ([34,x,y]:List Int) (0:Nat) (0:Int)==(16:Int))=false from rfl,cond_f,show(getD ([34,x,y]:List Int) (0:Nat) (0:Int)==(17:Int))=false from rfl,cond_f,show(getD ([34,x,y]:List Int) (0:Nat) (0:Int)==(20:Int))=false from rfl,cond_f,show(getD ([34,x,y]:List Int) (0:Nat) (0:Int)==(25:Int))=false from rfl,cond_f,show(getD ([34,x,y]:List Int) (0:Nat) (0:Int)==(34:Int))=true from rfl,cond_t,show inB (1:Int) (length ([34,x,y]:List Int))=true from rfl,gd_tt,show inB (2:Int) (length ([34,x,y]:List Int))=true from rfl,gd_tt,ho,show((259:Int)==(256:Int))=false from rfl,cond_f,show((259:Int)==(257:Int))=false from rfl,cond_f,show((259:Int)==(258:Int))=false from rfl,cond_f,show((259:Int)==(259:Int))=true from rfl,cond_t,(by1 _).1,gd_tt,(by1 _).2,show room (3+length _) 1=true from rfl,gd_tt]
theorem s_idx(h0:¬Sp.orI .i64 (wrap .i64 (wrap .i64 (getD [34,x,y] 1 0)*256)) (wrap .i64 (getD [34,x,y] 2 0))=256)(h1:¬Sp.orI .i64 (wrap .i64 (wrap .i64 (getD [34,x,y] 1 0)*256)) (wrap .i64 (getD [34,x,y] 2 0))=257)(h2:¬Sp.orI .i64 (wrap .i64 (wrap .i64 (getD [34,x,y] 1 0)*256)) (wrap .i64 (getD [34,x,y] 2 0))=258)(h3:¬Sp.orI .i64 (wrap .i64 (wrap .i64 (getD [34,x,y] 1 0)*256)) (wrap .i64 (getD [34,x,y] 2 0))=259):J_8_21_1_0 [34,x,y] s F q1 q2 q3 q4 v=some (.e11 s F q1 q2 q3 q4 v):=by
 unfold J_8_21_1_0 S_8_21_1_0
 rw[show inB (0:Int) (length ([34,x,y]:List Int))=true from rfl,gd_tt,show(getD ([34,x,y]:List Int) (0:Nat) (0:Int)==(16:Int))=false from rfl,cond_f,show(getD ([34,x,y]:List Int) (0:Nat) (0:Int)==(17:Int))=false from rfl,cond_f,show(getD ([34,x,y]:List Int) (0:Nat) (0:Int)==(20:Int))=false from rfl,cond_f,show(getD ([34,x,y]:List Int) (0:Nat) (0:Int)==(25:Int))=false from rfl,cond_f,show(getD ([34,x,y]:List Int) (0:Nat) (0:Int)==(34:Int))=true from rfl,cond_t,show inB (1:Int) (length ([34,x,y]:List Int))=true from rfl,gd_tt,show inB (2:Int) (length ([34,x,y]:List Int))=true from rfl,gd_tt,cond_eff h0,cond_eff h1,cond_eff h2,cond_eff h3]
theorem rq_id0(h:Rq s F now)(ho:Sp.orI .i64 (wrap .i64 (wrap .i64 (getD [34,x,y] 1 0)*256)) (wrap .i64 (getD [34,x,y] 2 0))=256):F_8 s F [34,x,y] now=some (Sp.ded (Sp.tck s now) now,F,[98,x,y,wrap .u8 (Sp.tck s now).1],()):=by
 rw[rq0 h (by simp) (by simp)]
 unfold J_8_1 S_8_1
 rw[(tck_pv s now).1,gd_tt,(ln_pv [34,x,y] (by simp)).1,gd_tt,ln_v [34,x,y] (by simp),show Sp.ln [34,x,y]=3 from rfl,show((3:Int)==(0:Int))=false from rfl,cond_f,show inB (0:Int) (length ([34,x,y]:List Int))=true from rfl,gd_tt,show(getD ([34,x,y]:List Int) (0:Nat) (0:Int)==(20:Int))=false from rfl,cond_f,gd_tt,show(getD ([34,x,y]:List Int) (0:Nat) (0:Int)==(39:Int))=false from rfl,cond_f]
 rw[j330 (b:=[34,x,y]) (n:=3) rfl (by simp) rfl,B_8_21_0_0]
 rw[s_id0 ho,B_8_21_1_0]
 rw[(by1 _).2,j20,tck_v]
 rfl
theorem rq_id1(h:Rq s F now)(ho:Sp.orI .i64 (wrap .i64 (wrap .i64 (getD [34,x,y] 1 0)*256)) (wrap .i64 (getD [34,x,y] 2 0))=257):F_8 s F [34,x,y] now=some (Sp.ded (Sp.tck s now) now,F,[98,x,y,wrap .u8 ((F.2.1.length:Nat):Int)],()):=by
 rw[rq0 h (by simp) (by simp)]
 unfold J_8_1 S_8_1
 rw[(tck_pv s now).1,gd_tt,(ln_pv [34,x,y] (by simp)).1,gd_tt,ln_v [34,x,y] (by simp),show Sp.ln [34,x,y]=3 from rfl,show((3:Int)==(0:Int))=false from rfl,cond_f,show inB (0:Int) (length ([34,x,y]:List Int))=true from rfl,gd_tt,show(getD ([34,x,y]:List Int) (0:Nat) (0:Int)==(20:Int))=false from rfl,cond_f,gd_tt,show(getD ([34,x,y]:List Int) (0:Nat) (0:Int)==(39:Int))=false from rfl,cond_f]
 rw[j330 (b:=[34,x,y]) (n:=3) rfl (by simp) rfl,B_8_21_0_0]
 rw[s_id1 ho,B_8_21_1_0]
 rw[(by1 _).2,j20,tck_v]
 rfl
theorem rq_id2(h:Rq s F now)(ho:Sp.orI .i64 (wrap .i64 (wrap .i64 (getD [34,x,y] 1 0)*256)) (wrap .i64 (getD [34,x,y] 2 0))=258):F_8 s F [34,x,y] now=some (Sp.ded (Sp.tck s now) now,F,[98,x,y,wrap .u8 (Int.fdiv (Int.fdiv (Int.fdiv F.2.2.1 256) 256) 256),wrap .u8 (Int.fdiv (Int.fdiv F.2.2.1 256) 256),wrap .u8 (Int.fdiv F.2.2.1 256),wrap .u8 F.2.2.1],()):=by
 rw[rq0 h (by simp) (by simp)]
 unfold J_8_1 S_8_1
 rw[(tck_pv s now).1,gd_tt,(ln_pv [34,x,y] (by simp)).1,gd_tt,ln_v [34,x,y] (by simp),show Sp.ln [34,x,y]=3 from rfl,show((3:Int)==(0:Int))=false from rfl,cond_f,show inB (0:Int) (length ([34,x,y]:List Int))=true from rfl,gd_tt,show(getD ([34,x,y]:List Int) (0:Nat) (0:Int)==(20:Int))=false from rfl,cond_f,gd_tt,show(getD ([34,x,y]:List Int) (0:Nat) (0:Int)==(39:Int))=false from rfl,cond_f]
 rw[j330 (b:=[34,x,y]) (n:=3) rfl (by simp) rfl,B_8_21_0_0]
 rw[s_id2 ho,B_8_21_1_0]
 rw[(by4 _).2,j20,tck_v]
 rfl
theorem rq_id3(h:Rq s F now)(ho:Sp.orI .i64 (wrap .i64 (wrap .i64 (getD [34,x,y] 1 0)*256)) (wrap .i64 (getD [34,x,y] 2 0))=259):F_8 s F [34,x,y] now=some (Sp.ded (Sp.tck s now) now,F,[98,x,y,wrap .u8 (Sp.tck s now).2.2.1],()):=by
 rw[rq0 h (by simp) (by simp)]
 unfold J_8_1 S_8_1
 rw[(tck_pv s now).1,gd_tt,(ln_pv [34,x,y] (by simp)).1,gd_tt,ln_v [34,x,y] (by simp),show Sp.ln [34,x,y]=3 from rfl,show((3:Int)==(0:Int))=false from rfl,cond_f,show inB (0:Int) (length ([34,x,y]:List Int))=true from rfl,gd_tt,show(getD ([34,x,y]:List Int) (0:Nat) (0:Int)==(20:Int))=false from rfl,cond_f,gd_tt,show(getD ([34,x,y]:List Int) (0:Nat) (0:Int)==(39:Int))=false from rfl,cond_f]
 rw[j330 (b:=[34,x,y]) (n:=3) rfl (by simp) rfl,B_8_21_0_0]
 rw[s_id3 ho,B_8_21_1_0]
 rw[(by1 _).2,j20,tck_v]
 rfl
theorem rq_idx(h:Rq s F now)(h0:¬Sp.orI .i64 (wrap .i64 (wrap .i64 (getD [34,x,y] 1 0)*256)) (wrap .i64 (getD [34,x,y] 2 0))=256)(h1:¬Sp.orI .i64 (wrap .i64 (wrap .i64 (getD [34,x,y] 1 0)*256)) (wrap .i64 (getD [34,x,y] 2 0))=257)(h2:¬Sp.orI .i64 (wrap .i64 (wrap .i64 (getD [34,x,y] 1 0)*256)) (wrap .i64 (getD [34,x,y] 2 0))=258)(h3:¬Sp.orI .i64 (wrap .i64 (wrap .i64 (getD [34,x,y] 1 0)*256)) (wrap .i64 (getD [34,x,y] 2 0))=259):F_8 s F [34,x,y] now=some (Sp.ded (Sp.tck s now) now,F,[127,34,49],()):=by
 rw[rq0 h (by simp) (by simp)]
 unfold J_8_1 S_8_1
 rw[(tck_pv s now).1,gd_tt,(ln_pv [34,x,y] (by simp)).1,gd_tt,ln_v [34,x,y] (by simp),show Sp.ln [34,x,y]=3 from rfl,show((3:Int)==(0:Int))=false from rfl,cond_f,show inB (0:Int) (length ([34,x,y]:List Int))=true from rfl,gd_tt,show(getD ([34,x,y]:List Int) (0:Nat) (0:Int)==(20:Int))=false from rfl,cond_f,gd_tt,show(getD ([34,x,y]:List Int) (0:Nat) (0:Int)==(39:Int))=false from rfl,cond_f]
 rw[j330 (b:=[34,x,y]) (n:=3) rfl (by simp) rfl,B_8_21_0_0]
 rw[s_idx h0 h1 h2 h3,B_8_21_1_0]
 rw[j2n (by decide) (by simp),tck_v]
 rfl
theorem s_tp0:J_8_21_4_0 [62,0] s F q1 q2 q3 q4 v=some (.e1 s F q1 q2 q3 q4 v):=by
 unfold J_8_21_4_0 S_8_21_4_0
 rw[show inB (1:Int) (length ([62,0]:List Int))=true from rfl,gd_tt,show(getD ([62,0]:List Int) (1:Nat) (0:Int)==(128:Int))=false from rfl,cond_f,(rp_pv _).1,gd_tt]
theorem s_tp:J_8_21_1_0 [62,0] s F q1 q2 q3 q4 v=some (.e19 s F q1 q2 q3 q4 v):=by
 unfold J_8_21_1_0 S_8_21_1_0
 rw[show inB (0:Int) (length ([62,0]:List Int))=true from rfl,gd_tt,show(getD ([62,0]:List Int) (0:Nat) (0:Int)==(16:Int))=false from rfl,cond_f,show(getD ([62,0]:List Int) (0:Nat) (0:Int)==(17:Int))=false from rfl,cond_f,show(getD ([62,0]:List Int) (0:Nat) (0:Int)==(20:Int))=false from rfl,cond_f,show(getD ([62,0]:List Int) (0:Nat) (0:Int)==(25:Int))=false from rfl,cond_f,show(getD ([62,0]:List Int) (0:Nat) (0:Int)==(34:Int))=false from rfl,cond_f,show(getD ([62,0]:List Int) (0:Nat) (0:Int)==(39:Int))=false from rfl,cond_f,s_tp0,B_8_21_4_0]
theorem rq_tp(h:Rq s F now):F_8 s F [62,0] now=some (Sp.ded (Sp.tck s now) now,F,[126,0],()):=by
 rw[rq0 h (by simp) (by simp)]
 unfold J_8_1 S_8_1
 rw[(tck_pv s now).1,gd_tt,(ln_pv [62,0] (by simp)).1,gd_tt,ln_v [62,0] (by simp),show Sp.ln [62,0]=2 from rfl,show((2:Int)==(0:Int))=false from rfl,cond_f,show inB (0:Int) (length ([62,0]:List Int))=true from rfl,gd_tt,show(getD ([62,0]:List Int) (0:Nat) (0:Int)==(20:Int))=false from rfl,cond_f,gd_tt,show(getD ([62,0]:List Int) (0:Nat) (0:Int)==(39:Int))=false from rfl,cond_f]
 rw[j330 (b:=[62,0]) (n:=2) rfl (by simp) rfl,B_8_21_0_0]
 rw[s_tp,B_8_21_1_0]
 rw[(rp_pv _).2,j21,tck_v]
 rfl
theorem s_en2:J_8_41_0_0 2 s F q1 q2 q3 q4 v=some (.e0 2 s F q1 q2 q3 q4 v):=by
 unfold J_8_41_0_0 S_8_41_0_0
 rw[(ent_pv _ _).1,gd_tt,(rp_pv _).1,gd_tt]
theorem s_se2(h1:¬v.1.1=1):J_8_21_1_0 [16,2] s F q1 q2 q3 q4 v=some (.e1 2 s F q1 q2 q3 q4 v):=by
 unfold J_8_21_1_0 S_8_21_1_0
 rw[show inB (0:Int) (length ([16,2]:List Int))=true from rfl,gd_tt,show(getD ([16,2]:List Int) (0:Nat) (0:Int)==(16:Int))=true from rfl,cond_t,show inB (1:Int) (length ([16,2]:List Int))=true from rfl,gd_tt,show wrap .i64 (getD ([16,2]:List Int) (1:Nat) (0:Int))=2 from rfl,show((2:Int)==(2:Int))=true from rfl,cond_t,cond_eff h1,s_en2,B_8_41_0_0]
theorem rq_se2(h:Rq s F now)(h1:¬(Sp.tck s now).1=1):F_8 s F [16,2] now=some (Sp.ded (Sp.ent (Sp.tck s now) 2) now,F,[80,2],()):=by
 rw[rq0 h (by simp) (by simp)]
 unfold J_8_1 S_8_1
 rw[(tck_pv s now).1,gd_tt,(ln_pv [16,2] (by simp)).1,gd_tt,ln_v [16,2] (by simp),show Sp.ln [16,2]=2 from rfl,show((2:Int)==(0:Int))=false from rfl,cond_f,show inB (0:Int) (length ([16,2]:List Int))=true from rfl,gd_tt,show(getD ([16,2]:List Int) (0:Nat) (0:Int)==(20:Int))=false from rfl,cond_f,gd_tt,show(getD ([16,2]:List Int) (0:Nat) (0:Int)==(39:Int))=false from rfl,cond_f]
 rw[j330 (b:=[16,2]) (n:=2) rfl (by simp) rfl,B_8_21_0_0]
 rw[s_se2 (v:=((v_20 s now).1,F,now,())) (by rw[tck_v];exact h1),B_8_21_1_0]
 rw[(rp_pv _).2,(ent_pv _ _).2,j21,tck_v]
 rfl
theorem s_en3:J_8_41_0_0 3 s F q1 q2 q3 q4 v=some (.e0 3 s F q1 q2 q3 q4 v):=by
 unfold J_8_41_0_0 S_8_41_0_0
 rw[(ent_pv _ _).1,gd_tt,(rp_pv _).1,gd_tt]
theorem s_se3:J_8_21_1_0 [16,3] s F q1 q2 q3 q4 v=some (.e1 3 s F q1 q2 q3 q4 v):=by
 unfold J_8_21_1_0 S_8_21_1_0
 rw[show inB (0:Int) (length ([16,3]:List Int))=true from rfl,gd_tt,show(getD ([16,3]:List Int) (0:Nat) (0:Int)==(16:Int))=true from rfl,cond_t,show inB (1:Int) (length ([16,3]:List Int))=true from rfl,gd_tt,show wrap .i64 (getD ([16,3]:List Int) (1:Nat) (0:Int))=3 from rfl,show((3:Int)==(2:Int))=false from rfl,cond_f,s_en3,B_8_41_0_0]
theorem rq_se3(h:Rq s F now):F_8 s F [16,3] now=some (Sp.ded (Sp.ent (Sp.tck s now) 3) now,F,[80,3],()):=by
 rw[rq0 h (by simp) (by simp)]
 unfold J_8_1 S_8_1
 rw[(tck_pv s now).1,gd_tt,(ln_pv [16,3] (by simp)).1,gd_tt,ln_v [16,3] (by simp),show Sp.ln [16,3]=2 from rfl,show((2:Int)==(0:Int))=false from rfl,cond_f,show inB (0:Int) (length ([16,3]:List Int))=true from rfl,gd_tt,show(getD ([16,3]:List Int) (0:Nat) (0:Int)==(20:Int))=false from rfl,cond_f,gd_tt,show(getD ([16,3]:List Int) (0:Nat) (0:Int)==(39:Int))=false from rfl,cond_f]
 rw[j330 (b:=[16,3]) (n:=2) rfl (by simp) rfl,B_8_21_0_0]
 rw[s_se3,B_8_21_1_0]
 rw[(rp_pv _).2,(ent_pv _ _).2,j21,tck_v]
 rfl
end
namespace Sp
noncomputable def sdn(now:Int):Int:=wrap .i64 (1+Int.tmod (wrap .i64 (40503*now)) 65535)
noncomputable def kyn(x y:Int):Int:=Sp.orI .i64 (wrap .i64 (wrap .i64 x*256)) (wrap .i64 y)
noncomputable abbrev key(seed level:Int):Int:=(v_58 seed level).1
noncomputable def sdA(s:SvT)(now:Int):SvT:=(s.1,sdn now,s.2.2)
noncomputable def sdR(s:SvT):SvT:=(s.1,0,1,0,s.2.2.2.2)
noncomputable def sdW(s:SvT):SvT:=(s.1,0,s.2.2.1,wrap .i64 (s.2.2.2.1+1),s.2.2.2.2)
noncomputable def sdX(s:SvT)(now:Int):SvT:=(s.1,0,s.2.2.1,0,wrap .i64 (now+10000000),s.2.2.2.2.2)
end Sp
section
variable{s:SvT}{F:FsT}{now x y:Int}{q1:SvT}{q2:IbT}{q3:List CfT}{q4:List FaT}{v:VvT}
theorem s_sd(hu:¬v.2.2.1<v.1.2.2.2.2.1)(hl:v.1.2.2.1=0):J_8_46_0_0 s F q1 q2 q3 q4 v=some (.e0 (Sp.sdn v.2.2.1) s F q1 q2 q3 q4 (Sp.sdA v.1 v.2.2.1,v.2)):=by
 unfold J_8_46_0_0 S_8_46_0_0
 rw[cond_ett hl]
 show B_8_46_1_0 (J_8_46_1_0 (Sp.sdn v.2.2.1) s F q1 q2 q3 q4 (Sp.sdA v.1 v.2.2.1,v.2)) _=_
 unfold J_8_46_1_0 S_8_46_1_0
 rw[(by2 _).1,gd_tt,(by2 _).2]
 rfl
theorem sq_51(hk:p_58 v.1.2.1 1=true)(K:Int):J_8_47_0_0 K s F q1 q2 q3 q4 v=(if K=Sp.key v.1.2.1 1 then some (.e0 s F q1 q2 q3 q4 (Sp.sdR v.1,v.2))else if(Sp.sdW v.1).2.2.2.1<3 then some (.e1 s F q1 q2 q3 q4 (Sp.sdW v.1,v.2))else some (.e2 s F q1 q2 q3 q4 (Sp.sdW v.1,v.2))):=by
 unfold J_8_47_0_0 S_8_47_0_0
 rw[hk,gd_tt]
 unfold J_8_47_1_0 S_8_47_1_0
 by_cases hK:K=Sp.key v.1.2.1 1
 ·rw[if_pos hK,cond_ett hK]
  unfold J_8_47_2_0 S_8_47_2_0
  rw[(rp_pv _).1,gd_tt]
  rfl
 ·rw[if_neg hK,cond_eff hK]
  unfold J_8_47_3_0 S_8_47_3_0
  show B_8_47_1_0 (B_8_47_3_0 (B_8_47_4_0 (J_8_47_4_0 s F q1 q2 q3 q4 (Sp.sdW v.1,v.2)) _ _) _ _) _ _ _=_
  unfold J_8_47_4_0 S_8_47_4_0
  by_cases h3:(Sp.sdW v.1).2.2.2.1<3
  ·rw[if_pos h3,cond_dtt h3]
   rfl
  ·rw[if_neg h3,cond_dff h3]
   rfl
theorem s_k0(h0:v.1.2.1=0):J_8_21_3_0 [39,2,x,y] s F q1 q2 q3 q4 v=some (.e0 s F q1 q2 q3 q4 v):=by
 unfold J_8_21_3_0 S_8_21_3_0
 rw[show inB (2:Int) (length ([39,2,x,y]:List Int))=true from rfl,gd_tt,show inB (3:Int) (length ([39,2,x,y]:List Int))=true from rfl,gd_tt,cond_ett h0]
theorem s_kr(h0:¬v.1.2.1=0)(hk:p_58 v.1.2.1 1=true)(hK:Sp.kyn x y=Sp.key v.1.2.1 1):J_8_21_3_0 [39,2,x,y] s F q1 q2 q3 q4 v=some (.e1 s F q1 q2 q3 q4 (Sp.sdR v.1,v.2)):=by
 unfold J_8_21_3_0 S_8_21_3_0
 rw[show inB (2:Int) (length ([39,2,x,y]:List Int))=true from rfl,gd_tt,show inB (3:Int) (length ([39,2,x,y]:List Int))=true from rfl,gd_tt,cond_eff h0]
 show B_8_47_0_0 (J_8_47_0_0 (Sp.kyn x y) s F q1 q2 q3 q4 v) _ _ _=_
 rw[sq_51 hk]
 rw[if_pos hK]
 rfl
theorem s_kw(h0:¬v.1.2.1=0)(hk:p_58 v.1.2.1 1=true)(hK:¬Sp.kyn x y=Sp.key v.1.2.1 1)(h3:(Sp.sdW v.1).2.2.2.1<3):J_8_21_3_0 [39,2,x,y] s F q1 q2 q3 q4 v=some (.e2 s F q1 q2 q3 q4 (Sp.sdW v.1,v.2)):=by
 unfold J_8_21_3_0 S_8_21_3_0
 rw[show inB (2:Int) (length ([39,2,x,y]:List Int))=true from rfl,gd_tt,show inB (3:Int) (length ([39,2,x,y]:List Int))=true from rfl,gd_tt,cond_eff h0]
 show B_8_47_0_0 (J_8_47_0_0 (Sp.kyn x y) s F q1 q2 q3 q4 v) _ _ _=_
 rw[sq_51 hk]
 rw[if_neg hK,if_pos h3]
 rfl
theorem s_kx(h0:¬v.1.2.1=0)(hk:p_58 v.1.2.1 1=true)(hK:¬Sp.kyn x y=Sp.key v.1.2.1 1)(h3:¬(Sp.sdW v.1).2.2.2.1<3):J_8_21_3_0 [39,2,x,y] s F q1 q2 q3 q4 v=some (.e3 s F q1 q2 q3 q4 (Sp.sdW v.1,v.2)):=by
 unfold J_8_21_3_0 S_8_21_3_0
 rw[show inB (2:Int) (length ([39,2,x,y]:List Int))=true from rfl,gd_tt,show inB (3:Int) (length ([39,2,x,y]:List Int))=true from rfl,gd_tt,cond_eff h0]
 show B_8_47_0_0 (J_8_47_0_0 (Sp.kyn x y) s F q1 q2 q3 q4 v) _ _ _=_
 rw[sq_51 hk]
 rw[if_neg hK,if_neg h3]
 rfl
theorem s_q1(hu:¬v.2.2.1<v.1.2.2.2.2.1)(hl:v.1.2.2.1=0):J_8_21_1_0 [39,1] s F q1 q2 q3 q4 v=some (.e13 (Sp.sdn v.2.2.1) s F q1 q2 q3 q4 (Sp.sdA v.1 v.2.2.1,v.2)):=by
 unfold J_8_21_1_0 S_8_21_1_0
 rw[show inB (0:Int) (length ([39,1]:List Int))=true from rfl,gd_tt,show(getD ([39,1]:List Int) (0:Nat) (0:Int)==(16:Int))=false from rfl,cond_f,show(getD ([39,1]:List Int) (0:Nat) (0:Int)==(17:Int))=false from rfl,cond_f,show(getD ([39,1]:List Int) (0:Nat) (0:Int)==(20:Int))=false from rfl,cond_f,show(getD ([39,1]:List Int) (0:Nat) (0:Int)==(25:Int))=false from rfl,cond_f,show(getD ([39,1]:List Int) (0:Nat) (0:Int)==(34:Int))=false from rfl,cond_f,show(getD ([39,1]:List Int) (0:Nat) (0:Int)==(39:Int))=true from rfl,cond_t,show inB (1:Int) (length ([39,1]:List Int))=true from rfl,gd_tt,show(getD ([39,1]:List Int) (1:Nat) (0:Int)==(1:Int))=true from rfl,cond_t,cond_dff hu,s_sd hu hl,B_8_46_0_0]
theorem s_q0(hu:v.2.2.1<v.1.2.2.2.2.1):J_8_21_1_0 [39,1] s F q1 q2 q3 q4 v=some (.e12 s F q1 q2 q3 q4 v):=by
 unfold J_8_21_1_0 S_8_21_1_0
 rw[show inB (0:Int) (length ([39,1]:List Int))=true from rfl,gd_tt,show(getD ([39,1]:List Int) (0:Nat) (0:Int)==(16:Int))=false from rfl,cond_f,show(getD ([39,1]:List Int) (0:Nat) (0:Int)==(17:Int))=false from rfl,cond_f,show(getD ([39,1]:List Int) (0:Nat) (0:Int)==(20:Int))=false from rfl,cond_f,show(getD ([39,1]:List Int) (0:Nat) (0:Int)==(25:Int))=false from rfl,cond_f,show(getD ([39,1]:List Int) (0:Nat) (0:Int)==(34:Int))=false from rfl,cond_f,show(getD ([39,1]:List Int) (0:Nat) (0:Int)==(39:Int))=true from rfl,cond_t,show inB (1:Int) (length ([39,1]:List Int))=true from rfl,gd_tt,show(getD ([39,1]:List Int) (1:Nat) (0:Int)==(1:Int))=true from rfl,cond_t,cond_dtt hu]
theorem s_y0(h0:v.1.2.1=0):J_8_21_1_0 [39,2,x,y] s F q1 q2 q3 q4 v=some (.e14 s F q1 q2 q3 q4 v):=by
 unfold J_8_21_1_0 S_8_21_1_0
 rw[show inB (0:Int) (length ([39,2,x,y]:List Int))=true from rfl,gd_tt,show(getD ([39,2,x,y]:List Int) (0:Nat) (0:Int)==(16:Int))=false from rfl,cond_f,show(getD ([39,2,x,y]:List Int) (0:Nat) (0:Int)==(17:Int))=false from rfl,cond_f,show(getD ([39,2,x,y]:List Int) (0:Nat) (0:Int)==(20:Int))=false from rfl,cond_f,show(getD ([39,2,x,y]:List Int) (0:Nat) (0:Int)==(25:Int))=false from rfl,cond_f,show(getD ([39,2,x,y]:List Int) (0:Nat) (0:Int)==(34:Int))=false from rfl,cond_f,show(getD ([39,2,x,y]:List Int) (0:Nat) (0:Int)==(39:Int))=true from rfl,cond_t,show inB (1:Int) (length ([39,2,x,y]:List Int))=true from rfl,gd_tt,show(getD ([39,2,x,y]:List Int) (1:Nat) (0:Int)==(1:Int))=false from rfl,cond_f,s_k0 h0,B_8_21_3_0]
theorem s_yr(h0:¬v.1.2.1=0)(hk:p_58 v.1.2.1 1=true)(hK:Sp.kyn x y=Sp.key v.1.2.1 1):J_8_21_1_0 [39,2,x,y] s F q1 q2 q3 q4 v=some (.e15 s F q1 q2 q3 q4 (Sp.sdR v.1,v.2)):=by
 unfold J_8_21_1_0 S_8_21_1_0
 rw[show inB (0:Int) (length ([39,2,x,y]:List Int))=true from rfl,gd_tt,show(getD ([39,2,x,y]:List Int) (0:Nat) (0:Int)==(16:Int))=false from rfl,cond_f,show(getD ([39,2,x,y]:List Int) (0:Nat) (0:Int)==(17:Int))=false from rfl,cond_f,show(getD ([39,2,x,y]:List Int) (0:Nat) (0:Int)==(20:Int))=false from rfl,cond_f,show(getD ([39,2,x,y]:List Int) (0:Nat) (0:Int)==(25:Int))=false from rfl,cond_f,show(getD ([39,2,x,y]:List Int) (0:Nat) (0:Int)==(34:Int))=false from rfl,cond_f,show(getD ([39,2,x,y]:List Int) (0:Nat) (0:Int)==(39:Int))=true from rfl,cond_t,show inB (1:Int) (length ([39,2,x,y]:List Int))=true from rfl,gd_tt,show(getD ([39,2,x,y]:List Int) (1:Nat) (0:Int)==(1:Int))=false from rfl,cond_f,s_kr h0 hk hK,B_8_21_3_0]
theorem s_yw(h0:¬v.1.2.1=0)(hk:p_58 v.1.2.1 1=true)(hK:¬Sp.kyn x y=Sp.key v.1.2.1 1)(h3:(Sp.sdW v.1).2.2.2.1<3):J_8_21_1_0 [39,2,x,y] s F q1 q2 q3 q4 v=some (.e16 s F q1 q2 q3 q4 (Sp.sdW v.1,v.2)):=by
 unfold J_8_21_1_0 S_8_21_1_0
 rw[show inB (0:Int) (length ([39,2,x,y]:List Int))=true from rfl,gd_tt,show(getD ([39,2,x,y]:List Int) (0:Nat) (0:Int)==(16:Int))=false from rfl,cond_f,show(getD ([39,2,x,y]:List Int) (0:Nat) (0:Int)==(17:Int))=false from rfl,cond_f,show(getD ([39,2,x,y]:List Int) (0:Nat) (0:Int)==(20:Int))=false from rfl,cond_f,show(getD ([39,2,x,y]:List Int) (0:Nat) (0:Int)==(25:Int))=false from rfl,cond_f,show(getD ([39,2,x,y]:List Int) (0:Nat) (0:Int)==(34:Int))=false from rfl,cond_f,show(getD ([39,2,x,y]:List Int) (0:Nat) (0:Int)==(39:Int))=true from rfl,cond_t,show inB (1:Int) (length ([39,2,x,y]:List Int))=true from rfl,gd_tt,show(getD ([39,2,x,y]:List Int) (1:Nat) (0:Int)==(1:Int))=false from rfl,cond_f,s_kw h0 hk hK h3,B_8_21_3_0]
theorem s_yx(h0:¬v.1.2.1=0)(hk:p_58 v.1.2.1 1=true)(hK:¬Sp.kyn x y=Sp.key v.1.2.1 1)(h3:¬(Sp.sdW v.1).2.2.2.1<3):J_8_21_1_0 [39,2,x,y] s F q1 q2 q3 q4 v=some (.e17 s F q1 q2 q3 q4 (Sp.sdW v.1,v.2)):=by
 unfold J_8_21_1_0 S_8_21_1_0
 rw[show inB (0:Int) (length ([39,2,x,y]:List Int))=true from rfl,gd_tt,show(getD ([39,2,x,y]:List Int) (0:Nat) (0:Int)==(16:Int))=false from rfl,cond_f,show(getD ([39,2,x,y]:List Int) (0:Nat) (0:Int)==(17:Int))=false from rfl,cond_f,show(getD ([39,2,x,y]:List Int) (0:Nat) (0:Int)==(20:Int))=false from rfl,cond_f,show(getD ([39,2,x,y]:List Int) (0:Nat) (0:Int)==(25:Int))=false from rfl,cond_f,show(getD ([39,2,x,y]:List Int) (0:Nat) (0:Int)==(34:Int))=false from rfl,cond_f,show(getD ([39,2,x,y]:List Int) (0:Nat) (0:Int)==(39:Int))=true from rfl,cond_t,show inB (1:Int) (length ([39,2,x,y]:List Int))=true from rfl,gd_tt,show(getD ([39,2,x,y]:List Int) (1:Nat) (0:Int)==(1:Int))=false from rfl,cond_f,s_kx h0 hk hK h3,B_8_21_3_0]
theorem rq_q1(h:Rq s F now)(h1:¬(Sp.tck s now).1=1)(hu:¬now<(Sp.tck s now).2.2.2.2.1)(hl:(Sp.tck s now).2.2.1=0):F_8 s F [39,1] now=some (Sp.ded (Sp.sdA (Sp.tck s now) now) now,F,[103,1,wrap .u8 (Int.fdiv (Sp.sdn now) 256),wrap .u8 (Sp.sdn now)],()):=by
 rw[rq0 h (by simp) (by simp)]
 unfold J_8_1 S_8_1
 rw[(tck_pv s now).1,gd_tt,(ln_pv [39,1] (by simp)).1,gd_tt,ln_v [39,1] (by simp),show Sp.ln [39,1]=2 from rfl,show((2:Int)==(0:Int))=false from rfl,cond_f,show inB (0:Int) (length ([39,1]:List Int))=true from rfl,gd_tt,show(getD ([39,1]:List Int) (0:Nat) (0:Int)==(20:Int))=false from rfl,cond_f,gd_tt,show(getD ([39,1]:List Int) (0:Nat) (0:Int)==(39:Int))=true from rfl,cond_t,tck_v,show((Sp.tck s now).1==(1:Int))=false from by simpa using h1]
 rw[j330 (b:=[39,1]) (n:=2) rfl (by simp) rfl,B_8_21_0_0]
 rw[s_q1 (v:=(Sp.tck s now,F,now,())) hu hl,B_8_21_1_0]
 rw[(by2 _).2,j20]
 rfl
theorem rq_q0(h:Rq s F now)(h1:¬(Sp.tck s now).1=1)(hu:now<(Sp.tck s now).2.2.2.2.1):F_8 s F [39,1] now=some (Sp.ded ((Sp.tck s now)) now,F,[127,39,55],()):=by
 rw[rq0 h (by simp) (by simp)]
 unfold J_8_1 S_8_1
 rw[(tck_pv s now).1,gd_tt,(ln_pv [39,1] (by simp)).1,gd_tt,ln_v [39,1] (by simp),show Sp.ln [39,1]=2 from rfl,show((2:Int)==(0:Int))=false from rfl,cond_f,show inB (0:Int) (length ([39,1]:List Int))=true from rfl,gd_tt,show(getD ([39,1]:List Int) (0:Nat) (0:Int)==(20:Int))=false from rfl,cond_f,gd_tt,show(getD ([39,1]:List Int) (0:Nat) (0:Int)==(39:Int))=true from rfl,cond_t,tck_v,show((Sp.tck s now).1==(1:Int))=false from by simpa using h1]
 rw[j330 (b:=[39,1]) (n:=2) rfl (by simp) rfl,B_8_21_0_0]
 rw[s_q0 (v:=(Sp.tck s now,F,now,())) hu,B_8_21_1_0]
 rw[j2n (by decide) (by simp)]
 rfl
theorem rq_y0(h:Rq s F now)(h1:¬(Sp.tck s now).1=1)(h0:(Sp.tck s now).2.1=0):F_8 s F [39,2,x,y] now=some (Sp.ded ((Sp.tck s now)) now,F,[127,39,36],()):=by
 rw[rq0 h (by simp) (by simp)]
 unfold J_8_1 S_8_1
 rw[(tck_pv s now).1,gd_tt,(ln_pv [39,2,x,y] (by simp)).1,gd_tt,ln_v [39,2,x,y] (by simp),show Sp.ln [39,2,x,y]=4 from rfl,show((4:Int)==(0:Int))=false from rfl,cond_f,show inB (0:Int) (length ([39,2,x,y]:List Int))=true from rfl,gd_tt,show(getD ([39,2,x,y]:List Int) (0:Nat) (0:Int)==(20:Int))=false from rfl,cond_f,gd_tt,show(getD ([39,2,x,y]:List Int) (0:Nat) (0:Int)==(39:Int))=true from rfl,cond_t,tck_v,show((Sp.tck s now).1==(1:Int))=false from by simpa using h1]
 rw[j330 (b:=[39,2,x,y]) (n:=4) rfl (by simp) rfl,B_8_21_0_0]
 rw[s_y0 (v:=(Sp.tck s now,F,now,())) h0,B_8_21_1_0]
 rw[j2n (by decide) (by simp)]
 rfl
theorem rq_yr(h:Rq s F now)(h1:¬(Sp.tck s now).1=1)(h0:¬(Sp.tck s now).2.1=0)(hk:p_58 (Sp.tck s now).2.1 1=true)(hK:Sp.kyn x y=Sp.key (Sp.tck s now).2.1 1):F_8 s F [39,2,x,y] now=some (Sp.ded (Sp.sdR (Sp.tck s now)) now,F,[103,2],()):=by
 rw[rq0 h (by simp) (by simp)]
 unfold J_8_1 S_8_1
 rw[(tck_pv s now).1,gd_tt,(ln_pv [39,2,x,y] (by simp)).1,gd_tt,ln_v [39,2,x,y] (by simp),show Sp.ln [39,2,x,y]=4 from rfl,show((4:Int)==(0:Int))=false from rfl,cond_f,show inB (0:Int) (length ([39,2,x,y]:List Int))=true from rfl,gd_tt,show(getD ([39,2,x,y]:List Int) (0:Nat) (0:Int)==(20:Int))=false from rfl,cond_f,gd_tt,show(getD ([39,2,x,y]:List Int) (0:Nat) (0:Int)==(39:Int))=true from rfl,cond_t,tck_v,show((Sp.tck s now).1==(1:Int))=false from by simpa using h1]
 rw[j330 (b:=[39,2,x,y]) (n:=4) rfl (by simp) rfl,B_8_21_0_0]
 rw[s_yr (v:=(Sp.tck s now,F,now,())) h0 hk hK,B_8_21_1_0]
 rw[(rp_pv _).2,j21]
 rfl
theorem rq_yw(h:Rq s F now)(h1:¬(Sp.tck s now).1=1)(h0:¬(Sp.tck s now).2.1=0)(hk:p_58 (Sp.tck s now).2.1 1=true)(hK:¬Sp.kyn x y=Sp.key (Sp.tck s now).2.1 1)(h3:(Sp.sdW (Sp.tck s now)).2.2.2.1<3):F_8 s F [39,2,x,y] now=some (Sp.ded (Sp.sdW (Sp.tck s now)) now,F,[127,39,53],()):=by
 rw[rq0 h (by simp) (by simp)]
 unfold J_8_1 S_8_1
 rw[(tck_pv s now).1,gd_tt,(ln_pv [39,2,x,y] (by simp)).1,gd_tt,ln_v [39,2,x,y] (by simp),show Sp.ln [39,2,x,y]=4 from rfl,show((4:Int)==(0:Int))=false from rfl,cond_f,show inB (0:Int) (length ([39,2,x,y]:List Int))=true from rfl,gd_tt,show(getD ([39,2,x,y]:List Int) (0:Nat) (0:Int)==(20:Int))=false from rfl,cond_f,gd_tt,show(getD ([39,2,x,y]:List Int) (0:Nat) (0:Int)==(39:Int))=true from rfl,cond_t,tck_v,show((Sp.tck s now).1==(1:Int))=false from by simpa using h1]
 rw[j330 (b:=[39,2,x,y]) (n:=4) rfl (by simp) rfl,B_8_21_0_0]
 rw[s_yw (v:=(Sp.tck s now,F,now,())) h0 hk hK h3,B_8_21_1_0]
 rw[j2n (by decide) (by simp)]
 rfl
theorem rq_yx(h:Rq s F now)(h1:¬(Sp.tck s now).1=1)(h0:¬(Sp.tck s now).2.1=0)(hk:p_58 (Sp.tck s now).2.1 1=true)(hK:¬Sp.kyn x y=Sp.key (Sp.tck s now).2.1 1)(h3:¬(Sp.sdW (Sp.tck s now)).2.2.2.1<3):F_8 s F [39,2,x,y] now=some (Sp.ded (Sp.sdX (Sp.tck s now) now) now,F,[127,39,54],()):=by
 rw[rq0 h (by simp) (by simp)]
 unfold J_8_1 S_8_1
 rw[(tck_pv s now).1,gd_tt,(ln_pv [39,2,x,y] (by simp)).1,gd_tt,ln_v [39,2,x,y] (by simp),show Sp.ln [39,2,x,y]=4 from rfl,show((4:Int)==(0:Int))=false from rfl,cond_f,show inB (0:Int) (length ([39,2,x,y]:List Int))=true from rfl,gd_tt,show(getD ([39,2,x,y]:List Int) (0:Nat) (0:Int)==(20:Int))=false from rfl,cond_f,gd_tt,show(getD ([39,2,x,y]:List Int) (0:Nat) (0:Int)==(39:Int))=true from rfl,cond_t,tck_v,show((Sp.tck s now).1==(1:Int))=false from by simpa using h1]
 rw[j330 (b:=[39,2,x,y]) (n:=4) rfl (by simp) rfl,B_8_21_0_0]
 rw[s_yx (v:=(Sp.tck s now,F,now,())) h0 hk hK h3,B_8_21_1_0]
 rw[j2n (by decide) (by simp)]
 rfl
end
set_option maxRecDepth 100000
set_option maxHeartbeats 4000000
theorem andI_lo(x:Int):0<=Sp.andI .i64 x 65535/\Sp.andI .i64 x 65535<=65535:=by
 unfold Sp.andI
 have h:(BitVec.ofInt i64.bits x&&&BitVec.ofInt i64.bits 65535).toNat<=65535:=by
  rw[BitVec.toNat_and]
  exact Nat.and_le_right
 have e:wrap .i64 ((BitVec.ofInt i64.bits x&&&BitVec.ofInt i64.bits 65535).toNat:Int)=((BitVec.ofInt i64.bits x&&&BitVec.ofInt i64.bits 65535).toNat:Int):=wi64 (by omega) (by omega)
 first|(rw[e];omega)|omega
theorem key_ok{seed:Int}(h0:0<=seed)(h1:seed<=65535):p_58 seed 1=true/\0<=Sp.key seed 1/\Sp.key seed 1<=65535:=by
 have hF:∃z,F_58 seed 1=some (z,())/\0<=z/\z<=65535:=by
  unfold F_58
  rw[(din_pv _ _ _).1,(din_pv _ _ _).2,gd_tt,inr_iff.2 ⟨h0,h1⟩,Bool.not_true,cond_f,(din_pv _ _ _).1,(din_pv _ _ _).2,gd_tt,inr_iff.2 ⟨by decide,by decide⟩,Bool.not_true,cond_f]
  exact⟨_,rfl,andI_lo _⟩
 obtain⟨z,hz,a,b⟩:=hF
 have hq:=pv_58 _ _ hz
 refine⟨hq.1,?_⟩
 rw[Sp.key,hq.2]
 exact⟨a,b⟩
abbrev Fz:FsT:=([],[],(0:Int),false,())
theorem ded_sv{s:SvT}{now:Int}(h:Sv s)(h0:0<=now)(h1:now<=1099511627776):Sv (Sp.ded s now):=by
 unfold Sp.ded
 refine⟨h.s0,h.s1,h.e0,h.e1,h.l0,h.l1,h.t0,h.t1,h.u0,h.u1,?_,?_,?_⟩<;>dsimp only
 ·split
  ·omega
  ·rw[wi64 (by omega) (by omega)];omega
 ·split
  ·omega
  ·rw[wi64 (by omega) (by omega)];omega
 ·intro e
  rw[if_pos e]
  exact⟨(h.z e).1,(h.z e).2.1,rfl⟩
namespace Sp
noncomputable def ht(F:FsT)(k:Int)(j:Nat):Bool:=andI .i64 (F.2.1.getD j Zd1).1 k !=0
noncomputable def hs(F:FsT)(k:Int)(n:Nat):List Nat:=(List.range n).filter (ht F k)
noncomputable def rcd(F:FsT)(j:Nat):Int:=(F.1.getD j Zd0).1
noncomputable def rby(F:FsT)(j:Nat):List Int:=[wrap .u8 (Int.fdiv (Int.fdiv (rcd F j) 256) 256),wrap .u8 (Int.fdiv (rcd F j) 256),wrap .u8 (rcd F j),wrap .u8 (F.2.1.getD j Zd1).1]
noncomputable def rcs(F:FsT)(k:Int)(n:Nat):List Int:=(hs F k n).map (rcd F)
noncomputable def rbs(F:FsT)(k:Int)(n:Nat):List Int:=[89,2,31]++(hs F k n).flatMap (rby F)
end Sp
theorem hs_succ(F:FsT)(k:Int)(n:Nat):Sp.hs F k (n+1)=if Sp.ht F k n=true then Sp.hs F k n++[n]else Sp.hs F k n:=by
 unfold Sp.hs
 rw[List.range_succ,List.filter_append]
 split
 ·rename_i h;simp[h]
 ·rename_i h;simp[h]
theorem hs_len(F:FsT)(k:Int)(n:Nat):(Sp.hs F k n).length<=n:=by
 unfold Sp.hs
 exact Nat.le_trans (List.length_filter_le _ _) (by simp)
theorem fm_len(F:FsT)(l:List Nat):(l.flatMap (Sp.rby F)).length=4*l.length:=by
 induction l with
 |nil=>rfl
 |cons a l ih=>rw[List.flatMap_cons,List.length_append,ih];simp[Sp.rby];omega
theorem rbs_len(F:FsT)(k:Int)(n:Nat):(Sp.rbs F k n).length=3+4*(Sp.hs F k n).length:=by
 unfold Sp.rbs
 rw[List.length_append,fm_len];rfl
structure Vq(F:FsT):Prop where
 n:F.1.length<=64
 l:F.2.1.length=F.1.length
 c:∀j,j<F.1.length->1<=Sp.rcd F j/\Sp.rcd F j<=16777215
 s:∀j,j<F.1.length->0<=(F.2.1.getD j Zd1).1/\(F.2.1.getD j Zd1).1<=31
 d:∀a b,a<F.1.length->b<F.1.length->Sp.rcd F a=Sp.rcd F b->a=b
theorem vf_vq{F:FsT}(h:Sp.vf F=true):Vq F:=by
 unfold Sp.vf at h
 simp only[Bool.and_eq_true,decide_eq_true_eq,beq_iff_eq]at h
 obtain⟨h1,h2,h3,h4,h5,h6,h7⟩:=h
 have hl:F.2.1.length=F.1.length:=by omega
 refine⟨h1,hl,fun j hj=> ?_,fun j hj=> ?_,fun a b ha hb e=> ?_⟩
 ·have:=cfgs_at h2 hj
  unfold Sp.cfg at this
  simp only[Bool.and_eq_true,inr_iff]at this
  exact this.1
 ·unfold Sp.rgts at h7
  rw[List.all_eq_true]at h7
  have:=h7 j (by rw[List.mem_range];omega)
  unfold Sp.rgt Sp.rngs at this
  simp only[Bool.and_eq_true,inr_iff]at this
  exact this.1.1
 ·have hd:=(Sp.dst_nodup _).1 h3
  have hm:∀j,j<F.1.length->(F.1.map fun c=>c.1).getD j 0=Sp.rcd F j:=fun j hj=>by
   unfold Sp.rcd
   simp[List.getD_eq_getElem?_getD,hj]
  have ga:=getD_at (l:=F.1.map fun c=>c.1) (j:=a) 0 (by simpa using ha)
  have gb:=getD_at (l:=F.1.map fun c=>c.1) (j:=b) 0 (by simpa using hb)
  rw[hm a ha]at ga
  rw[hm b hb]at gb
  have hp:=List.pairwise_iff_getElem.1 hd
  rcases Nat.lt_trichotomy a b with h|h|h
  ·exact absurd (by rw[<-ga,<-gb,e]) (hp a b (by simpa using ha) (by simpa using hb) h)
  ·exact h
  ·exact absurd (by rw[<-ga,<-gb,e]) (hp b a (by simpa using hb) (by simpa using ha) h)
section
variable{s:SvT}{F:FsT}{now x y:Int}{q1:SvT}{q2:IbT}{q3:List CfT}{q4:List FaT}{v:VvT}
theorem s_rpl(hv:Sp.vf F=true)(hF:v.2.1=F)(k:Int):L_8_44_0_0 4611686018427387904 k F.2.1 F.2.1.length 0 s F q1 q2 q3 q4 v [89,2,31]=some (.e0 s F q1 q2 q3 q4 v (Sp.rbs F k F.2.1.length)):=by
 have hq:=vf_vq hv
 have hr:=run0 (fun m i l=>L_8_44_0_0 m k F.2.1 F.2.1.length i s F q1 q2 q3 q4 v l) (n:=F.2.1.length) (fun j=>Sp.rbs F k j) (r:=some (.e0 s F q1 q2 q3 q4 v (Sp.rbs F k F.2.1.length))) (by have:=hq.n;have:=hq.l;omega) (fun m j hj=>by
  show L_8_44_0_0 (m+1) k F.2.1 F.2.1.length (j:Int) s F q1 q2 q3 q4 v (Sp.rbs F k j)=L_8_44_0_0 m k F.2.1 F.2.1.length ((j+1:Nat):Int) s F q1 q2 q3 q4 v (Sp.rbs F k (j+1))
  have:=hq.n;have:=hq.l
  have hl:=hs_len F k j
  have hrl:=rbs_len F k j
  rw[L_8_44_0_0,S_8_44_0_0,cond_dtt (by omega),gd_inB (by omega) (by omega),hF,gd_inB (by omega) (by omega),Int.toNat_natCast,(by3 _).1,(by3 _).2,gd_tt,gd_room (by simp;omega) (by simp;omega),gd_room (by simp;omega) (by simp;omega),wi64 (by omega) (by omega)]
  change (bif Sp.ht F k j then L_8_44_0_0 m k F.2.1 F.2.1.length ((j:Int)+1) s F q1 q2 q3 q4 v (Sp.rbs F k j++_++_)else _)=_
  have e:Sp.rbs F k (j+1)=if Sp.ht F k j=true then Sp.rbs F k j++Sp.rby F j else Sp.rbs F k j:=by
   unfold Sp.rbs
   rw[hs_succ]
   split<;>simp
  rw[e,List.append_assoc]
  push_cast
  cases Sp.ht F k j<;>rfl) (fun m=>by
  show L_8_44_0_0 (m+1) k F.2.1 F.2.1.length F.2.1.length s F q1 q2 q3 q4 v (Sp.rbs F k F.2.1.length)=_
  rw[L_8_44_0_0,S_8_44_0_0,cond_dff (by omega)])
 exact hr
theorem s_rp(hv:Sp.vf F=true)(hF:v.2.1=F)(hx:wrap .i64 x=x):J_8_21_1_0 [25,2,x] s F q1 q2 q3 q4 v=some (.e6 s F q1 q2 q3 q4 v (Sp.rbs F x F.2.1.length)):=by
 unfold J_8_21_1_0 S_8_21_1_0
 rw[show inB (0:Int) (length ([25,2,x]:List Int))=true from rfl,gd_tt,show(getD ([25,2,x]:List Int) (0:Nat) (0:Int)==(16:Int))=false from rfl,cond_f,show(getD ([25,2,x]:List Int) (0:Nat) (0:Int)==(17:Int))=false from rfl,cond_f,show(getD ([25,2,x]:List Int) (0:Nat) (0:Int)==(20:Int))=false from rfl,cond_f,show(getD ([25,2,x]:List Int) (0:Nat) (0:Int)==(25:Int))=true from rfl,cond_t,show inB (2:Int) (length ([25,2,x]:List Int))=true from rfl,gd_tt,show getD ([25,2,x]:List Int) (2:Nat) (0:Int)=x from rfl,hx,hF,s_rpl hv hF,B_8_44_0_0]
theorem rq_rp(h:Rq s F now)(hv:Sp.vf F=true)(hx:wrap .i64 x=x):F_8 s F [25,2,x] now=some (Sp.ded (Sp.tck s now) now,F,Sp.rbs F x F.2.1.length,()):=by
 rw[rq0 h (by simp) (by simp)]
 unfold J_8_1 S_8_1
 rw[(tck_pv s now).1,gd_tt,(ln_pv [25,2,x] (by simp)).1,gd_tt,ln_v [25,2,x] (by simp),show Sp.ln [25,2,x]=3 from rfl,show((3:Int)==(0:Int))=false from rfl,cond_f,show inB (0:Int) (length ([25,2,x]:List Int))=true from rfl,gd_tt,show(getD ([25,2,x]:List Int) (0:Nat) (0:Int)==(20:Int))=false from rfl,cond_f,gd_tt,show(getD ([25,2,x]:List Int) (0:Nat) (0:Int)==(39:Int))=false from rfl,cond_f]
 rw[j330 (b:=[25,2,x]) (n:=3) rfl (by simp) rfl,B_8_21_0_0]
 rw[s_rp (v:=((v_20 s now).1,F,now,())) hv rfl hx,B_8_21_1_0]
 rw[j20,tck_v]
 rfl
end
set_option maxRecDepth 100000
set_option maxHeartbeats 4000000
namespace Sp
noncomputable def clF(F:FsT):FsT:=(F.1,replicate F.2.1.length Zd1,F.2.2)
end Sp
theorem rgt_dF{c:CfT}{cyc:Int}(h:Sp.cfg c=true)(hc:0<=cyc):Sp.rgt c Zd1 cyc=true:=by
 unfold Sp.cfg at h
 simp only[Bool.and_eq_true,inr_iff]at h
 have h1:Sp.rngs c Zd1 cyc=true:=by
  show(Sp.inr 0 0 31&&(Sp.inr 0 (0-c.2.2.1) c.2.1&&(Sp.inr 0 0 2&&(Sp.inr 0 0 (c.2.2.2.2.1-1)&&(Sp.inr 0 0 255&&Sp.inr 0 0 cyc)))))=true
  simp only[Bool.and_eq_true,inr_iff]
  omega
 have h2:Sp.frq c Zd1=true:=rfl
 have h3:Sp.q0 cyc Zd1=true:=by kernel_rfl
 have h4:Sp.q1 c Zd1=true:=by kernel_rfl
 have h5:Sp.q2 Zd1=true:=by kernel_rfl
 have h6:Sp.fin c Zd1=true:=by kernel_rfl
 unfold Sp.rgt
 rw[h1,h2,h3,h4,h5,h6]
 rfl
theorem clF_vf{F:FsT}(h:Sp.vf F=true):Sp.vf (Sp.clF F)=true:=by
 unfold Sp.vf at h⊢
 simp only[Bool.and_eq_true,decide_eq_true_eq,beq_iff_eq]at h⊢
 obtain⟨h1,h2,h3,h4,h5,h6,h7⟩:=h
 refine⟨h1,h2,h3,by simpa[Sp.clF]using h4,h5,h6,?_⟩
 unfold Sp.rgts
 rw[List.all_eq_true]
 intro j hj
 rw[List.mem_range]at hj
 have hj':j<F.2.1.length:=by simpa[Sp.clF]using hj
 have e:(Sp.clF F).2.1.getD j Zd1=Zd1:=by
  unfold Sp.clF
  simp[List.getD_eq_getElem?_getD,hj']
 rw[e]
 exact rgt_dF (cfgs_at h2 (by omega)) (inr_iff.1 h5).1
theorem clF_sm{F:FsT}(h:Sm F):Sm (Sp.clF F):=⟨by simpa[Sp.clF]using h.l⟩
theorem clr_pv{F:FsT}(hs:Sm F)(hv:Sp.vf F=true):p_56 F=true/\v_56 F=(Sp.clF F,0,()):=by
 refine pv_56 F ?_
 have hq:=vf_vq hv
 have:=hq.n;have:=hq.l
 unfold F_56
 rw[(vf_pv hs).1,(vf_pv hs).2,hv,gd_tt,Bool.not_true,cond_f,beq_self_eq_true,Int.toNat_natCast,Bool.true_and,gd_room (by omega) (by omega)]
 rfl
section
variable{s:SvT}{F:FsT}{now x y z:Int}{q1:SvT}{q2:IbT}{q3:List CfT}{q4:List FaT}{v:VvT}{b:List Int}
theorem j33a{n:Int}:J_8_21_0_0 b n true s F q1 q2 q3 q4 v=some (.e0 s F q1 q2 q3 q4 v):=by
 unfold J_8_21_0_0 S_8_21_0_0;rw[cond_t]
theorem j33b{n:Int}(h:¬(b.length:Int)=n):J_8_21_0_0 b n false s F q1 q2 q3 q4 v=some (.e1 s F q1 q2 q3 q4 v):=by
 unfold J_8_21_0_0 S_8_21_0_0;rw[cond_f,cond_ntt h]
theorem j33c{n:Int}(h:(b.length:Int)=n)(h1:1<b.length)(hf:Sp.fnc b=false):J_8_21_0_0 b n false s F q1 q2 q3 q4 v=some (.e2 s F q1 q2 q3 q4 v):=by
 unfold J_8_21_0_0 S_8_21_0_0;rw[cond_f,cond_nff h,(fnc_pv b h1).1,(fnc_pv b h1).2,gd_tt,hf];rfl
theorem rq_ns(h:Rq s F now)(hb0:1<=b.length)(hb1:b.length<=1023)(hl:Sp.ln b=0):F_8 s F b now=some (Sp.ded (Sp.tck s now) now,F,[127,b.getD 0 0,17],()):=by
 rw[rq0 h hb0 hb1]
 unfold J_8_1 S_8_1
 rw[(tck_pv s now).1,gd_tt,(ln_pv b hb0).1,gd_tt,ln_v b hb0]
 rw[cond_ett hl,j2n (by decide) hb0,tck_v]
 rfl
theorem rq_nis(h:Rq s F now)(hb0:1<=b.length)(hb1:b.length<=1023)(hl:¬Sp.ln b=0)(h2:b.getD 0 0=20\/b.getD 0 0=39)(h1:(Sp.tck s now).1=1):F_8 s F b now=some (Sp.ded (Sp.tck s now) now,F,[127,b.getD 0 0,127],()):=by
 rw[rq0 h hb0 hb1]
 unfold J_8_1 S_8_1
 rw[(tck_pv s now).1,gd_tt,(ln_pv b hb0).1,gd_tt,ln_v b hb0]
 rw[cond_eff hl,gd_inB (by decide) (by omega),gd_inB (by decide) (by omega),tck_v]
 have e1:((Sp.tck s now).1==1)=true:=beq_iff_eq.2 h1
 rcases h2 with h2|h2
 ·rw[cond_ett h2,e1,j33a,B_8_21_0_0,j2n (by decide) hb0]
  rfl
 ·rw[cond_eff (by omega),cond_ett h2,e1,j33a,B_8_21_0_0,j2n (by decide) hb0]
  rfl
theorem rq_len(h:Rq s F now)(hb0:1<=b.length)(hb1:b.length<=1023)(hl:¬Sp.ln b=0)(h2:b.getD 0 0=20\/b.getD 0 0=39->¬(Sp.tck s now).1=1)(h3:¬(b.length:Int)=Sp.ln b):F_8 s F b now=some (Sp.ded (Sp.tck s now) now,F,[127,b.getD 0 0,19],()):=by
 rw[rq0 h hb0 hb1]
 unfold J_8_1 S_8_1
 rw[(tck_pv s now).1,gd_tt,(ln_pv b hb0).1,gd_tt,ln_v b hb0]
 rw[cond_eff hl,gd_inB (by decide) (by omega),gd_inB (by decide) (by omega),tck_v]
 by_cases c1:b.getD 0 0=20
 ·rw[cond_ett c1,beq_eq_false_iff_ne.2 (h2 (Or.inl c1)),j33b h3,B_8_21_0_0,j2n (by decide) hb0]
  rfl
 by_cases c2:b.getD 0 0=39
 ·rw[cond_eff c1,cond_ett c2,beq_eq_false_iff_ne.2 (h2 (Or.inr c2)),j33b h3,B_8_21_0_0,j2n (by decide) hb0]
  rfl
 ·rw[cond_eff c1,cond_eff c2,j33b h3,B_8_21_0_0,j2n (by decide) hb0]
  rfl
theorem rq_fn(h:Rq s F now)(hb0:1<=b.length)(hb1:b.length<=1023)(hl:¬Sp.ln b=0)(h2:b.getD 0 0=20\/b.getD 0 0=39->¬(Sp.tck s now).1=1)(h3:(b.length:Int)=Sp.ln b)(h4:1<b.length)(h5:Sp.fnc b=false):F_8 s F b now=some (Sp.ded (Sp.tck s now) now,F,[127,b.getD 0 0,18],()):=by
 rw[rq0 h hb0 hb1]
 unfold J_8_1 S_8_1
 rw[(tck_pv s now).1,gd_tt,(ln_pv b hb0).1,gd_tt,ln_v b hb0]
 rw[cond_eff hl,gd_inB (by decide) (by omega),gd_inB (by decide) (by omega),tck_v]
 by_cases c1:b.getD 0 0=20
 ·rw[cond_ett c1,beq_eq_false_iff_ne.2 (h2 (Or.inl c1)),j33c h3 h4 h5,B_8_21_0_0,j2n (by decide) hb0]
  rfl
 by_cases c2:b.getD 0 0=39
 ·rw[cond_eff c1,cond_ett c2,beq_eq_false_iff_ne.2 (h2 (Or.inr c2)),j33c h3 h4 h5,B_8_21_0_0,j2n (by decide) hb0]
  rfl
 ·rw[cond_eff c1,cond_eff c2,j33c h3 h4 h5,B_8_21_0_0,j2n (by decide) hb0]
  rfl
theorem s_en1:J_8_41_0_0 1 s F q1 q2 q3 q4 v=some (.e0 1 s F q1 q2 q3 q4 v):=by
 unfold J_8_41_0_0 S_8_41_0_0
 rw[(ent_pv _ _).1,gd_tt,(rp_pv _).1,gd_tt]
theorem s_se1:J_8_21_1_0 [16,1] s F q1 q2 q3 q4 v=some (.e1 1 s F q1 q2 q3 q4 v):=by
 unfold J_8_21_1_0 S_8_21_1_0
 rw[show inB (0:Int) (length ([16,1]:List Int))=true from rfl,gd_tt,show(getD ([16,1]:List Int) (0:Nat) (0:Int)==(16:Int))=true from rfl,cond_t,show inB (1:Int) (length ([16,1]:List Int))=true from rfl,gd_tt,show wrap .i64 (getD ([16,1]:List Int) (1:Nat) (0:Int))=1 from rfl,show((1:Int)==(2:Int))=false from rfl,cond_f,s_en1,B_8_41_0_0]
theorem rq_se1(h:Rq s F now):F_8 s F [16,1] now=some (Sp.ded (Sp.ent (Sp.tck s now) 1) now,F,[80,1],()):=by
 rw[rq0 h (by simp) (by simp)]
 unfold J_8_1 S_8_1
 rw[(tck_pv s now).1,gd_tt,(ln_pv [16,1] (by simp)).1,gd_tt,ln_v [16,1] (by simp),show Sp.ln [16,1]=2 from rfl,show((2:Int)==(0:Int))=false from rfl,cond_f,show inB (0:Int) (length ([16,1]:List Int))=true from rfl,gd_tt,show(getD ([16,1]:List Int) (0:Nat) (0:Int)==(20:Int))=false from rfl,cond_f,gd_tt,show(getD ([16,1]:List Int) (0:Nat) (0:Int)==(39:Int))=false from rfl,cond_f]
 rw[j330 (b:=[16,1]) (n:=2) rfl (by simp) rfl,B_8_21_0_0]
 rw[s_se1,B_8_21_1_0]
 rw[(rp_pv _).2,(ent_pv _ _).2,j21,tck_v]
 rfl
theorem s_se4(h1:v.1.1=1):J_8_21_1_0 [16,2] s F q1 q2 q3 q4 v=some (.e0 s F q1 q2 q3 q4 v):=by
 unfold J_8_21_1_0 S_8_21_1_0
 rw[show inB (0:Int) (length ([16,2]:List Int))=true from rfl,gd_tt,show(getD ([16,2]:List Int) (0:Nat) (0:Int)==(16:Int))=true from rfl,cond_t,show inB (1:Int) (length ([16,2]:List Int))=true from rfl,gd_tt,show wrap .i64 (getD ([16,2]:List Int) (1:Nat) (0:Int))=2 from rfl,show((2:Int)==(2:Int))=true from rfl,cond_t,cond_ett h1]
theorem rq_se4(h:Rq s F now)(h1:(Sp.tck s now).1=1):F_8 s F [16,2] now=some (Sp.ded (Sp.tck s now) now,F,[127,16,34],()):=by
 rw[rq0 h (by simp) (by simp)]
 unfold J_8_1 S_8_1
 rw[(tck_pv s now).1,gd_tt,(ln_pv [16,2] (by simp)).1,gd_tt,ln_v [16,2] (by simp),show Sp.ln [16,2]=2 from rfl,show((2:Int)==(0:Int))=false from rfl,cond_f,show inB (0:Int) (length ([16,2]:List Int))=true from rfl,gd_tt,show(getD ([16,2]:List Int) (0:Nat) (0:Int)==(20:Int))=false from rfl,cond_f,gd_tt,show(getD ([16,2]:List Int) (0:Nat) (0:Int)==(39:Int))=false from rfl,cond_f]
 rw[j330 (b:=[16,2]) (n:=2) rfl (by simp) rfl,B_8_21_0_0]
 rw[s_se4 (v:=((v_20 s now).1,F,now,())) (by rw[tck_v];exact h1),B_8_21_1_0]
 rw[j2n (by decide) (by simp),tck_v]
 rfl
theorem s_rs0:J_8_21_2_0 s F q1 q2 q3 q4 v=some (.e0 s F q1 q2 q3 q4 v):=by
 unfold J_8_21_2_0 S_8_21_2_0
 rw[(rp_pv _).1,gd_tt]
theorem s_rs:J_8_21_1_0 [17,1] s F q1 q2 q3 q4 v=some (.e2 s F q1 q2 q3 q4 (Sp.ent v.1 1,v.2)):=by
 unfold J_8_21_1_0 S_8_21_1_0
 rw[show inB (0:Int) (length ([17,1]:List Int))=true from rfl,gd_tt,show(getD ([17,1]:List Int) (0:Nat) (0:Int)==(16:Int))=false from rfl,cond_f,show(getD ([17,1]:List Int) (0:Nat) (0:Int)==(17:Int))=true from rfl,cond_t,(ent_pv _ _).1,gd_tt,(ent_pv _ _).2,s_rs0,B_8_21_2_0]
theorem rq_rs(h:Rq s F now):F_8 s F [17,1] now=some (Sp.ded (Sp.ent (Sp.tck s now) 1) now,F,[81,1],()):=by
 rw[rq0 h (by simp) (by simp)]
 unfold J_8_1 S_8_1
 rw[(tck_pv s now).1,gd_tt,(ln_pv [17,1] (by simp)).1,gd_tt,ln_v [17,1] (by simp),show Sp.ln [17,1]=2 from rfl,show((2:Int)==(0:Int))=false from rfl,cond_f,show inB (0:Int) (length ([17,1]:List Int))=true from rfl,gd_tt,show(getD ([17,1]:List Int) (0:Nat) (0:Int)==(20:Int))=false from rfl,cond_f,gd_tt,show(getD ([17,1]:List Int) (0:Nat) (0:Int)==(39:Int))=false from rfl,cond_f]
 rw[j330 (b:=[17,1]) (n:=2) rfl (by simp) rfl,B_8_21_0_0]
 rw[s_rs,B_8_21_1_0]
 rw[(rp_pv _).2,j21,tck_v]
 rfl
theorem s_tq0:J_8_21_4_0 [62,128] s F q1 q2 q3 q4 v=some (.e0 s F q1 q2 q3 q4 v):=by
 unfold J_8_21_4_0 S_8_21_4_0
 rw[show inB (1:Int) (length ([62,128]:List Int))=true from rfl,gd_tt,show(getD ([62,128]:List Int) (1:Nat) (0:Int)==(128:Int))=true from rfl,cond_t]
theorem s_tq:J_8_21_1_0 [62,128] s F q1 q2 q3 q4 v=some (.e18 s F q1 q2 q3 q4 v):=by
 unfold J_8_21_1_0 S_8_21_1_0
 rw[show inB (0:Int) (length ([62,128]:List Int))=true from rfl,gd_tt,show(getD ([62,128]:List Int) (0:Nat) (0:Int)==(16:Int))=false from rfl,cond_f,show(getD ([62,128]:List Int) (0:Nat) (0:Int)==(17:Int))=false from rfl,cond_f,show(getD ([62,128]:List Int) (0:Nat) (0:Int)==(20:Int))=false from rfl,cond_f,show(getD ([62,128]:List Int) (0:Nat) (0:Int)==(25:Int))=false from rfl,cond_f,show(getD ([62,128]:List Int) (0:Nat) (0:Int)==(34:Int))=false from rfl,cond_f,show(getD ([62,128]:List Int) (0:Nat) (0:Int)==(39:Int))=false from rfl,cond_f,s_tq0,B_8_21_4_0]
theorem rq_tq(h:Rq s F now):F_8 s F [62,128] now=some (Sp.ded (Sp.tck s now) now,F,[],()):=by
 rw[rq0 h (by simp) (by simp)]
 unfold J_8_1 S_8_1
 rw[(tck_pv s now).1,gd_tt,(ln_pv [62,128] (by simp)).1,gd_tt,ln_v [62,128] (by simp),show Sp.ln [62,128]=2 from rfl,show((2:Int)==(0:Int))=false from rfl,cond_f,show inB (0:Int) (length ([62,128]:List Int))=true from rfl,gd_tt,show(getD ([62,128]:List Int) (0:Nat) (0:Int)==(20:Int))=false from rfl,cond_f,gd_tt,show(getD ([62,128]:List Int) (0:Nat) (0:Int)==(39:Int))=false from rfl,cond_f]
 rw[j330 (b:=[62,128]) (n:=2) rfl (by simp) rfl,B_8_21_0_0]
 rw[s_tq,B_8_21_1_0]
 rw[j20,tck_v]
 rfl
theorem s_sz(hu:¬v.2.2.1<v.1.2.2.2.2.1)(hl:¬v.1.2.2.1=0):J_8_46_0_0 s F q1 q2 q3 q4 v=some (.e0 0 s F q1 q2 q3 q4 v):=by
 unfold J_8_46_0_0 S_8_46_0_0
 rw[cond_eff hl]
 unfold J_8_46_1_0 S_8_46_1_0
 rw[(by2 _).1,gd_tt,(by2 _).2]
 rfl
theorem s_qz(hu:¬v.2.2.1<v.1.2.2.2.2.1)(hl:¬v.1.2.2.1=0):J_8_21_1_0 [39,1] s F q1 q2 q3 q4 v=some (.e13 0 s F q1 q2 q3 q4 v):=by
 unfold J_8_21_1_0 S_8_21_1_0
 rw[show inB (0:Int) (length ([39,1]:List Int))=true from rfl,gd_tt,show(getD ([39,1]:List Int) (0:Nat) (0:Int)==(16:Int))=false from rfl,cond_f,show(getD ([39,1]:List Int) (0:Nat) (0:Int)==(17:Int))=false from rfl,cond_f,show(getD ([39,1]:List Int) (0:Nat) (0:Int)==(20:Int))=false from rfl,cond_f,show(getD ([39,1]:List Int) (0:Nat) (0:Int)==(25:Int))=false from rfl,cond_f,show(getD ([39,1]:List Int) (0:Nat) (0:Int)==(34:Int))=false from rfl,cond_f,show(getD ([39,1]:List Int) (0:Nat) (0:Int)==(39:Int))=true from rfl,cond_t,show inB (1:Int) (length ([39,1]:List Int))=true from rfl,gd_tt,show(getD ([39,1]:List Int) (1:Nat) (0:Int)==(1:Int))=true from rfl,cond_t,cond_dff hu,s_sz hu hl,B_8_46_0_0]
theorem rq_qz(h:Rq s F now)(h1:¬(Sp.tck s now).1=1)(hu:¬now<(Sp.tck s now).2.2.2.2.1)(hl:¬(Sp.tck s now).2.2.1=0):F_8 s F [39,1] now=some (Sp.ded (Sp.tck s now) now,F,[103,1,0,0],()):=by
 rw[rq0 h (by simp) (by simp)]
 unfold J_8_1 S_8_1
 rw[(tck_pv s now).1,gd_tt,(ln_pv [39,1] (by simp)).1,gd_tt,ln_v [39,1] (by simp),show Sp.ln [39,1]=2 from rfl,show((2:Int)==(0:Int))=false from rfl,cond_f,show inB (0:Int) (length ([39,1]:List Int))=true from rfl,gd_tt,show(getD ([39,1]:List Int) (0:Nat) (0:Int)==(20:Int))=false from rfl,cond_f,gd_tt,show(getD ([39,1]:List Int) (0:Nat) (0:Int)==(39:Int))=true from rfl,cond_t,tck_v,show((Sp.tck s now).1==(1:Int))=false from by simpa using h1]
 rw[j330 (b:=[39,1]) (n:=2) rfl (by simp) rfl,B_8_21_0_0]
 rw[s_qz (v:=((Sp.tck s now),F,now,())) hu hl,B_8_21_1_0]
 rw[(by2 _).2,j20]
 rfl
theorem s_cl:L_8_43_0_0 4611686018427387904 [x,y,z] 3 0 s F q1 q2 q3 q4 v=if x=255/\y=255/\z=255 then some (.e1 s F q1 q2 q3 q4 v)else some (.e0 s F q1 q2 q3 q4 v):=by
 show L_8_43_0_0 (4611686018427387900+1+1+1+1) [x,y,z] 3 0 s F q1 q2 q3 q4 v=_
 rw[L_8_43_0_0,S_8_43_0_0,cond_dtt (by decide),show inB 0 (length [x,y,z])=true from rfl,gd_tt,show getD [x,y,z] (toNat 0) 0=x from rfl]
 by_cases hx:x=255
 rotate_left
 ·rw[cond_ntt hx,if_neg (fun h=>hx h.1)]
 rw[cond_nff hx,show wrap .i64 (0+1)=1 from rfl,L_8_43_0_0,S_8_43_0_0,cond_dtt (by decide),show inB 1 (length [x,y,z])=true from rfl,gd_tt,show getD [x,y,z] (toNat 1) 0=y from rfl]
 by_cases hy:y=255
 rotate_left
 ·rw[cond_ntt hy,if_neg (fun h=>hy h.2.1)]
 rw[cond_nff hy,show wrap .i64 (1+1)=2 from rfl,L_8_43_0_0,S_8_43_0_0,cond_dtt (by decide),show inB 2 (length [x,y,z])=true from rfl,gd_tt,show getD [x,y,z] (toNat 2) 0=z from rfl]
 by_cases hz:z=255
 rotate_left
 ·rw[cond_ntt hz,if_neg (fun h=>hz h.2.2)]
 rw[cond_nff hz,show wrap .i64 (2+1)=3 from rfl,L_8_43_0_0,S_8_43_0_0,cond_dff (by decide),if_pos ⟨hx,hy,hz⟩]
theorem s_c0(hx:¬(x=255/\y=255/\z=255)):J_8_21_1_0 [20,x,y,z] s F q1 q2 q3 q4 v=some (.e3 s F q1 q2 q3 q4 v):=by
 unfold J_8_21_1_0 S_8_21_1_0
 rw[show inB (0:Int) (length ([20,x,y,z]:List Int))=true from rfl,gd_tt,show(getD ([20,x,y,z]:List Int) (0:Nat) (0:Int)==(16:Int))=false from rfl,cond_f,show(getD ([20,x,y,z]:List Int) (0:Nat) (0:Int)==(17:Int))=false from rfl,cond_f,show(getD ([20,x,y,z]:List Int) (0:Nat) (0:Int)==(20:Int))=true from rfl,cond_t,show sl3 (1:Int) ((length ([20,x,y,z]:List Int):Nat):Int) ((length ([20,x,y,z]:List Int):Nat):Int)=true from rfl,gd_tt]
 change B_8_43_0_0 (L_8_43_0_0 4611686018427387904 [x,y,z] 3 0 s F q1 q2 q3 q4 v) _ _=_
 rw[s_cl,if_neg hx,B_8_43_0_0]
theorem s_c1(hx:x=255/\y=255/\z=255)(hs:Sm F)(hv:Sp.vf F=true)(hF:v.2.1=F):J_8_21_1_0 [20,x,y,z] s F q1 q2 q3 q4 v=some (.e4 s F q1 q2 q3 q4 v):=by
 unfold J_8_21_1_0 S_8_21_1_0
 rw[show inB (0:Int) (length ([20,x,y,z]:List Int))=true from rfl,gd_tt,show(getD ([20,x,y,z]:List Int) (0:Nat) (0:Int)==(16:Int))=false from rfl,cond_f,show(getD ([20,x,y,z]:List Int) (0:Nat) (0:Int)==(17:Int))=false from rfl,cond_f,show(getD ([20,x,y,z]:List Int) (0:Nat) (0:Int)==(20:Int))=true from rfl,cond_t,show sl3 (1:Int) ((length ([20,x,y,z]:List Int):Nat):Int) ((length ([20,x,y,z]:List Int):Nat):Int)=true from rfl,gd_tt]
 change B_8_43_0_0 (L_8_43_0_0 4611686018427387904 [x,y,z] 3 0 s F q1 q2 q3 q4 v) _ _=_
 rw[s_cl,if_pos hx,B_8_43_0_0,hF,(clr_pv hs hv).1,gd_tt,(clr_pv hs hv).2,cond_ett rfl,(rp_pv _).1,gd_tt]
theorem rq_c0(h:Rq s F now)(h1:¬(Sp.tck s now).1=1)(hx:¬(x=255/\y=255/\z=255)):F_8 s F [20,x,y,z] now=some (Sp.ded (Sp.tck s now) now,F,[127,20,49],()):=by
 rw[rq0 h (by simp) (by simp)]
 unfold J_8_1 S_8_1
 rw[(tck_pv s now).1,gd_tt,(ln_pv [20,x,y,z] (by simp)).1,gd_tt,ln_v [20,x,y,z] (by simp),show Sp.ln [20,x,y,z]=4 from rfl,show((4:Int)==(0:Int))=false from rfl,cond_f,show inB (0:Int) (length ([20,x,y,z]:List Int))=true from rfl,gd_tt,show(getD ([20,x,y,z]:List Int) (0:Nat) (0:Int)==(20:Int))=true from rfl,cond_t,tck_v,show((Sp.tck s now).1==(1:Int))=false from by simpa using h1]
 rw[j330 (b:=[20,x,y,z]) (n:=4) rfl (by simp) rfl,B_8_21_0_0]
 rw[s_c0 hx,B_8_21_1_0]
 rw[j2n (by decide) (by simp)]
 rfl
theorem rq_c1(h:Rq s F now)(h1:¬(Sp.tck s now).1=1)(hx:x=255/\y=255/\z=255)(hs:Sm F)(hv:Sp.vf F=true):F_8 s F [20,x,y,z] now=some (Sp.ded (Sp.tck s now) now,Sp.clF F,[84],()):=by
 rw[rq0 h (by simp) (by simp)]
 unfold J_8_1 S_8_1
 rw[(tck_pv s now).1,gd_tt,(ln_pv [20,x,y,z] (by simp)).1,gd_tt,ln_v [20,x,y,z] (by simp),show Sp.ln [20,x,y,z]=4 from rfl,show((4:Int)==(0:Int))=false from rfl,cond_f,show inB (0:Int) (length ([20,x,y,z]:List Int))=true from rfl,gd_tt,show(getD ([20,x,y,z]:List Int) (0:Nat) (0:Int)==(20:Int))=true from rfl,cond_t,tck_v,show((Sp.tck s now).1==(1:Int))=false from by simpa using h1]
 rw[j330 (b:=[20,x,y,z]) (n:=4) rfl (by simp) rfl,B_8_21_0_0]
 rw[s_c1 (v:=(Sp.tck s now,F,now,())) hx hs hv rfl,B_8_21_1_0]
 rw[(rp_pv _).2,j21]
 dsimp only
 rw[(clr_pv hs hv).2]
 rfl
end
set_option maxRecDepth 100000
set_option maxHeartbeats 4000000
abbrev Bt(l:List Int):Prop:=∀x∈l,0<=x/\x<256
theorem bt0:Bt []:=fun x hx=>by cases hx
theorem bt1{x:Int}{l:List Int}(h:0<=x/\x<256)(hl:Bt l):Bt (x::l):=fun y hy=>by
 rcases List.mem_cons.1 hy with e|hy
 ·rw[e];exact h
 ·exact hl y hy
theorem u8r(n:Int):0<=wrap .u8 n/\wrap .u8 n<256:=by rw[u8_mod];omega
theorem btg{b:List Int}(hb:Bt b)(i:Nat):0<=b.getD i 0/\b.getD i 0<256:=by
 rw[List.getD_eq_getElem?_getD]
 cases e:b[i]? with
 |none=>decide
 |some x=>exact hb x (List.mem_of_getElem? e)
structure Oua(s:SvT)(F:FsT)(now:Int)(b:List Int)(x:SvT)(g:FsT)(a:List Int):Prop where
 sv:Sv x
 len:a.length<=1023
 hd:a=[]\/a.getD 0 0=wrap .u8 (b.getD 0 0+64)\/∃c,a=[127,b.getD 0 0,c]
 f:g=F\/g=Sp.clF F
 bt:Bt a
 em:a=[]->b.getD 0 0=62
section
variable{s:SvT}{F:FsT}{now:Int}{b:List Int}
theorem out_neg{x:SvT}{c:Int}(hb:Bt b)(hx:Sv x)(hc:0<=c/\c<256:=by decide):Oua s F now b x F [127,b.getD 0 0,c]:=⟨hx,by simp,Or.inr (Or.inr ⟨c,rfl⟩),Or.inl rfl,bt1 (by decide) (bt1 (btg hb 0) (bt1 hc bt0)),fun h=>by cases h⟩
theorem out_pos{x:SvT}{a:List Int}(hx:Sv x)(h1:a.length<=1023)(h2:a.getD 0 0=wrap .u8 (b.getD 0 0+64))(ht:Bt a)(h4:0<a.length):Oua s F now b x F a:=⟨hx,h1,Or.inr (Or.inl h2),Or.inl rfl,ht,fun h=>by rw[h]at h4;cases h4⟩
theorem rbs_bt(F:FsT)(k:Int)(n:Nat):Bt (Sp.rbs F k n):=by
 unfold Sp.rbs
 refine bt1 (by decide) (bt1 (by decide) (bt1 (by decide) ?_))
 intro y hy
 have hy:y∈(Sp.hs F k n).flatMap (Sp.rby F):=hy
 obtain⟨j,_,hy⟩:=List.mem_flatMap.1 hy
 exact(bt1 (u8r _) (bt1 (u8r _) (bt1 (u8r _) (bt1 (u8r _) bt0))):Bt (Sp.rby F j)) y hy
theorem sv_seed{s:SvT}{n:Int}(h:Sv s)(h1:¬s.1=1)(n0:0<=n)(n1:n<=65535):Sv (s.1,n,s.2.2):=⟨h.s0,h.s1,n0,n1,h.l0,h.l1,h.t0,h.t1,h.u0,h.u1,h.d0,h.d1,fun e=>absurd e h1⟩
theorem sv_mk{s:SvT}{l t:Int}(h:Sv s)(h1:¬s.1=1)(l0:0<=l)(l1:l<=1)(t0:0<=t)(t1:t<=2):Sv (s.1,0,l,t,s.2.2.2.2):=⟨h.s0,h.s1,by show(0:Int)<=0;decide,by show(0:Int)<=65535;decide,l0,l1,t0,t1,h.u0,h.u1,h.d0,h.d1,fun e=>absurd e h1⟩
theorem sv_mku{s:SvT}{l t u:Int}(h:Sv s)(h1:¬s.1=1)(l0:0<=l)(l1:l<=1)(t0:0<=t)(t1:t<=2)(u0:0<=u)(u1:u<=1099521627776):Sv (s.1,0,l,t,u,s.2.2.2.2.2):=⟨h.s0,h.s1,by show(0:Int)<=0;decide,by show(0:Int)<=65535;decide,l0,l1,t0,t1,u0,by show u<=_;omega,h.d0,h.d1,fun e=>absurd e h1⟩
theorem sdn_b2{t:Int}(h0:0<=t)(h1:t<=1099511627776):1<=Sp.sdn t/\Sp.sdn t<=65535:=by
 unfold Sp.sdn
 rw[wi64 (n:=40503*t) (by omega) (by omega)]
 have a:=Int.tmod_nonneg (a:=40503*t) 65535 (by omega)
 have b:=Int.tmod_lt_of_pos (40503*t) (b:=65535) (by decide)
 rw[wi64 (by omega) (by omega)]
 omega
theorem l2{b:List Int}(h:(b.length:Int)=2):∃x y,b=[x,y]:=by
 match b,h with
 |[x,y],_=>exact⟨x,y,rfl⟩
 |[],h=>simp at h
 |[_],h=>simp at h
 |_::_::_::_,h=>simp at h;omega
theorem l3{b:List Int}(h:(b.length:Int)=3):∃x y z,b=[x,y,z]:=by
 match b,h with
 |[x,y,z],_=>exact⟨x,y,z,rfl⟩
 |[],h=>simp at h
 |[_],h=>simp at h
 |[_,_],h=>simp at h
 |_::_::_::_::_,h=>simp at h;omega
theorem l4{b:List Int}(h:(b.length:Int)=4):∃x y z u,b=[x,y,z,u]:=by
 match b,h with
 |[x,y,z,u],_=>exact⟨x,y,z,u,rfl⟩
 |[],h=>simp at h
 |[_],h=>simp at h
 |[_,_],h=>simp at h
 |[_,_,_],h=>simp at h
 |_::_::_::_::_::_,h=>simp at h;omega
theorem fnc_16{y:Int}(h:Sp.fnc [16,y]=true):y=1\/y=2\/y=3:=by
 have:(bif decide (y>=1)then decide (y<=3)else false)=true:=h
 by_cases h1:y>=1
 ·rw[cond_dtt h1]at this
  have:=of_decide_eq_true this
  omega
 ·rw[cond_dff h1]at this;cases this
theorem fnc_17{y:Int}(h:Sp.fnc [17,y]=true):y=1:=by
 have:(y==1)=true:=h
 simpa using this
theorem fnc_25{y z:Int}(h:Sp.fnc [25,y,z]=true):y=2:=by
 have:(y==2)=true:=h
 simpa using this
theorem fnc_62{y:Int}(h:Sp.fnc [62,y]=true):y=0\/y=128:=by
 have:(bif y==0 then true else y==128)=true:=h
 by_cases h1:y=0
 ·exact Or.inl h1
 ·rw[cond_eff h1]at this;exact Or.inr (by simpa using this)
theorem fnc_39{b:List Int}(h0:b.getD 0 0=39)(h:Sp.fnc b=true):b.getD 1 0=1\/b.getD 1 0=2:=by
 unfold Sp.fnc at h
 rw[h0,show((39:Int)==16)=false from rfl,show((39:Int)==17)=false from rfl,show((39:Int)==25)=false from rfl,show((39:Int)==39)=true from rfl,cond_f,cond_f,cond_f,cond_t]at h
 by_cases h1:b.getD 1 0=1
 ·exact Or.inl h1
 ·rw[cond_eff h1]at h;exact Or.inr (by simpa using h)
theorem ln_39{b:List Int}(h0:b.getD 0 0=39)(hb:1<b.length):Sp.ln b=if b.getD 1 0=2 then 4 else 2:=by
 unfold Sp.ln
 rw[h0,show((39:Int)==16)=false from rfl,show((39:Int)==17)=false from rfl,show((39:Int)==62)=false from rfl,show((39:Int)==20)=false from rfl,show((39:Int)==25)=false from rfl,show((39:Int)==34)=false from rfl,show((39:Int)==39)=true from rfl,cond_f,cond_f,cond_f,cond_f,cond_f,cond_f,cond_t,cond_dtt (by omega)]
 by_cases h1:b.getD 1 0=2
 ·rw[cond_ett h1,if_pos h1]
 ·rw[cond_eff h1,if_neg h1]
theorem rq_all(h:Rq s F now)(hs:Sm F)(hv:Sp.vf F=true)(hn:now<=1099511627776)(hb0:1<=b.length)(hb1:b.length<=1023)(hb:∀y∈b,0<=y/\y<256):∃x g a,F_8 s F b now=some (x,g,a,())/\Oua s F now b x g a:=by
 have n0:=h.n0
 have hT:=tck_sv now h.s
 have hD:=ded_sv hT n0 (by omega)
 have hq:=vf_vq hv
 by_cases c0:Sp.ln b=0
 ·exact⟨_,_,_,rq_ns h hb0 (by omega) c0,out_neg hb hD⟩
 by_cases c1:(b.getD 0 0=20\/b.getD 0 0=39)/\(Sp.tck s now).1=1
 ·exact⟨_,_,_,rq_nis h hb0 (by omega) c0 c1.1 c1.2,out_neg hb hD⟩
 have c1':b.getD 0 0=20\/b.getD 0 0=39->¬(Sp.tck s now).1=1:=fun h1 h2=>c1 ⟨h1,h2⟩
 by_cases c2:(b.length:Int)=Sp.ln b
 rotate_left
 ·exact⟨_,_,_,rq_len h hb0 (by omega) c0 c1' c2,out_neg hb hD⟩
 have c4:1<b.length:=by
  rcases Nat.lt_or_ge 1 b.length with h4|h4
  ·exact h4
  ·exfalso
   obtain⟨z,rfl⟩:∃z,b=[z]:=by
    match b,hb0,h4 with
    |[z],_,_=>exact⟨z,rfl⟩
   unfold Sp.ln at c2
   simp only[List.length_singleton,List.getD_cons_zero]at c2
   revert c2
   cases z==16<;>cases z==17<;>cases z==62<;>cases z==20<;>cases z==25<;>cases z==34<;>cases z==39<;>simp
 by_cases c5:Sp.fnc b=true
 rotate_left
 ·exact⟨_,_,_,rq_fn h hb0 (by omega) c0 c1' c2 c4 (by simpa using c5),out_neg hb hD⟩
 have e8:∀n:Int,n=16\/n=17\/n=62\/n=25\/n=34->True:=fun _ _=>trivial
 by_cases s16:b.getD 0 0=16
 ·have hl:Sp.ln b=2:=by unfold Sp.ln;rw[cond_ett s16]
  obtain⟨x,y,rfl⟩:=l2 (c2.trans hl)
  have hx:x=16:=s16
  subst hx
  rcases fnc_16 c5 with rfl|rfl|rfl
  ·exact⟨_,_,_,rq_se1 h,out_pos (ded_sv (ent_sv hT (by decide) (by decide)) n0 (by omega)) (by simp) rfl (bt1 (by decide) (bt1 (by decide) bt0)) (by simp)⟩
  ·by_cases h1:(Sp.tck s now).1=1
   ·exact⟨_,_,_,rq_se4 h h1,out_neg hb hD⟩
   ·exact⟨_,_,_,rq_se2 h h1,out_pos (ded_sv (ent_sv hT (by decide) (by decide)) n0 (by omega)) (by simp) rfl (bt1 (by decide) (bt1 (by decide) bt0)) (by simp)⟩
  ·exact⟨_,_,_,rq_se3 h,out_pos (ded_sv (ent_sv hT (by decide) (by decide)) n0 (by omega)) (by simp) rfl (bt1 (by decide) (bt1 (by decide) bt0)) (by simp)⟩
 by_cases s17:b.getD 0 0=17
 ·have hl:Sp.ln b=2:=by unfold Sp.ln;rw[cond_eff s16,cond_ett s17]
  obtain⟨x,y,rfl⟩:=l2 (c2.trans hl)
  have hx:x=17:=s17
  subst hx
  have hy:=fnc_17 c5
  subst hy
  exact⟨_,_,_,rq_rs h,out_pos (ded_sv (ent_sv hT (by decide) (by decide)) n0 (by omega)) (by simp) rfl (bt1 (by decide) (bt1 (by decide) bt0)) (by simp)⟩
 by_cases s62:b.getD 0 0=62
 ·have hl:Sp.ln b=2:=by unfold Sp.ln;rw[cond_eff s16,cond_eff s17,cond_ett s62]
  obtain⟨x,y,rfl⟩:=l2 (c2.trans hl)
  have hx:x=62:=s62
  subst hx
  rcases fnc_62 c5 with rfl|rfl
  ·exact⟨_,_,_,rq_tp h,out_pos hD (by simp) rfl (bt1 (by decide) (bt1 (by decide) bt0)) (by simp)⟩
  ·exact⟨_,_,_,rq_tq h,⟨hD,by simp,Or.inl rfl,Or.inl rfl,bt0,fun _=>rfl⟩⟩
 by_cases s20:b.getD 0 0=20
 ·have h1:=c1' (Or.inl s20)
  have hl:Sp.ln b=4:=by unfold Sp.ln;rw[cond_eff s16,cond_eff s17,cond_eff s62,cond_ett s20]
  obtain⟨w,x,y,z,rfl⟩:=l4 (c2.trans hl)
  have hx:w=20:=s20
  subst hx
  by_cases hc:x=255/\y=255/\z=255
  ·exact⟨_,_,_,rq_c1 h h1 hc hs hv,⟨hD,by simp,Or.inr (Or.inl rfl),Or.inr rfl,bt1 (by decide) bt0,fun h=>by cases h⟩⟩
  ·exact⟨_,_,_,rq_c0 h h1 hc,out_neg hb hD⟩
 by_cases s25:b.getD 0 0=25
 ·have hl:Sp.ln b=3:=by unfold Sp.ln;rw[cond_eff s16,cond_eff s17,cond_eff s62,cond_eff s20,cond_ett s25]
  obtain⟨x,y,z,rfl⟩:=l3 (c2.trans hl)
  have hx:x=25:=s25
  subst hx
  have hy:=fnc_25 c5
  subst hy
  have hz:=hb z (by simp)
  have hl:=rbs_len F z F.2.1.length
  have hl2:=hs_len F z F.2.1.length
  have:=hq.n;have:=hq.l
  exact⟨_,_,_,rq_rp h hv (wi64 (by omega) (by omega)),out_pos hD (by omega) rfl (rbs_bt F _ _) (by omega)⟩
 by_cases s34:b.getD 0 0=34
 ·have hl:Sp.ln b=3:=by unfold Sp.ln;rw[cond_eff s16,cond_eff s17,cond_eff s62,cond_eff s20,cond_eff s25,cond_ett s34]
  obtain⟨x,y,z,rfl⟩:=l3 (c2.trans hl)
  have hx:x=34:=s34
  subst hx
  by_cases o0:Sp.orI .i64 (wrap .i64 (wrap .i64 (getD [34,y,z] 1 0)*256)) (wrap .i64 (getD [34,y,z] 2 0))=256
  ·exact⟨_,_,_,rq_id0 h o0,out_pos hD (by simp) rfl (bt1 (by decide) (bt1 (hb _ (by simp)) (bt1 (hb _ (by simp)) (bt1 (u8r _) bt0)))) (by simp)⟩
  by_cases o1:Sp.orI .i64 (wrap .i64 (wrap .i64 (getD [34,y,z] 1 0)*256)) (wrap .i64 (getD [34,y,z] 2 0))=257
  ·exact⟨_,_,_,rq_id1 h o1,out_pos hD (by simp) rfl (bt1 (by decide) (bt1 (hb _ (by simp)) (bt1 (hb _ (by simp)) (bt1 (u8r _) bt0)))) (by simp)⟩
  by_cases o2:Sp.orI .i64 (wrap .i64 (wrap .i64 (getD [34,y,z] 1 0)*256)) (wrap .i64 (getD [34,y,z] 2 0))=258
  ·exact⟨_,_,_,rq_id2 h o2,out_pos hD (by simp) rfl (bt1 (by decide) (bt1 (hb _ (by simp)) (bt1 (hb _ (by simp)) (bt1 (u8r _) (bt1 (u8r _) (bt1 (u8r _) (bt1 (u8r _) bt0))))))) (by simp)⟩
  by_cases o3:Sp.orI .i64 (wrap .i64 (wrap .i64 (getD [34,y,z] 1 0)*256)) (wrap .i64 (getD [34,y,z] 2 0))=259
  ·exact⟨_,_,_,rq_id3 h o3,out_pos hD (by simp) rfl (bt1 (by decide) (bt1 (hb _ (by simp)) (bt1 (hb _ (by simp)) (bt1 (u8r _) bt0)))) (by simp)⟩
  exact⟨_,_,_,rq_idx h o0 o1 o2 o3,out_neg hb hD⟩
 by_cases s39:b.getD 0 0=39
 rotate_left
 ·exfalso
  apply c0
  unfold Sp.ln
  rw[cond_eff s16,cond_eff s17,cond_eff s62,cond_eff s20,cond_eff s25,cond_eff s34,cond_eff s39]
 have h1:=c1' (Or.inr s39)
 obtain⟨e0,e1⟩:=sdn_b2 n0 hn
 rcases fnc_39 s39 c5 with hk|hk
 ·have hl:Sp.ln b=2:=by rw[ln_39 s39 c4,if_neg (by omega)]
  obtain⟨x,y,rfl⟩:=l2 (c2.trans hl)
  have hx:x=39:=s39
  subst hx
  have hy:y=1:=hk
  subst hy
  by_cases hu:now<(Sp.tck s now).2.2.2.2.1
  ·exact⟨_,_,_,rq_q0 h h1 hu,out_neg hb hD⟩
  by_cases hl0:(Sp.tck s now).2.2.1=0
  ·exact⟨_,_,_,rq_q1 h h1 hu hl0,out_pos (ded_sv (sv_seed hT h1 (by omega) e1) n0 (by omega)) (by simp) rfl (bt1 (by decide) (bt1 (by decide) (bt1 (u8r _) (bt1 (u8r _) bt0)))) (by simp)⟩
  ·exact⟨_,_,_,rq_qz h h1 hu hl0,out_pos hD (by simp) rfl (bt1 (by decide) (bt1 (by decide) (bt1 (by decide) (bt1 (by decide) bt0)))) (by simp)⟩
 ·have hl:Sp.ln b=4:=by rw[ln_39 s39 c4,if_pos hk]
  obtain⟨w,x,y,z,rfl⟩:=l4 (c2.trans hl)
  have hx:w=39:=s39
  subst hx
  have hy:x=2:=hk
  subst hy
  by_cases hz:(Sp.tck s now).2.1=0
  ·exact⟨_,_,_,rq_y0 h h1 hz,out_neg hb hD⟩
  have hkp:=(key_ok hT.e0 hT.e1).1
  have t0:=hT.t0;have t1:=hT.t1
  by_cases hK:Sp.kyn y z=Sp.key (Sp.tck s now).2.1 1
  ·exact⟨_,_,_,rq_yr h h1 hz hkp hK,out_pos (ded_sv (sv_mk hT h1 (by decide) (by decide) (by decide) (by decide)) n0 (by omega)) (by simp) rfl (bt1 (by decide) (bt1 (by decide) bt0)) (by simp)⟩
  by_cases h3:(Sp.sdW (Sp.tck s now)).2.2.2.1<3
  ·have e3:(Sp.sdW (Sp.tck s now)).2.2.2.1=(Sp.tck s now).2.2.2.1+1:=by unfold Sp.sdW;dsimp only;rw[wi64 (by omega) (by omega)]
   refine⟨_,_,_,rq_yw h h1 hz hkp hK h3,out_neg hb (ded_sv ?_ n0 (by omega))⟩
   unfold Sp.sdW at h3 e3⊢
   dsimp only at h3 e3
   exact sv_mk hT h1 hT.l0 hT.l1 (by omega) (by omega)
  ·refine⟨_,_,_,rq_yx h h1 hz hkp hK h3,out_neg hb (ded_sv ?_ n0 (by omega))⟩
   exact sv_mku hT h1 hT.l0 hT.l1 (by decide) (by decide) (by rw[wi64 (by omega) (by omega)];omega) (by rw[wi64 (by omega) (by omega)];omega)
end
theorem sv_beq(x:SvT):Ty.beq (.pair (.int .i64) (.pair (.int .i64) (.pair (.int .i64) (.pair (.int .i64) (.pair (.int .i64) (.pair (.int .i64) .unit)))))) x x=true:=by
 show((x.1==x.1)&&((x.2.1==x.2.1)&&((x.2.2.1==x.2.2.1)&&((x.2.2.2.1==x.2.2.2.1)&&((x.2.2.2.2.1==x.2.2.2.2.1)&&((x.2.2.2.2.2.1==x.2.2.2.2.2.1)&&true))))))=true
 rw[beq_self_eq_true,beq_self_eq_true,beq_self_eq_true,beq_self_eq_true,beq_self_eq_true,beq_self_eq_true]
 rfl
theorem lbeq(l:List Int):(l==l)=true:=beq_self_eq_true l
theorem wf_by{l:List Int}(w:wfD (.slice (.int .u8)) l):By l:=fun x hx=>by
 have h:(Lit.int .u8 x).wf=true:=w x hx
 simp[Lit.wf,IntKind.min,IntKind.max,IntKind.signed,IntKind.bits]at h
 omega
theorem e30{R:Type}(k0 k1:Option R)(k2)(k3):B_3_0 (some .e0) k0 k1 k2 k3=k0:=rfl
theorem e32{R:Type}(y:List Int)(k0 k1:Option R)(k2)(k3):B_3_0 (some (.e2 y)) k0 k1 k2 k3=k2 y:=rfl
theorem e33{R:Type}(y0 y1 y2 y3 y4)(k0 k1:Option R)(k2)(k3):B_3_0 (some (.e3 y0 y1 y2 y3 y4)) k0 k1 k2 k3=k3 y0 y1 y2 y3 y4:=rfl
theorem req_ok{s:SvT}{F:FsT}{req:List Int}{now b:Int}(hl:F.2.1.length<=70)(hr:req.length<=1023)(hb:By req)(n0:0<=now)(n1:now<=1099511627776)(b0:0<=b)(b1:b<256) :
 B_3_0 (J_3_0 req now b s F) (some true) (some false) (fun y=>some (y.getD 0 0==62)) (fun y z w u v=>some ((v_4 (v_8 u v y z).2.2.1 (wrap .u8 (255-w)) z).1.getD 1 0==y.getD 0 0))=some true:=by
 have hs:Sm F:=⟨by omega⟩
 unfold J_3_0 S_3_0
 by_cases h0:(req.length:Int)=0
 ·rw[cond_ett h0,e30]
 rw[cond_eff h0,(sv_pv s).1,(sv_pv s).2,gd_tt]
 dsimp only
 cases hsv:Sp.sv s
 ·rfl
 rw[Bool.not_true,cond_f,(vf_pv hs).1,(vf_pv hs).2,gd_tt]
 dsimp only
 cases hvf:Sp.vf F
 ·rfl
 have hq:Rq s F now:=⟨sv_iff.1 hsv,(vf_pv hs).1,by rw[(vf_pv hs).2,hvf],n0,n1⟩
 have ov:=ovf_pv (d:=req) (by omega) hr hb b0 b1 n0 n1
 obtain⟨x,g,a,e,O⟩:=rq_all hq hs hvf n1 (by omega) hr hb
 have pq:=pv_8 _ _ _ _ e
 have bp:=beq_pv req req
 have ap:=beq_pv a a
 have sx:=sv_pv x
 have hx:=sv_iff.2 O.sv
 have hg:Sm g/\Sp.vf g=true:=by
  rcases O.f with h|h
  ·rw[h];exact⟨hs,hvf⟩
  ·rw[h];exact⟨clF_sm hs,clF_vf hvf⟩
 have vg:=vf_pv hg.1
 rw[Bool.not_true,cond_f,ov.1,ov.2,gd_tt]
 dsimp only
 rw[Bool.not_true,cond_f,bp.1,bp.2,gd_tt,lbeq]
 dsimp only
 rw[Bool.not_true,cond_f,pq.1,pq.2,gd_tt,gd_tt]
 dsimp only
 rw[sv_beq,Bool.not_true,cond_f,ap.1,ap.2,gd_tt,lbeq]
 dsimp only
 rw[Bool.not_true,cond_f,cond_nff rfl,cond_nff rfl,sx.1,sx.2,gd_tt,hx]
 dsimp only
 rw[Bool.not_true,cond_f,vg.1,vg.2,gd_tt,hg.2]
 dsimp only
 rw[Bool.not_true,cond_f]
 by_cases ha:(a.length:Int)=0
 ·have an:a=[]:=List.eq_nil_of_length_eq_zero (by omega)
  rw[cond_ett ha,gd_inB (by decide) (by omega),e32,O.em an]
  rfl
 have oa:=ovf_pv (d:=a) (by omega) O.len O.bt (b:=wrap .u8 (255-b)) (u8r _).1 (u8r _).2 n0 n1
 rw[cond_eff ha,oa.1,oa.2,gd_tt]
 dsimp only
 rw[Bool.not_true,cond_f,ap.1,ap.2,gd_tt,lbeq]
 dsimp only
 rw[Bool.not_true,cond_f,gd_inB (by decide) (by omega),gd_inB (by decide) (by omega)]
 rcases O.hd with h|h|⟨c,h⟩
 ·exact absurd (by rw[h];rfl) ha
 ·rw[cond_ett h,e30]
 ·by_cases h6:a.getD 0 0=wrap .u8 (req.getD 0 0+64)
  ·rw[cond_ett h6,e30]
  ·rw[cond_eff h6,cond_ett (show(a.length:Int)=3 by rw[h];rfl),gd_inB (by decide) (by omega),cond_ett (show a.getD 0 0=127 by rw[h];rfl),gd_inB (by decide) (show(1:Int)<(a.length:Int) by rw[h];show(1:Int)<((3:Nat):Int);omega),gd_inB (by decide) (by omega),e33,pq.2]
   dsimp only
   rw[oa.2]
   show some (a.getD 1 0==req.getD 0 0)=some true
   rw[show a.getD 1 0=req.getD 0 0 by rw[h];rfl,beq_self_eq_true]
theorem plain_3(d:List Int)(s:SvT)(F:FsT)(req:List Int)(now b:Int)(wd:wfD (.slice (.int .u8)) d)(_:wfD (.pair (.int .i64) (.pair (.int .i64) (.pair (.int .i64) (.pair (.int .i64) (.pair (.int .i64) (.pair (.int .i64) .unit)))))) s)(_:wfD (.pair (.slice (.pair (.int .i64) (.pair (.int .i64) (.pair (.int .i64) (.pair (.int .i64) (.pair (.int .i64) (.pair (.int .i64) (.pair .bool (.pair (.int .i64) .unit))))))))) (.pair (.slice (.pair (.int .i64) (.pair (.int .i64) (.pair (.int .i64) (.pair (.int .i64) (.pair (.int .i64) (.pair (.slice (.int .i64)) (.pair (.int .i64) .unit)))))))) (.pair (.int .i64) (.pair .bool .unit)))) F)(wr:wfD (.slice (.int .u8)) req)(_:wfD (.int .i64) now)(wb:wfD (.int .u8) b):F_3 d s F req now b=some true:=by
 have hb:0<=b/\b<256:=by
  have wb:(Lit.int .u8 b).wf=true:=wb
  simp[Lit.wf,IntKind.min,IntKind.max,IntKind.signed,IntKind.bits]at wb;omega
 have o0:=ovf_pv (d:=[48,49,50,51,52,53,54,55,56,57]) (by decide) (by decide) (fun x hx=>by
  simp only[List.mem_cons,List.not_mem_nil,or_false]at hx
  omega) (b:=1) (by decide) (by decide) (now:=0) (by decide) (by decide)
 unfold F_3
 rw[o0.1,o0.2,gd_tt]
 dsimp only
 rw[Bool.not_true,cond_f,lbeq,Bool.not_true,cond_f]
 by_cases c0:now<0
 ·rw[cond_dtt c0]
 rw[cond_dff c0]
 by_cases c1:now>1099511627776
 ·rw[cond_dtt c1]
 rw[cond_dff c1]
 by_cases c2:(d.length:Int)>1023
 ·rw[cond_dtt c2]
 rw[cond_dff c2]
 by_cases c3:(req.length:Int)>1023
 ·rw[cond_dtt c3]
 rw[cond_dff c3]
 by_cases c4:(F.2.1.length:Int)>70
 ·rw[cond_dtt c4]
 rw[cond_dff c4]
 by_cases c5:(F.1.length:Int)>70
 ·rw[cond_dtt c5]
 rw[cond_dff c5]
 have rq:=req_ok (s:=s) (F:=F) (req:=req) (now:=now) (b:=b) (by omega) (by omega) (wf_by wr) (by omega) (by omega) hb.1 hb.2
 by_cases c6:(d.length:Int)>0
 ·have od:=ovf_pv (d:=d) (by omega) (by omega) (wf_by wd) hb.1 hb.2 (now:=now) (by omega) (by omega)
  have bp:=beq_pv d d
  rw[cond_dtt c6,od.1,od.2,gd_tt]
  dsimp only
  rw[Bool.not_true,cond_f,bp.1,bp.2,gd_tt,lbeq]
  dsimp only
  rw[Bool.not_true,cond_f]
  exact rq
 ·rw[cond_dff c6]
  exact rq
end Go.Ev
