/- Helpers: functions of the program as Lean functions, and what they compute. No condition. -/
import Derived.Test.YtnmiibgmjfiknaaGreatE6P4
import Derived.Test.YtnmiibgmjfiknaaGreatG6P2
import Derived.Test.YtnmiibgmjfiknaaGreatG6P1
set_option maxRecDepth 10000
set_option linter.unusedVariables false
set_option linter.unusedSimpArgs false
open Go.IntKind (wrap i64 i32 i16 i8 u64 u32 u16 u8)
open List (getD length take drop replicate)
open Int (toNat)
open Go.Ev.Sp
set_option linter.unusedSimpArgs false
set_option linter.unusedVariables false
namespace Go.Ev
open Go
set_option maxRecDepth 100000
set_option maxHeartbeats 4000000
abbrev FlT:=List Int×List Int×Int×Unit
abbrev PwT:=Int×Int×Unit
abbrev OpT:=Bool×Int×Int×Unit
abbrev RsT:=FlT×PwT×Int×Unit
namespace Sp
noncomputable def wb(f:FlT)(j:Nat):Bool:=decide (f.2.1.getD j 0<0)||decide (f.2.1.getD j 0>f.2.2.1)
noncomputable def fv(f:FlT):Bool:=decide (1<=f.2.1.length)&&(decide (f.2.1.length<=64)&&(decide (f.1.length=f.2.1.length*64)&&(decide (1<=f.2.2.1)&&(decide (f.2.2.1<=1000000)&&(fnd (wb f) f.2.1.length 0).isNone))))
noncomputable def pw(f:FlT)(k:Nat)(w bits:Int):FlT:=(f.1.set k (andnI .u32 (f.1.getD k 0) (andnI .u32 bits w)),f.2.1,f.2.2.1,())
noncomputable def prg(f:FlT)(k:Nat)(w:Int)(p:PwT):RsT:=if p.1=0 then(f,p,18,())else if p.1=1 then(pw f k w p.2.1,(0,p.2),18,())else(pw f k w 4294967295,(p.1-1,p.2),0,())
noncomputable def orW(ws:List Int)(o:Nat)(bits:Int)(n:Nat):List Int:=ws.mapIdx (fun i x=>if o<=i/\i<o+n then orI .u32 x bits else x)
noncomputable def ew(f:FlT)(s:Nat)(bits:Int):FlT:=(orW f.1 (s*64) bits 64,f.2.1.set s (f.2.1.getD s 0+1),f.2.2.1,())
noncomputable def ers(f:FlT)(s:Nat)(p:PwT):RsT:=if f.2.1.getD s 0=f.2.2.1 then(([],[],0,()),(0,0,()),19,())else if p.1=0 then(f,p,18,())else if p.1=1 then(ew f s p.2.1,(0,p.2),18,())else(ew f s 4294967295,(p.1-1,p.2),0,())
end Sp
theorem fv_iff{f:FlT}:Sp.fv f=true↔1<=f.2.1.length/\f.2.1.length<=64/\f.1.length=f.2.1.length*64/\1<=f.2.2.1/\f.2.2.1<=1000000/\∀j,j<f.2.1.length->0<=f.2.1.getD j 0/\f.2.1.getD j 0<=f.2.2.1:=by
 simp only[Sp.fv,Bool.and_eq_true,decide_eq_true_eq,Option.isNone_iff_eq_none,fnd_none,Sp.wb,Bool.or_eq_false_iff,decide_eq_false_iff_not]
 constructor
 ·rintro⟨a,b,c,d,e,g⟩
  refine⟨a,b,c,d,e,fun j hj=> ?_⟩
  have:=g j (by omega) (by omega)
  omega
 ·rintro⟨a,b,c,d,e,g⟩
  refine⟨a,b,c,d,e,fun j _ hj=> ?_⟩
  have:=g j (by omega)
  omega
theorem fv_ok(f:FlT):F_78 f=some (Sp.fv f,()):=by
 unfold F_78 Sp.fv
 by_cases h1:(f.2.1.length:Int)<1
 ·rw[cond_dtt h1,decide_eq_false (by omega)];rfl
 rw[cond_dff h1,decide_eq_true (p:=1<=f.2.1.length) (by omega),Bool.true_and]
 by_cases h2:(f.2.1.length:Int)>64
 ·rw[cond_dtt h2,decide_eq_false (by omega)];rfl
 rw[cond_dff h2,decide_eq_true (p:=f.2.1.length<=64) (by omega),Bool.true_and,wi64 (by omega) (by omega)]
 by_cases h3:(f.1.length:Int)=(f.2.1.length:Int)*64
 rotate_left
 ·rw[cond_ntt h3,decide_eq_false (p:=f.1.length=_) (by omega)];rfl
 rw[cond_nff h3,decide_eq_true (p:=f.1.length=_) (by omega),Bool.true_and]
 by_cases h4:f.2.2.1<1
 ·rw[cond_dtt h4,decide_eq_false (by omega)];rfl
 rw[cond_dff h4,decide_eq_true (p:=1<=f.2.2.1) (by omega),Bool.true_and]
 by_cases h5:f.2.2.1>1000000
 ·rw[cond_dtt h5,decide_eq_false (by omega)];rfl
 rw[cond_dff h5,decide_eq_true (p:=f.2.2.1<=1000000) (by omega),Bool.true_and]
 have hf:=find0 (fun m i=>L_78_114_0_0 m f.2.1 f.2.1.length i f) (n:=f.2.1.length) (Sp.wb f) (ex:=fun j=>some (.e0 (j:Int) f)) (e1:=some (.e1 f)) (by omega) (fun m j hj=>by
  show L_78_114_0_0 (m+1) f.2.1 f.2.1.length j f=bif Sp.wb f j then some (.e0 (j:Int) f)else L_78_114_0_0 m f.2.1 f.2.1.length ((j+1:Nat):Int) f
  rw[L_78_114_0_0,S_78_114_0_0,cond_dtt (by omega),gd_inB (by omega) (by omega),Int.toNat_natCast,wi64 (by omega) (by omega)]
  unfold Sp.wb
  push_cast
  grind) (fun m=>by
  show L_78_114_0_0 (m+1) f.2.1 f.2.1.length f.2.1.length f=_
  rw[L_78_114_0_0,S_78_114_0_0,cond_dff (by omega)])
 rw[hf]
 cases fnd (Sp.wb f) f.2.1.length 0 with
 |none=>rfl
 |some k=>
  simp only[B_78_114_0_0,Option.isNone]
  rw[decide_eq_true (by omega)]
  rfl
theorem fv_pv(f:FlT):p_78 f=true/\v_78 f=(Sp.fv f,()):=pv_78 f (fv_ok f)
theorem chk_pv{f:FlT}{p:PwT}{a n:Int}(h:Sp.fv f=true)(h0:0<=p.1)(h1:p.1<=1099511627776)(h2:0<=a)(h3:a<n):p_146 f p a n=true/\v_146 f p a n=(0,()):=by
 refine pv_146 f p a n ?_
 unfold F_146
 rw[(fv_pv f).1,(fv_pv f).2,gd_tt,h,Bool.not_true,cond_f,cond_dff (by omega),cond_dff (by omega),cond_dff (by omega),cond_dff (by omega)]
theorem prg_ok{f:FlT}{p:PwT}{k:Nat}{w:Int}(h:Sp.fv f=true)(h0:0<=p.1)(h1:p.1<=1099511627776)(h2:k<f.1.length):F_128 f k w p=some (Sp.prg f k w p):=by
 have hv:=fv_iff.1 h
 unfold F_128 Sp.prg Sp.pw
 rw[(chk_pv h h0 h1 (by omega) (by omega)).1,(chk_pv h h0 h1 (by omega) (by omega)).2,gd_tt,cond_nff rfl,gd_room (by omega) (by omega),gd_room (by omega) (by omega)]
 simp only[gd_inB (show(0:Int)<=(k:Int) by omega) (show(k:Int)<((f.1.length:Nat):Int) by omega),Int.toNat_natCast,Bool.and_true,gd_dec h2]
 by_cases e0:p.1=0
 ·rw[cond_ett e0,if_pos e0]
 rw[cond_eff e0,if_neg e0]
 by_cases e1:p.1=1
 ·rw[cond_ett e1,if_pos e1]
 rw[cond_eff e1,if_neg e1,wi64 (by omega) (by omega)]
theorem prg_pv{f:FlT}{p:PwT}{k:Nat}{w:Int}(h:Sp.fv f=true)(h0:0<=p.1)(h1:p.1<=1099511627776)(h2:k<f.1.length):p_128 f k w p=true/\v_128 f k w p=Sp.prg f k w p:=pv_128 f k w p (prg_ok h h0 h1 h2)
theorem getD_set{α:Type}(l:List α)(i j:Nat)(x d:α)(h:i<l.length):(l.set i x).getD j d=if i=j then x else l.getD j d:=by
 simp only[List.getD_eq_getElem?_getD,List.getElem?_set]
 split
 ·simp[h]
 ·rfl
set_option maxRecDepth 100000
set_option maxHeartbeats 4000000
abbrev MeT:=FlT×Int×Int×Unit
abbrev EnT:=Int×List Int×Unit
abbrev W32f(f:FlT):Prop:=∀x∈f.1,0<=x/\x<4294967296
theorem W32f.at{f:FlT}(h:W32f f)(k:Nat):0<=f.1.getD k 0/\f.1.getD k 0<4294967296:=by
 rw[List.getD_eq_getElem?_getD]
 cases e:f.1[k]? with
 |none=>decide
 |some x=>exact h x (List.mem_of_getElem? e)
namespace Sp
noncomputable def prw(n:Int):Int:=n*65536+(65535-n)
noncomputable def nmb(w:Int):Int×Bool:=(w/65536,prw (w/65536)==w)
noncomputable def plc(m:MeT):Bool:=decide (2<=m.2.2.1)&&(decide (m.2.2.1<=16)&&((m.2.2.1%2==0)&&(decide (0<=m.2.1)&&decide (m.2.1<=(m.1.2.1.length:Int)-m.2.2.1))))
noncomputable def hsz(m:MeT):Nat:=32*m.2.2.1.toNat
noncomputable def hbs(m:MeT)(k:Nat):Nat:=64*m.2.1.toNat+k*hsz m
noncomputable def hwr(m:MeT)(k:Nat):List Int:=take (hsz m) (drop (hbs m k) m.1.1)
noncomputable def gnr(m:MeT)(k:Nat):Int:=bif(nmb ((hwr m k).getD 0 0)).2 then(nmb ((hwr m k).getD 0 0)).1 else 0
noncomputable def acv(m:MeT):Nat:=bif decide (gnr m 1>gnr m 0)then 1 else 0
noncomputable def acb(m:MeT):Bool:=decide (gnr m 1>gnr m 0)||decide (gnr m 0>0)
noncomputable def mvl(m:MeT):Bool:=fv m.1&&(plc m&&acb m)
noncomputable def stp(s w:Int):Int:=(31*s+w/65536+7*(w%65536))%65536
noncomputable def smw(l:List Int):Int:=l.foldl stp 0
end Sp
theorem xor_n{n:Nat}(h:n<65536):Sp.andI .i64 (Sp.xorI .i64 (-1) (n:Int)) 65535=65535-(n:Int):=by
 have e0:(BitVec.ofInt 64 (-1) ^^^ BitVec.ofInt 64 (n:Int)).toNat=18446744073709551615-n:=by
  have:BitVec.ofInt 64 (-1) ^^^ BitVec.ofInt 64 (n:Int)= ~~~ BitVec.ofInt 64 (n:Int):=by
   rw[show BitVec.ofInt 64 (-1)=BitVec.allOnes 64 from rfl,BitVec.allOnes_xor]
  rw[this,BitVec.toNat_not]
  have:(BitVec.ofInt 64 (n:Int)).toNat=n:=by
   rw[BitVec.ofInt_natCast,BitVec.toNat_ofNat];omega
  omega
 have e1:Sp.xorI .i64 (-1) (n:Int)= -1-(n:Int):=by
  unfold Sp.xorI
  show wrap .i64 ((BitVec.ofInt 64 (-1) ^^^ BitVec.ofInt 64 (n:Int)).toNat:Int)=_
  rw[e0,IntKind.wrap_i64]
  omega
 rw[e1]
 unfold Sp.andI
 show wrap .i64 ((BitVec.ofInt 64 (-1-(n:Int))&&&BitVec.ofInt 64 65535).toNat:Int)=_
 have e2:(BitVec.ofInt 64 (-1-(n:Int))).toNat=18446744073709551615-n:=by
  rw[BitVec.toNat_ofInt];omega
 rw[BitVec.toNat_and,e2,show(BitVec.ofInt 64 65535).toNat=2^16-1 from rfl,Nat.and_two_pow_sub_one_eq_mod,wi64 (by omega) (by omega)]
 omega
theorem pair_pv{n:Int}(h0:0<=n)(h1:n<65536):p_124 n=true/\v_124 n=(Sp.prw n,()):=by
 refine pv_124 n ?_
 obtain⟨k,rfl⟩:=Int.eq_ofNat_of_zero_le h0
 unfold F_124 Sp.prw
 have h1':k<65536:=by omega
 rw[xor_n h1',u32_wrap_nat (by omega),show(k:Int)*65536=((k*65536:Nat):Int)from(Int.natCast_mul k 65536).symm,u32_wrap_nat (by omega),show 65535-(k:Int)=((65535-k:Nat):Int) by omega,u32_wrap_nat (by omega),orU_nat (by omega) (by omega),show k*65536=k*2^16 from rfl,or_add 16 (by omega)]
 congr 2
theorem prw_b{n:Int}(h0:0<=n)(h1:n<65536):0<=Sp.prw n/\Sp.prw n<4294967296/\Sp.nmb (Sp.prw n)=(n,true):=by
 have e:Sp.prw n/65536=n:=by unfold Sp.prw;omega
 refine⟨by unfold Sp.prw;omega,by unfold Sp.prw;omega,?_⟩
 unfold Sp.nmb
 rw[e,beq_self_eq_true]
theorem num_pv{w:Int}(h0:0<=w)(h1:w<4294967296):p_141 w=true/\v_141 w=((Sp.nmb w).1,(Sp.nmb w).2,()):=by
 refine pv_141 w ?_
 unfold F_141
 have e:Int.fdiv w 65536=w/65536:=Int.fdiv_eq_ediv_of_nonneg _ (by decide)
 rw[e,wi64 (by omega) (by omega),(pair_pv (n:=w/65536) (by omega) (by omega)).1,(pair_pv (n:=w/65536) (by omega) (by omega)).2,gd_tt]
 rfl
theorem nmb_b{w:Int}(h0:0<=w)(h1:w<4294967296):0<=(Sp.nmb w).1/\(Sp.nmb w).1<65536:=by
 unfold Sp.nmb
 dsimp only
 omega
theorem plc_pv(m:MeT)(h:m.1.2.1.length<=1000000):p_79 m=true/\v_79 m=(Sp.plc m,()):=by
 refine pv_79 m ?_
 unfold F_79 Sp.plc
 by_cases h1:2<=m.2.2.1
 rotate_left
 ·rw[cond_dff (by omega),decide_eq_false h1];rfl
 rw[cond_dtt (by omega),decide_eq_true h1,Bool.true_and]
 by_cases h2:m.2.2.1<=16
 rotate_left
 ·rw[cond_dff h2,decide_eq_false h2];rfl
 rw[cond_dtt h2,decide_eq_true h2,Bool.true_and,Int.tmod_eq_emod_of_nonneg (by omega),wi64 (by omega) (by omega)]
 by_cases h3:m.2.2.1%2=0
 rotate_left
 ·rw[cond_eff h3,beq_eq_false_iff_ne.2 h3];rfl
 rw[cond_ett h3,beq_iff_eq.2 h3,Bool.true_and]
 by_cases h4:0<=m.2.1
 ·rw[cond_dtt (by omega),decide_eq_true h4,Bool.true_and]
 ·rw[cond_dff (by omega),decide_eq_false h4];rfl
theorem plc_iff{m:MeT}:Sp.plc m=true↔2<=m.2.2.1/\m.2.2.1<=16/\m.2.2.1%2=0/\0<=m.2.1/\m.2.1<=(m.1.2.1.length:Int)-m.2.2.1:=by
 unfold Sp.plc
 simp only[Bool.and_eq_true,decide_eq_true_eq,beq_iff_eq]
theorem pl_b{m:MeT}(hv:Sp.fv m.1=true)(hp:Sp.plc m=true):64<=Sp.hsz m/\Sp.hsz m<=512/\Sp.hbs m 1+Sp.hsz m<=m.1.1.length/\Sp.hbs m 0+Sp.hsz m<=m.1.1.length/\m.1.1.length<=4096/\(Sp.hsz m:Int)=32*m.2.2.1/\(Sp.hbs m 0:Int)=64*m.2.1/\(Sp.hbs m 1:Int)=64*m.2.1+32*m.2.2.1:=by
 obtain⟨p1,p2,p3,p4,p5⟩:=plc_iff.1 hp
 have v:=fv_iff.1 hv
 unfold Sp.hbs Sp.hsz
 omega
theorem pl_k{m:MeT}(hv:Sp.fv m.1=true)(hp:Sp.plc m=true){k:Nat}(hk:k<2):Sp.hbs m k+Sp.hsz m<=m.1.1.length/\(Sp.hbs m k:Int)=64*m.2.1+(k:Int)*(32*m.2.2.1):=by
 have:=pl_b hv hp
 match k,hk with
 |0,_=>exact⟨this.2.2.2.1,by rw[this.2.2.2.2.2.2.1];simp⟩
 |1,_=>exact⟨this.2.2.1,by rw[this.2.2.2.2.2.2.2];simp⟩
theorem msz_pv{m:MeT}(hv:Sp.fv m.1=true)(hp:Sp.plc m=true):p_129 m=true/\v_129 m=((Sp.hsz m:Int),()):=by
 obtain⟨p1,p2,p3,p4,p5⟩:=plc_iff.1 hp
 have b:=pl_b hv hp
 refine pv_129 m ?_
 unfold F_129
 rw[wi64 (n:=64*m.2.2.1) (by omega) (by omega),Int.tdiv_eq_ediv_of_nonneg (by omega),wi64 (by omega) (by omega),b.2.2.2.2.2.1]
 congr 2
 omega
theorem adr_pv{m:MeT}(hv:Sp.fv m.1=true)(hp:Sp.plc m=true){k:Nat}(hk:k<2){i:Int}(h0:0<=i)(h1:i<=1000000):p_96 m k i=true/\v_96 m k i=((Sp.hbs m k:Int)+i,()):=by
 obtain⟨p1,p2,p3,p4,p5⟩:=plc_iff.1 hp
 have v:=fv_iff.1 hv
 have b:=pl_b hv hp
 have bk:=pl_k hv hp hk
 refine pv_96 m k i ?_
 unfold F_96
 have e:Int.tdiv (wrap .i64 ((k:Int)*m.2.2.1)) 2=(k:Int)*(m.2.2.1/2):=by
  match k,hk with
  |0,_=>simp;rfl
  |1,_=>rw[show((1:Nat):Int)=1 from rfl,Int.one_mul,wi64 (by omega) (by omega),Int.tdiv_eq_ediv_of_nonneg (by omega),Int.one_mul]
 have e2:0<=(k:Int)*(m.2.2.1/2)/\(k:Int)*(m.2.2.1/2)<=8/\64*((k:Int)*(m.2.2.1/2))=(k:Int)*(32*m.2.2.1):=by
  match k,hk with
  |0,_=>simp
  |1,_=>simp;omega
 rw[e,wi64 (n:=(k:Int)*(m.2.2.1/2)) (by omega) (by omega),wi64 (n:=m.2.1+(k:Int)*(m.2.2.1/2)) (by omega) (by omega),wi64 (n:=64*(m.2.1+(k:Int)*(m.2.2.1/2))) (by omega) (by omega),bk.2,wi64 (by omega) (by omega)]
 congr 2
 omega
theorem wrd_pv{m:MeT}(hv:Sp.fv m.1=true)(hp:Sp.plc m=true){k:Nat}(hk:k<2):p_110 m k=true/\v_110 m k=(Sp.hwr m k,()):=by
 have b:=pl_b hv hp
 have bk:=pl_k hv hp hk
 have s:=msz_pv hv hp
 have a:=adr_pv hv hp hk (i:=0) (by omega) (by omega)
 have a2:=adr_pv hv hp hk (i:=(Sp.hsz m:Int)) (by omega) (by omega)
 refine pv_110 m k ?_
 unfold F_110
 rw[a.1,a.2,gd_tt,s.1,s.2,gd_tt]
 dsimp only
 rw[a2.1,a2.2,gd_tt]
 dsimp only
 rw[gd_sl3 (by omega) (by omega) (by omega)]
 unfold Sp.hwr
 rw[show((Sp.hbs m k:Int)+(Sp.hsz m:Int)).toNat-((Sp.hbs m k:Int)+0).toNat=Sp.hsz m by omega,show((Sp.hbs m k:Int)+0).toNat=Sp.hbs m k by omega]
theorem hwr_len{m:MeT}(hv:Sp.fv m.1=true)(hp:Sp.plc m=true){k:Nat}(hk:k<2):(Sp.hwr m k).length=Sp.hsz m:=by
 have bk:=pl_k hv hp hk
 unfold Sp.hwr
 rw[List.length_take,List.length_drop]
 omega
abbrev W32l(l:List Int):Prop:=∀x∈l,0<=x/\x<4294967296
theorem W32l.at{l:List Int}(h:W32l l)(k:Nat):0<=l.getD k 0/\l.getD k 0<4294967296:=by
 rw[List.getD_eq_getElem?_getD]
 cases e:l[k]? with
 |none=>decide
 |some x=>exact h x (List.mem_of_getElem? e)
theorem W32l.td{l:List Int}(h:W32l l)(a b:Nat):W32l (take a (drop b l)):=fun x hx=>h x (List.mem_of_mem_drop (List.mem_of_mem_take hx))
theorem W32f.half{m:MeT}(h:W32f m.1)(k:Nat):W32l (Sp.hwr m k):=W32l.td (l:=m.1.1) h _ _
theorem gnr_pv{m:MeT}(hw:W32f m.1)(hv:Sp.fv m.1=true)(hp:Sp.plc m=true){k:Nat}(hk:k<2):p_109 m k=true/\v_109 m k=(Sp.gnr m k,()):=by
 have w:=wrd_pv hv hp hk
 have l:=hwr_len hv hp hk
 have b:=pl_b hv hp
 have h0:=(hw.half k).at 0
 have n:=num_pv h0.1 h0.2
 refine pv_109 m k ?_
 unfold F_109 Sp.gnr
 rw[w.1,w.2,gd_tt]
 dsimp only
 rw[gd_inB (by omega) (by omega),n.1,n.2,gd_tt]
 dsimp only
 cases (Sp.nmb ((Sp.hwr m k).getD 0 0)).2<;>rfl
theorem gnr_b{m:MeT}(hw:W32f m.1)(k:Nat):0<=Sp.gnr m k/\Sp.gnr m k<65536:=by
 have h0:=(hw.half k).at 0
 have:=nmb_b h0.1 h0.2
 unfold Sp.gnr
 cases (Sp.nmb ((Sp.hwr m k).getD 0 0)).2
 ·exact⟨Int.le_refl 0,(by decide:(0:Int)<65536)⟩
 ·exact this
theorem acv_pv{m:MeT}(hw:W32f m.1)(hv:Sp.fv m.1=true)(hp:Sp.plc m=true):p_69 m=true/\v_69 m=((Sp.acv m:Int),Sp.acb m,()):=by
 have g0:=gnr_pv hw hv hp (k:=0) (by decide)
 have g1:=gnr_pv hw hv hp (k:=1) (by decide)
 refine pv_69 m ?_
 unfold F_69 Sp.acv Sp.acb
 rw[show(0:Int)=((0:Nat):Int)from rfl,show(1:Int)=((1:Nat):Int)from rfl,g0.1,g0.2,gd_tt,g1.1,g1.2,gd_tt]
 dsimp only
 cases decide (Sp.gnr m 1>Sp.gnr m 0)<;>rfl
theorem acv_lt(m:MeT):Sp.acv m<2:=by
 unfold Sp.acv
 cases decide (Sp.gnr m 1>Sp.gnr m 0)<;>decide
theorem mvl_pv{m:MeT}(hw:W32f m.1):p_38 m=true/\v_38 m=(Sp.mvl m,()):=by
 have v:=fv_pv m.1
 refine pv_38 m ?_
 unfold F_38 Sp.mvl
 rw[v.1,v.2,gd_tt]
 dsimp only
 cases hv:Sp.fv m.1
 ·rfl
 have hl:=fv_iff.1 hv
 have p:=plc_pv m (by omega)
 rw[Bool.not_true,cond_f,p.1,p.2,gd_tt]
 dsimp only
 cases hp:Sp.plc m
 ·rfl
 have a:=acv_pv hw hv hp
 rw[Bool.not_true,cond_f,a.1,a.2,gd_tt]
 rfl
theorem mvl_d{m:MeT}(h:Sp.mvl m=true):Sp.fv m.1=true/\Sp.plc m=true/\Sp.acb m=true:=by
 unfold Sp.mvl at h
 simpa only[Bool.and_eq_true]using h
theorem andU_mod{w:Int}(h0:0<=w)(h1:w<4294967296):Sp.andI .u32 w 65535=w%65536:=by
 obtain⟨k,rfl⟩:=Int.eq_ofNat_of_zero_le h0
 have e:Sp.andI .u32 (k:Int) ((65535:Nat):Int)=((k&&&65535:Nat):Int):=andU_nat (by omega) (by decide)
 rw[show(65535:Int)=((65535:Nat):Int)from rfl,e,show 65535=2^16-1 from rfl,Nat.and_two_pow_sub_one_eq_mod,Int.natCast_emod]
 rfl
theorem smw_b(l:List Int):∀s,0<=s->s<65536->0<=l.foldl Sp.stp s/\l.foldl Sp.stp s<65536:=by
 induction l with
 |nil=>intro s h0 h1;exact⟨h0,h1⟩
 |cons x l ih=>intro s h0 h1;exact ih _ (by unfold Sp.stp;omega) (by unfold Sp.stp;omega)
theorem sum_l{l:List Int}(hw:W32l l)(hl:l.length<1000000):∀(d m j:Nat)(s:Int),0<=s->s<65536->j+d=l.length->d<m->L_125_0 m s l l.length j=some (.e0 ((l.drop j).foldl Sp.stp s)):=by
 intro d
 induction d with
 |zero=>
  intro m j s _ _ hj hm
  obtain⟨m,rfl⟩:∃k,m=k+1:=⟨m-1,by omega⟩
  rw[L_125_0,S_125_0,cond_dff (by omega),List.drop_of_length_le (by omega)]
  rfl
 |succ d ih=>
  intro m j s h0 h1 hj hm
  obtain⟨m,rfl⟩:∃k,m=k+1:=⟨m-1,by omega⟩
  have hx:=hw.at j
  have e:Int.fdiv (l.getD j 0) 65536=l.getD j 0/65536:=Int.fdiv_eq_ediv_of_nonneg _ (by decide)
  have e3:l.drop j=l.getD j 0::l.drop (j+1):=by
   have hj':j<l.length:=by omega
   rw[List.drop_eq_getElem_cons hj',List.getD_eq_getElem?_getD,List.getElem?_eq_getElem hj'];rfl
  have r:=ih m (j+1) (Sp.stp s (l.getD j 0)) (by unfold Sp.stp;omega) (by unfold Sp.stp;omega) (by omega) (by omega)
  rw[L_125_0,S_125_0,cond_dtt (by omega),gd_inB (by omega) (by omega),Int.toNat_natCast,e,andU_mod hx.1 hx.2,e3,List.foldl_cons]
  generalize l.getD j 0=x at *
  rw[wi64 (n:=31*s) (by omega) (by omega),wi64 (n:=x/65536) (by omega) (by omega),wi64 (n:=31*s+x/65536) (by omega) (by omega),wi64 (n:=x%65536) (by omega) (by omega),wi64 (n:=7*(x%65536)) (by omega) (by omega),wi64 (n:=31*s+x/65536+7*(x%65536)) (by omega) (by omega),Int.tmod_eq_emod_of_nonneg (by omega),wi64 (by omega) (by omega),show(j:Int)+1=((j+1:Nat):Int) by push_cast;rfl]
  exact r
theorem sum_pv{l:List Int}(hw:W32l l)(hl:l.length<1000000):p_125 l=true/\v_125 l=(Sp.smw l,()):=by
 refine pv_125 l ?_
 unfold F_125
 have:=sum_l hw hl l.length 4611686018427387904 0 0 (by decide) (by decide) (by omega) (by omega)
 rw[List.drop_zero]at this
 exact(congrArg (fun z=>B_125_0 z _) this).trans rfl
set_option maxRecDepth 100000
set_option maxHeartbeats 4000000
namespace Sp
noncomputable def dE:EnT:=Ty.dflt (.pair (.int .i64) (.pair (.slice (.int .u32)) .unit))
noncomputable def bsl(es:List EnT)(key:Int):Nat->Nat->Nat->Nat
 |0,lo,_=>lo
 |f+1,lo,hi=>if lo<hi then(if(es.getD ((lo+hi)/2) dE).1<key then bsl es key f ((lo+hi)/2+1) hi else bsl es key f lo ((lo+hi)/2))else lo
noncomputable def plE(es:List EnT)(key:Int):Nat:=bsl es key es.length 0 es.length
noncomputable def putE(es:List EnT)(key:Int)(data:List Int):List EnT:=
 if plE es key<es.length/\(es.getD (plE es key) dE).1=key then es.set (plE es key) (key,data,())else es.take (plE es key)++([(key,data,())]++es.drop (plE es key))
noncomputable def rdl(l:List Int):Nat->Nat->List EnT->Nat×List EnT
 |0,i,es=>(i,es)
 |f+1,i,es=>if i<l.length/\(nmb (l.getD i 0)).2=true/\(nmb (l.getD i 0)).1/256<=254/\(nmb (l.getD i 0)).1%256<=24/\i+((nmb (l.getD i 0)).1%256).toNat+2<=l.length then
  rdl l f (i+((nmb (l.getD i 0)).1%256).toNat+2)
   (if(nmb (l.getD (i+((nmb (l.getD i 0)).1%256).toNat+1) 0)).2=true/\(nmb (l.getD (i+((nmb (l.getD i 0)).1%256).toNat+1) 0)).1=smw (take (((nmb (l.getD i 0)).1%256).toNat+1) (drop i l))then putE es ((nmb (l.getD i 0)).1/256) (take ((nmb (l.getD i 0)).1%256).toNat (drop (i+1) l))else es)
  else(i,es)
noncomputable def blk(l:List Int)(e:Nat):Bool:=(drop e l).all (fun w=>w==4294967295)
noncomputable def rdv(l:List Int):List EnT×Int×Int×Unit:=((rdl l l.length 1 []).2,((rdl l l.length 1 []).1:Int),(if blk l (rdl l l.length 1 []).1=true then(l.length:Int)-((rdl l l.length 1 []).1:Int)else 0),())
end Sp
noncomputable def KOK(es:List EnT):Prop:=∀e∈es,(0<=e.1/\e.1<=254)/\e.2.1.length<=24/\W32l e.2.1
theorem KOK.at{es:List EnT}(h:KOK es)(j:Nat):0<=(es.getD j Sp.dE).1/\(es.getD j Sp.dE).1<=254:=by
 rw[List.getD_eq_getElem?_getD]
 cases e:es[j]? with
 |none=>
  exact⟨Int.le_refl 0,(by decide:(0:Int)<=254)⟩
 |some x=>exact(h x (List.mem_of_getElem? e)).1
theorem bsl_le(es:List EnT)(key:Int):∀(f lo hi:Nat),lo<=hi->lo<=Sp.bsl es key f lo hi/\Sp.bsl es key f lo hi<=hi
 |0,lo,hi,h=>⟨Nat.le_refl _,h⟩
 |f+1,lo,hi,h=>by
  rw[Sp.bsl]
  split
  ·split
   ·have:=bsl_le es key f ((lo+hi)/2+1) hi (by omega)
    omega
   ·have:=bsl_le es key f lo ((lo+hi)/2) (by omega)
    omega
  ·omega
theorem plE_le(es:List EnT)(key:Int):Sp.plE es key<=es.length:=(bsl_le es key es.length 0 es.length (Nat.zero_le _)).2
theorem putE_len(es:List EnT)(key:Int)(data:List Int):(Sp.putE es key data).length<=es.length+1:=by
 have:=plE_le es key
 unfold Sp.putE
 split
 ·rw[List.length_set];omega
 ·rw[List.length_append,List.length_append,List.length_take,List.length_drop,List.length_singleton];omega
theorem KOK.put{es:List EnT}(h:KOK es){key:Int}(h0:0<=key)(h1:key<=254){data:List Int}(hd:data.length<=24)(hw:W32l data):KOK (Sp.putE es key data):=by
 have hn:(0<=key/\key<=254)/\data.length<=24/\W32l data:=⟨⟨h0,h1⟩,hd,hw⟩
 intro e he
 unfold Sp.putE at he
 split at he
 ·rcases List.mem_or_eq_of_mem_set he with h2|rfl
  ·exact h e h2
  ·exact hn
 ·rcases List.mem_append.1 he with h2|h2
  ·exact h e (List.mem_of_mem_take h2)
  ·rcases List.mem_append.1 h2 with h3|h3
   ·rw[List.mem_singleton.1 h3];exact hn
   ·exact h e (List.mem_of_mem_drop h3)
theorem bs2{es:List EnT}(hk:KOK es){key:Int}(h0:0<=key)(h1:key<=254)(hl:es.length<=1000000)(n:Int):∀(f m lo hi:Nat),hi-lo<=f->lo<=hi->hi<=es.length->f<m->
 L_98_131_0_0 m key n lo hi es=some (.e0 key n (Sp.bsl es key f lo hi) es):=by
 intro f
 induction f with
 |zero=>
  intro m lo hi h2 h3 h4 hm
  obtain⟨m,rfl⟩:∃k,m=k+1:=⟨m-1,by omega⟩
  rw[L_98_131_0_0,S_98_131_0_0,cond_dff (by omega),Sp.bsl]
 |succ f ih=>
  intro m lo hi h2 h3 h4 hm
  obtain⟨m,rfl⟩:∃k,m=k+1:=⟨m-1,by omega⟩
  rw[Sp.bsl]
  by_cases c:lo<hi
  rotate_left
  ·rw[L_98_131_0_0,S_98_131_0_0,cond_dff (by omega),if_neg c]
  have e:wrap .i64 (Int.fdiv (wrap .u64 (wrap .i64 ((lo:Int)+(hi:Int)))) 2)=(((lo+hi)/2:Nat):Int):=by
   rw[wi64 (n:=(lo:Int)+(hi:Int)) (by omega) (by omega),wu64 (by omega) (by omega),Int.fdiv_eq_ediv_of_nonneg _ (by decide),wi64 (by omega) (by omega)]
   omega
  have ka:=hk.at ((lo+hi)/2)
  have ka:0<=(es.getD ((lo+hi)/2) Zd2).1/\(es.getD ((lo+hi)/2) Zd2).1<=254:=ka
  rw[L_98_131_0_0,S_98_131_0_0,cond_dtt (by omega),e,gd_inB (by omega) (by omega),Int.toNat_natCast,Bool.and_true,gd_dec (by omega),if_pos c,wi64 (n:=(es.getD ((lo+hi)/2) Zd2).1-key) (by omega) (by omega)]
  by_cases c2:(es.getD ((lo+hi)/2) Sp.dE).1<key
  ·have c2':(es.getD ((lo+hi)/2) Zd2).1<key:=c2
   rw[cond_dtt (by omega),if_pos c2,wi64 (by omega) (by omega),show(((lo+hi)/2:Nat):Int)+1=(((lo+hi)/2+1:Nat):Int) by omega]
   exact ih m _ hi (by omega) (by omega) h4 (by omega)
  ·have c2':¬(es.getD ((lo+hi)/2) Zd2).1<key:=c2
   rw[cond_dff (by omega),if_neg c2]
   exact ih m lo _ (by omega) (by omega) (by omega) (by omega)
theorem put_pv{es:List EnT}(hk:KOK es){key:Int}(h0:0<=key)(h1:key<=254)(hl:es.length<=1000){data:List Int}(hd:data.length<=100000):p_98 es key data=true/\v_98 es key data=(Sp.putE es key data,()):=by
 have pl:=plE_le es key
 have ka:=hk.at (Sp.plE es key)
 have b:=bs2 hk h0 h1 (by omega) (es.length:Int) es.length 4611686018427387904 0 es.length (by omega) (by omega) (by omega) (by omega)
 refine pv_98 es key data ?_
 unfold F_98 Sp.putE
 refine(congrArg (fun z=>B_98_131_0_0 z _) b).trans ?_
 unfold B_98_131_0_0
 dsimp only
 rw[show Sp.bsl es key es.length 0 es.length=Sp.plE es key from rfl]
 by_cases c:Sp.plE es key<es.length
 ·rw[cond_dtt (by omega),gd_inB (by omega) (by omega),Int.toNat_natCast,Bool.and_true,gd_dec c,gd_room (by omega) (by omega),show(es.getD (Sp.plE es key) Zd2).1=(es.getD (Sp.plE es key) Sp.dE).1 from rfl,wi64 (by omega) (by omega)]
  by_cases c2:(es.getD (Sp.plE es key) Sp.dE).1=key
  ·rw[cond_ett (by omega),gd_inB (by omega) (by omega),Bool.and_true,gd_dec c,if_pos ⟨c,c2⟩]
  ·rw[cond_eff (by omega),gd_and,gd_and,gd_dec (by omega),gd_dec (by omega),gd_room (by omega) (by omega),if_neg (fun a=>c2 a.2)]
 ·rw[cond_dff (by omega),gd_room (by omega) (by omega),gd_and,gd_and,gd_dec (by omega),gd_dec (by omega),gd_room (by omega) (by omega),if_neg (fun a=>c a.1),Int.toNat_natCast]
set_option maxRecDepth 100000
set_option maxHeartbeats 4000000
theorem W32l.dr{l:List Int}(h:W32l l)(a b:Nat):W32l (take a (drop b l)):=W32l.td h a b
structure HD(l:List Int)(i n:Nat)(k:Int)(ok:Bool):Prop where
 e:Sp.nmb (l.getD i 0)=(k*256+n,ok)
 n:n<256
 k0:0<=k
 k1:k<256
theorem hd_at{l:List Int}(hw:W32l l)(i:Nat):∃n k ok,HD l i n k ok:=by
 have h:=hw.at i
 have b:=nmb_b h.1 h.2
 refine⟨((Sp.nmb (l.getD i 0)).1%256).toNat,(Sp.nmb (l.getD i 0)).1/256,(Sp.nmb (l.getD i 0)).2,?_,by omega,by omega,by omega⟩
 refine Prod.ext ?_ rfl
 show(Sp.nmb (l.getD i 0)).1=_
 omega
theorem rdl_s{l:List Int}{i n:Nat}{k:Int}{ok:Bool}(h:HD l i n k ok)(f:Nat)(es:List EnT):Sp.rdl l (f+1) i es=if i<l.length/\ok=true/\k<=254/\n<=24/\i+n+2<=l.length then
 Sp.rdl l f (i+n+2) (if(Sp.nmb (l.getD (i+n+1) 0)).2=true/\(Sp.nmb (l.getD (i+n+1) 0)).1=Sp.smw (take (n+1) (drop i l))then Sp.putE es k (take n (drop (i+1) l))else es)else(i,es):=by
 have e1:(k*256+(n:Int))/256=k:=by have:=h.n;omega
 have e2:(k*256+(n:Int))%256=(n:Int):=by have:=h.n;omega
 rw[Sp.rdl,h.e]
 dsimp only
 rw[e1,e2,Int.toNat_natCast]
 by_cases c:i<l.length/\ok=true/\k<=254/\n<=24/\i+n+2<=l.length
 ·rw[if_pos c,if_pos ⟨c.1,c.2.1,c.2.2.1,by omega,c.2.2.2.2⟩]
 ·rw[if_neg c,if_neg (fun a=>c ⟨a.1,a.2.1,a.2.2.1,by omega,a.2.2.2.2⟩)]
theorem r1{l:List Int}(hw:W32l l)(hl:l.length<=600)(M:MeT)(z:PwT)(fr:Int×Unit):∀(f m i:Nat)(es:List EnT),KOK es->es.length<=i->i<=l.length->l.length-i<=f->f<m->
 (L_70_142_0_1 m i M z ((i:Int),fr) l es=some (.e0 M z (((Sp.rdl l f i es).1:Int),fr) l (Sp.rdl l f i es).2)\/L_70_142_0_1 m i M z ((i:Int),fr) l es=some (.e1 M z (((Sp.rdl l f i es).1:Int),fr) l (Sp.rdl l f i es).2))/\KOK (Sp.rdl l f i es).2/\(Sp.rdl l f i es).2.length<=(Sp.rdl l f i es).1/\i<=(Sp.rdl l f i es).1/\(Sp.rdl l f i es).1<=l.length:=by
 intro f
 induction f with
 |zero=>
  intro m i es hk hn hi hf hm
  obtain⟨m,rfl⟩:∃k,m=k+1:=⟨m-1,by omega⟩
  refine⟨.inr ?_,hk,hn,Nat.le_refl _,hi⟩
  rw[L_70_142_0_1,S_70_142_0_1,cond_dff (by omega),Sp.rdl]
 |succ f ih=>
  intro m i es hk hn hi hf hm
  obtain⟨m,rfl⟩:∃k,m=k+1:=⟨m-1,by omega⟩
  obtain⟨n,k,ok,h⟩:=hd_at hw i
  have hn2:=h.n
  have hk0:=h.k0
  have hk1:=h.k1
  rw[rdl_s h]
  by_cases c1:i<l.length
  rotate_left
  ·rw[if_neg (fun a=>c1 a.1)]
   refine⟨.inr ?_,hk,hn,Nat.le_refl _,hi⟩
   rw[L_70_142_0_1,S_70_142_0_1,cond_dff (by omega)]
  have hx:=hw.at i
  have nv:=num_pv hx.1 hx.2
  rw[L_70_142_0_1,S_70_142_0_1,cond_dtt (by omega),gd_inB (by omega) (by omega),Int.toNat_natCast,nv.1,nv.2,gd_tt,h.e]
  dsimp only
  cases ok with
  |false=>
   rw[if_neg (fun a=>Bool.noConfusion a.2.1),Bool.not_false,cond_t]
   exact⟨.inl rfl,hk,hn,Nat.le_refl _,hi⟩
  |true=>
  have e1:Int.tdiv (k*256+(n:Int)) 256=k:=by rw[Int.tdiv_eq_ediv_of_nonneg (by omega)];omega
  have e2:Int.tmod (k*256+(n:Int)) 256=(n:Int):=by rw[Int.tmod_eq_emod_of_nonneg (by omega)];omega
  rw[Bool.not_true,cond_f,e1,e2,wi64 (n:=k) (by omega) (by omega)]
  by_cases c2:k>254
  ·rw[cond_dtt c2,if_neg (fun a=>by omega)]
   exact⟨.inl rfl,hk,hn,Nat.le_refl _,hi⟩
  rw[cond_dff c2]
  by_cases c3:(n:Int)>24
  ·rw[cond_dtt c3,if_neg (fun a=>by omega)]
   exact⟨.inl rfl,hk,hn,Nat.le_refl _,hi⟩
  rw[cond_dff c3,wi64 (n:=(i:Int)+(n:Int)) (by omega) (by omega),wi64 (n:=(i:Int)+(n:Int)+2) (by omega) (by omega),wi64 (n:=(i:Int)+(n:Int)+1) (by omega) (by omega),wi64 (n:=(i:Int)+1) (by omega) (by omega)]
  by_cases c4:(i:Int)+(n:Int)+2>(l.length:Int)
  ·rw[cond_dtt c4,if_neg (fun a=>by omega)]
   exact⟨.inl rfl,hk,hn,Nat.le_refl _,hi⟩
  rw[cond_dff c4,if_pos (show i<l.length/\true=true/\k<=254/\n<=24/\i+n+2<=l.length from⟨c1,rfl,by omega,by omega,by omega⟩),gd_inB (by omega) (by omega),show((i:Int)+(n:Int)+1).toNat=i+n+1 by omega,show((i:Int)+1).toNat=i+1 by omega]
  have hy:=hw.at (i+n+1)
  have ny:=num_pv hy.1 hy.2
  have en:wrap .i64 ((i:Int)+wrap .i64 ((n:Int)+2))=((i+n+2:Nat):Int):=by
   rw[wi64 (n:=(n:Int)+2) (by omega) (by omega),wi64 (by omega) (by omega)];omega
  have next:∀es',KOK es'->es'.length<=es.length+1->_:=fun es' g1 g2=>ih m (i+n+2) es' g1 (by omega) (by omega) (by omega) (by omega)
  have j3:J_70_142_1_3 i n M z ((i:Int),fr) l (-1) [] es=some (.e1 i n M z ((i:Int),fr) l (-1) [] es):=by
   unfold J_70_142_1_3 S_70_142_1_3
   rw[cond_dff (by decide)]
  rw[ny.1,ny.2,gd_tt]
  dsimp only
  cases hb:(Sp.nmb (l.getD (i+n+1) 0)).2 with
  |false=>
   rw[cond_f,if_neg (fun a=>Bool.noConfusion a.1),j3]
   unfold B_70_142_1_3
   dsimp only
   rw[en]
   have:=next es hk (by omega)
   exact⟨this.1,this.2.1,this.2.2.1,by omega,this.2.2.2.2⟩
  |true=>
  have s:=sum_pv (W32l.td hw (n+1) i) (by rw[List.length_take];omega)
  rw[cond_t,gd_sl3 (by omega) (by omega) (by omega),show i+n+1-i=n+1 by omega,s.1,s.2,gd_tt]
  dsimp only
  by_cases c5:(Sp.nmb (l.getD (i+n+1) 0)).1=Sp.smw (take (n+1) (drop i l))
  rotate_left
  ·rw[cond_eff c5,if_neg (fun a=>c5 a.2),j3]
   unfold B_70_142_1_3
   dsimp only
   rw[en]
   have:=next es hk (by omega)
   exact⟨this.1,this.2.1,this.2.2.1,by omega,this.2.2.2.2⟩
  rw[cond_ett c5,if_pos ⟨rfl,c5⟩,gd_sl3 (by omega) (by omega) (by omega),show i+n+1-(i+1)=n by omega]
  have dl:(take n (drop (i+1) l)).length<=24:=by rw[List.length_take];omega
  have:=next (Sp.putE es k (take n (drop (i+1) l))) (hk.put hk0 (by omega) dl (W32l.td hw n (i+1))) (putE_len _ _ _)
  refine⟨?_,this.2.1,this.2.2.1,by omega,this.2.2.2.2⟩
  have pt:=put_pv hk hk0 (by omega) (by omega) (data:=take n (drop (i+1) l)) (by omega)
  have j2:J_70_142_1_2 i n M z ((i:Int),fr) l (k,take n (drop (i+1) l),()) es=some (.e0 i n M z ((i:Int),fr) l (k,take n (drop (i+1) l),()) es):=by
   unfold J_70_142_1_2 S_70_142_1_2
   rw[cond_dtt (by omega),pt.1,gd_tt]
  rw[j2]
  unfold B_70_142_1_2
  dsimp only
  rw[en,pt.2]
  exact this.1
theorem putE_nil(k:Int)(d:List Int):Sp.putE [] k d=[(k,d,())]:=by
 unfold Sp.putE
 rw[if_neg (fun a=>Nat.not_lt_zero _ a.1)]
 rfl
theorem r0{l:List Int}(hw:W32l l)(hl:l.length<=600)(M:MeT)(z:PwT)(fr:Int×Unit):∀(f m i:Nat),1<=i->i<=l.length->l.length-i<=f->f<m->
 ((L_70_142_0_0 m i M z ((i:Int),fr) l=some (.e0 M z (((Sp.rdl l f i []).1:Int),fr) l)\/L_70_142_0_0 m i M z ((i:Int),fr) l=some (.e1 M z (((Sp.rdl l f i []).1:Int),fr) l))/\(Sp.rdl l f i []).2=[] \/
   (L_70_142_0_0 m i M z ((i:Int),fr) l=some (.e2 M z (((Sp.rdl l f i []).1:Int),fr) l (Sp.rdl l f i []).2)\/L_70_142_0_0 m i M z ((i:Int),fr) l=some (.e3 M z (((Sp.rdl l f i []).1:Int),fr) l (Sp.rdl l f i []).2)))/\KOK (Sp.rdl l f i []).2/\(Sp.rdl l f i []).2.length<=(Sp.rdl l f i []).1/\i<=(Sp.rdl l f i []).1/\(Sp.rdl l f i []).1<=l.length:=by
 have kn:KOK []:=fun e he=>by cases he
 intro f
 induction f with
 |zero=>
  intro m i h1 hi hf hm
  obtain⟨m,rfl⟩:∃k,m=k+1:=⟨m-1,by omega⟩
  refine⟨.inl ⟨.inr ?_,rfl⟩,kn,Nat.zero_le _,Nat.le_refl _,hi⟩
  rw[L_70_142_0_0,S_70_142_0_0,cond_dff (by omega),Sp.rdl]
 |succ f ih=>
  intro m i h1 hi hf hm
  obtain⟨m,rfl⟩:∃k,m=k+1:=⟨m-1,by omega⟩
  obtain⟨n,k,ok,h⟩:=hd_at hw i
  have hn2:=h.n
  have hk0:=h.k0
  have hk1:=h.k1
  rw[rdl_s h]
  by_cases c1:i<l.length
  rotate_left
  ·rw[if_neg (fun a=>c1 a.1)]
   refine⟨.inl ⟨.inr ?_,rfl⟩,kn,Nat.zero_le _,Nat.le_refl _,hi⟩
   rw[L_70_142_0_0,S_70_142_0_0,cond_dff (by omega)]
  have hx:=hw.at i
  have nv:=num_pv hx.1 hx.2
  rw[L_70_142_0_0,S_70_142_0_0,cond_dtt (by omega),gd_inB (by omega) (by omega),Int.toNat_natCast,nv.1,nv.2,gd_tt,h.e]
  dsimp only
  cases ok with
  |false=>
   rw[if_neg (fun a=>Bool.noConfusion a.2.1),Bool.not_false,cond_t]
   exact⟨.inl ⟨.inl rfl,rfl⟩,kn,Nat.zero_le _,Nat.le_refl _,hi⟩
  |true=>
  have e1:Int.tdiv (k*256+(n:Int)) 256=k:=by rw[Int.tdiv_eq_ediv_of_nonneg (by omega)];omega
  have e2:Int.tmod (k*256+(n:Int)) 256=(n:Int):=by rw[Int.tmod_eq_emod_of_nonneg (by omega)];omega
  rw[Bool.not_true,cond_f,e1,e2,wi64 (n:=k) (by omega) (by omega)]
  by_cases c2:k>254
  ·rw[cond_dtt c2,if_neg (fun a=>by omega)]
   exact⟨.inl ⟨.inl rfl,rfl⟩,kn,Nat.zero_le _,Nat.le_refl _,hi⟩
  rw[cond_dff c2]
  by_cases c3:(n:Int)>24
  ·rw[cond_dtt c3,if_neg (fun a=>by omega)]
   exact⟨.inl ⟨.inl rfl,rfl⟩,kn,Nat.zero_le _,Nat.le_refl _,hi⟩
  rw[cond_dff c3,wi64 (n:=(i:Int)+(n:Int)) (by omega) (by omega),wi64 (n:=(i:Int)+(n:Int)+2) (by omega) (by omega),wi64 (n:=(i:Int)+(n:Int)+1) (by omega) (by omega),wi64 (n:=(i:Int)+1) (by omega) (by omega)]
  by_cases c4:(i:Int)+(n:Int)+2>(l.length:Int)
  ·rw[cond_dtt c4,if_neg (fun a=>by omega)]
   exact⟨.inl ⟨.inl rfl,rfl⟩,kn,Nat.zero_le _,Nat.le_refl _,hi⟩
  rw[cond_dff c4,if_pos (show i<l.length/\true=true/\k<=254/\n<=24/\i+n+2<=l.length from⟨c1,rfl,by omega,by omega,by omega⟩),gd_inB (by omega) (by omega),show((i:Int)+(n:Int)+1).toNat=i+n+1 by omega,show((i:Int)+1).toNat=i+1 by omega]
  have hy:=hw.at (i+n+1)
  have ny:=num_pv hy.1 hy.2
  have en:wrap .i64 ((i:Int)+wrap .i64 ((n:Int)+2))=((i+n+2:Nat):Int):=by
   rw[wi64 (n:=(n:Int)+2) (by omega) (by omega),wi64 (by omega) (by omega)];omega
  have next:=ih m (i+n+2) (by omega) (by omega) (by omega) (by omega)
  have j1:J_70_142_1_1 i n M z ((i:Int),fr) l (-1) []=some (.e1 i n M z ((i:Int),fr) l (-1) []):=by
   unfold J_70_142_1_1 S_70_142_1_1
   rw[cond_dff (by decide)]
  rw[ny.1,ny.2,gd_tt]
  dsimp only
  cases hb:(Sp.nmb (l.getD (i+n+1) 0)).2 with
  |false=>
   rw[cond_f,if_neg (fun a=>Bool.noConfusion a.1),j1]
   unfold B_70_142_1_1
   dsimp only
   rw[en]
   exact⟨next.1,next.2.1,next.2.2.1,by omega,next.2.2.2.2⟩
  |true=>
  have s:=sum_pv (W32l.td hw (n+1) i) (by rw[List.length_take];omega)
  rw[cond_t,gd_sl3 (by omega) (by omega) (by omega),show i+n+1-i=n+1 by omega,s.1,s.2,gd_tt]
  dsimp only
  by_cases c5:(Sp.nmb (l.getD (i+n+1) 0)).1=Sp.smw (take (n+1) (drop i l))
  rotate_left
  ·rw[cond_eff c5,if_neg (fun a=>c5 a.2),j1]
   unfold B_70_142_1_1
   dsimp only
   rw[en]
   exact⟨next.1,next.2.1,next.2.2.1,by omega,next.2.2.2.2⟩
  rw[cond_ett c5,if_pos ⟨rfl,c5⟩,gd_sl3 (by omega) (by omega) (by omega),show i+n+1-(i+1)=n by omega,putE_nil]
  have dl:(take n (drop (i+1) l)).length<=24:=by rw[List.length_take];omega
  have k1:KOK [(k,take n (drop (i+1) l),())]:=by
   rw[<-putE_nil]
   exact kn.put hk0 (by omega) dl (W32l.td hw n (i+1))
  have r:=r1 hw hl M z fr f m (i+n+2) [(k,take n (drop (i+1) l),())] k1 (by simp only[List.length_singleton];omega) (by omega) (by omega) (by omega)
  refine⟨.inr ?_,r.2.1,r.2.2.1,by omega,r.2.2.2.2⟩
  have pt:=put_pv kn hk0 (by omega) (by decide) (data:=take n (drop (i+1) l)) (by omega)
  have j0:J_70_142_1_0 i n M z ((i:Int),fr) l (k,take n (drop (i+1) l),())=some (.e0 i n M z ((i:Int),fr) l (k,take n (drop (i+1) l),())):=by
   unfold J_70_142_1_0 S_70_142_1_0
   rw[cond_dtt (by omega),pt.1,gd_tt]
  rw[j0]
  unfold B_70_142_1_0
  dsimp only
  rw[en,pt.2,putE_nil]
  rcases r.1 with r|r
  ·exact .inl ((congrArg (fun z=>B_70_142_0_1 z _ _) r).trans rfl)
  ·exact .inr ((congrArg (fun z=>B_70_142_0_1 z _ _) r).trans rfl)
theorem blk_iff(l:List Int)(e:Nat):(fnd (fun j=>(drop e l).getD j 0 !=4294967295) (drop e l).length 0=none)↔Sp.blk l e=true:=by
 rw[fnd_none]
 unfold Sp.blk
 rw[List.all_eq_true]
 constructor
 ·intro h x hx
  obtain⟨i,hi,e2⟩:=List.mem_iff_getElem.1 hx
  have:=h i (by omega) (by omega)
  rw[getD_at 0 hi,e2]at this
  simpa using this
 ·intro h i _ hi
  rw[getD_at 0 (by omega)]
  have:=h _ (List.getElem_mem (show i<(drop e l).length by omega))
  simpa using this
theorem c1_l(l:List Int)(e:Nat)(hl:l.length<=1000)(M:MeT)(z st:PwT)(es:List EnT):(Sp.blk l e=true->L_70_143_0_1 4611686018427387904 (drop e l) (drop e l).length 0 M z st l es=some (.e1 M z st l es))/\(Sp.blk l e=false->∃k:Nat,L_70_143_0_1 4611686018427387904 (drop e l) (drop e l).length 0 M z st l es=some (.e0 k M z st l es)):=by
 have hd:(drop e l).length<=1000:=by rw[List.length_drop];omega
 have hf:=find0 (fun m i=>L_70_143_0_1 m (drop e l) (drop e l).length i M z st l es) (n:=(drop e l).length) (fun j=>(drop e l).getD j 0 !=4294967295) (ex:=fun j=>some (.e0 (j:Int) M z st l es)) (e1:=some (.e1 M z st l es)) (by omega) (fun m j hj=>by
  show L_70_143_0_1 (m+1) (drop e l) (drop e l).length (j:Int) M z st l es=bif(drop e l).getD j 0 !=4294967295 then some (.e0 (j:Int) M z st l es)else L_70_143_0_1 m (drop e l) (drop e l).length ((j+1:Nat):Int) M z st l es
  rw[L_70_143_0_1,S_70_143_0_1,cond_dtt (by omega),gd_inB (by omega) (by omega),Int.toNat_natCast,wi64 (by omega) (by omega)]
  push_cast
  rfl) (fun m=>by
  show L_70_143_0_1 (m+1) (drop e l) (drop e l).length ((drop e l).length:Int) M z st l es=_
  rw[L_70_143_0_1,S_70_143_0_1,cond_dff (by omega)])
 constructor
 ·intro hb
  rw[(blk_iff l e).2 hb]at hf
  exact hf
 ·intro hb
  cases hq:fnd (fun j=>(drop e l).getD j 0 !=4294967295) (drop e l).length 0 with
  |none=>rw[(blk_iff l e).1 hq]at hb;cases hb
  |some k=>
   rw[hq]at hf
   exact⟨k,hf⟩
theorem c0_l(l:List Int)(e:Nat)(hl:l.length<=1000)(M:MeT)(z st:PwT):(Sp.blk l e=true->L_70_143_0_0 4611686018427387904 (drop e l) (drop e l).length 0 M z st l=some (.e1 M z st l))/\(Sp.blk l e=false->∃k:Nat,L_70_143_0_0 4611686018427387904 (drop e l) (drop e l).length 0 M z st l=some (.e0 k M z st l)):=by
 have hd:(drop e l).length<=1000:=by rw[List.length_drop];omega
 have hf:=find0 (fun m i=>L_70_143_0_0 m (drop e l) (drop e l).length i M z st l) (n:=(drop e l).length) (fun j=>(drop e l).getD j 0 !=4294967295) (ex:=fun j=>some (.e0 (j:Int) M z st l)) (e1:=some (.e1 M z st l)) (by omega) (fun m j hj=>by
  show L_70_143_0_0 (m+1) (drop e l) (drop e l).length (j:Int) M z st l=bif(drop e l).getD j 0 !=4294967295 then some (.e0 (j:Int) M z st l)else L_70_143_0_0 m (drop e l) (drop e l).length ((j+1:Nat):Int) M z st l
  rw[L_70_143_0_0,S_70_143_0_0,cond_dtt (by omega),gd_inB (by omega) (by omega),Int.toNat_natCast,wi64 (by omega) (by omega)]
  push_cast
  rfl) (fun m=>by
  show L_70_143_0_0 (m+1) (drop e l) (drop e l).length ((drop e l).length:Int) M z st l=_
  rw[L_70_143_0_0,S_70_143_0_0,cond_dff (by omega)])
 constructor
 ·intro hb
  rw[(blk_iff l e).2 hb]at hf
  exact hf
 ·intro hb
  cases hq:fnd (fun j=>(drop e l).getD j 0 !=4294967295) (drop e l).length 0 with
  |none=>rw[(blk_iff l e).1 hq]at hb;cases hb
  |some k=>
   rw[hq]at hf
   exact⟨k,hf⟩
theorem rdv_b{l:List Int}(hw:W32l l)(hl:l.length<=600)(h1:1<=l.length):KOK (Sp.rdv l).1/\(Sp.rdv l).1.length<=l.length/\1<=(Sp.rdv l).2.1/\(Sp.rdv l).2.1<=l.length:=by
 have r:=r0 hw hl (([],[],0,()),0,0,()) (0,0,()) (0,()) l.length 4611686018427387904 1 (Nat.le_refl _) h1 (by omega) (by omega)
 unfold Sp.rdv
 dsimp only
 refine⟨r.2.1,by omega,by omega,by omega⟩
theorem read_pv{m:MeT}(hw:W32f m.1)(hv:Sp.fv m.1=true)(hp:Sp.plc m=true){k:Nat}(hk:k<2):p_70 m k=true/\v_70 m k=(Sp.rdv (Sp.hwr m k),()):=by
 have w:=wrd_pv hv hp hk
 have ll:=hwr_len hv hp hk
 have b:=pl_b hv hp
 have hW:=hw.half k
 refine pv_70 m k ?_
 unfold F_70
 rw[w.1,w.2,gd_tt]
 dsimp only
 generalize Sp.hwr m k=l at *
 have r:=r0 hW (by omega) m (0,0,()) (0,()) l.length 4611686018427387904 1 (Nat.le_refl _) (by omega) (by omega) (by omega)
 obtain⟨r,_,_,h3,h4⟩:=r
 unfold Sp.rdv
 generalize Sp.rdl l l.length 1 []=R at *
 obtain⟨e,es⟩:=R
 dsimp only at *
 have nil:es=[]->gd (sl3 (e:Int) (l.length:Int) (l.length:Int)) (B_70_143_0_0 (L_70_143_0_0 4611686018427387904 (drop (toNat (e:Int)) l) (drop (toNat (e:Int)) l).length 0 m (0,0,()) ((e:Int),0,()) l) (fun y62 y63 y64 y65 y66=>bif !decide (y62>=0)then some (([],y65.1,wrap .i64 ((l.length:Int)-y65.1),y65.2.2),())else some (([],y65),())) (fun y67 y68 y69 y70=>some (([],y69.1,wrap .i64 ((l.length:Int)-y69.1),y69.2.2),())))=some ((es,(e:Int),(if Sp.blk l e=true then(l.length:Int)-(e:Int)else 0),()),()):=by
  rintro rfl
  have c:=c0_l l e (by omega) m (0,0,()) ((e:Int),0,())
  rw[gd_sl3 (by omega) (by omega) (by omega),Int.toNat_natCast]
  cases hb:Sp.blk l e with
  |true=>
   rw[c.1 hb,if_pos rfl]
   unfold B_70_143_0_0
   dsimp only
   rw[wi64 (by omega) (by omega)]
  |false=>
   obtain⟨q,hq⟩:=c.2 hb
   rw[hq,if_neg Bool.false_ne_true]
   unfold B_70_143_0_0
   dsimp only
   rw[decide_eq_true (by omega),Bool.not_true,cond_f]
 have full:gd (sl3 (e:Int) (l.length:Int) (l.length:Int)) (B_70_143_0_1 (L_70_143_0_1 4611686018427387904 (drop (toNat (e:Int)) l) (drop (toNat (e:Int)) l).length 0 m (0,0,()) ((e:Int),0,()) l es) (fun y89 y90 y91 y92 y93 y94=>bif !decide (y89>=0)then some ((y94,y92.1,wrap .i64 ((l.length:Int)-y92.1),y92.2.2),())else some ((y94,y92),())) (fun y95 y96 y97 y98 y99=>some ((y99,y97.1,wrap .i64 ((l.length:Int)-y97.1),y97.2.2),())))=some ((es,(e:Int),(if Sp.blk l e=true then(l.length:Int)-(e:Int)else 0),()),()):=by
  have c:=c1_l l e (by omega) m (0,0,()) ((e:Int),0,()) es
  rw[gd_sl3 (by omega) (by omega) (by omega),Int.toNat_natCast]
  cases hb:Sp.blk l e with
  |true=>
   rw[c.1 hb,if_pos rfl]
   unfold B_70_143_0_1
   dsimp only
   rw[wi64 (by omega) (by omega)]
  |false=>
   obtain⟨q,hq⟩:=c.2 hb
   rw[hq,if_neg Bool.false_ne_true]
   unfold B_70_143_0_1
   dsimp only
   rw[decide_eq_true (by omega),Bool.not_true,cond_f]
 rcases r with⟨r|r,e0⟩|r|r
 ·exact(congrArg (fun z=>B_70_142_0_0 z _ _ _ _) r).trans (nil e0)
 ·exact(congrArg (fun z=>B_70_142_0_0 z _ _ _ _) r).trans (nil e0)
 ·exact(congrArg (fun z=>B_70_142_0_0 z _ _ _ _) r).trans full
 ·exact(congrArg (fun z=>B_70_142_0_0 z _ _ _ _) r).trans full
namespace Sp
noncomputable def zM:MeT:=(([],[],0,()),0,0,())
noncomputable def ent(m:MeT):List EnT:=(rdv (hwr m (acv m))).1
noncomputable def entv(m:MeT):List EnT×Int×Unit:=if mvl m=true then(ent m,0,())else([],1,())
noncomputable def fky(es:List EnT)(key:Int):Option Nat:=fnd (fun j=>(es.getD j dE).1==key) es.length 0
noncomputable def rdk(m:MeT)(key:Int):List Int×Int×Unit:=if mvl m=true then(if key<0\/key>254 then([],2,())else(match fky (ent m) key with|some j=>(((ent m).getD j dE).2.1,0,())|none=>([],7,())))else([],1,())
noncomputable def opn(f:FlT)(a n:Int):MeT×Int×Unit:=if fv f=true then(if plc (f,a,n,())=true then(if acb (f,a,n,())=true then((f,a,n,()),0,())else(zM,7,()))else(zM,2,()))else(zM,1,())
end Sp
theorem half_1{m:MeT}(hv:Sp.fv m.1=true)(hp:Sp.plc m=true):(Sp.hwr m (Sp.acv m)).length<=600/\1<=(Sp.hwr m (Sp.acv m)).length:=by
 have l:=hwr_len hv hp (acv_lt m)
 have b:=pl_b hv hp
 omega
theorem ent_b{m:MeT}(hw:W32f m.1)(h:Sp.mvl m=true):KOK (Sp.ent m)/\(Sp.ent m).length<=600:=by
 obtain⟨hv,hp,_⟩:=mvl_d h
 have l:=half_1 hv hp
 have r:=rdv_b (hw.half (Sp.acv m)) l.1 l.2
 exact⟨r.1,by have:=r.2.1;unfold Sp.ent;omega⟩
theorem ent_pv{m:MeT}(hw:W32f m.1):p_28 m=true/\v_28 m=Sp.entv m:=by
 have v:=mvl_pv hw
 refine pv_28 m ?_
 unfold F_28 Sp.entv
 rw[v.1,v.2,gd_tt]
 dsimp only
 cases hm:Sp.mvl m
 ·rfl
 obtain⟨hv,hp,_⟩:=mvl_d hm
 have a:=acv_pv hw hv hp
 rw[Bool.not_true,cond_f,if_pos rfl,a.1,a.2,gd_tt]
 dsimp only
 have r:=read_pv hw hv hp (acv_lt m)
 rw[r.1,r.2,gd_tt]
 rfl
theorem rdk_pv{m:MeT}(hw:W32f m.1)(key:Int):p_41 m key=true/\v_41 m key=Sp.rdk m key:=by
 have e:=ent_pv hw
 refine pv_41 m key ?_
 unfold F_41 Sp.rdk
 rw[e.1,e.2,gd_tt]
 unfold Sp.entv
 by_cases hm:Sp.mvl m=true
 rotate_left
 ·rw[if_neg hm,if_neg hm];rfl
 rw[if_pos hm,if_pos hm,cond_nff rfl]
 by_cases h0:key<0
 ·rw[cond_dtt h0,if_pos (.inl h0)]
 rw[cond_dff h0]
 by_cases h1:key>254
 ·rw[cond_dtt h1,if_pos (.inr h1)]
 rw[cond_dff h1,if_neg (fun a=>a.elim h0 h1)]
 have b:=ent_b hw hm
 dsimp only
 generalize Sp.ent m=es at *
 have hf:=find0 (fun m i=>L_41_0 m key es es.length i) (n:=es.length) (fun j=>(es.getD j Sp.dE).1==key) (ex:=fun j=>some (.e0 es (j:Int))) (e1:=some .e1) (by omega) (fun m j hj=>by
  show L_41_0 (m+1) key es es.length (j:Int)=bif(es.getD j Sp.dE).1==key then some (.e0 es (j:Int))else L_41_0 m key es es.length ((j+1:Nat):Int)
  rw[L_41_0,S_41_0,cond_dtt (by omega),gd_inB (by omega) (by omega),Int.toNat_natCast,wi64 (by omega) (by omega)]
  push_cast
  rfl) (fun m=>by
  show L_41_0 (m+1) key es es.length (es.length:Int)=_
  rw[L_41_0,S_41_0,cond_dff (by omega)])
 rw[show fnd (fun j=>(es.getD j Sp.dE).1==key) es.length 0=Sp.fky es key from rfl]at hf
 refine(congrArg (fun z=>B_41_0 z _ _) hf).trans ?_
 cases Sp.fky es key with
 |none=>rfl
 |some j=>
  show some ((getD es (toNat (j:Int)) _).2.1,0,())=_
  rw[Int.toNat_natCast]
  rfl
theorem rdk_b{m:MeT}(hw:W32f m.1)(key:Int):W32l (Sp.rdk m key).1/\(Sp.rdk m key).1.length<=24:=by
 have nil:W32l []/\([]:List Int).length<=24:=⟨(fun x hx=>by cases hx),Nat.zero_le _⟩
 unfold Sp.rdk
 by_cases hm:Sp.mvl m=true
 rotate_left
 ·rw[if_neg hm];exact nil
 rw[if_pos hm]
 by_cases h:key<0\/key>254
 ·rw[if_pos h];exact nil
 rw[if_neg h]
 have b:=ent_b hw hm
 cases hf:Sp.fky (Sp.ent m) key with
 |none=>exact nil
 |some j=>
  unfold Sp.fky at hf
  have hj:=(fnd_some hf).2.1
  have hj:j<(Sp.ent m).length:=by omega
  have:=b.1 _ (List.getElem_mem hj)
  show W32l ((Sp.ent m).getD j Sp.dE).2.1/\_
  dsimp only
  rw[getD_at _ hj]
  exact⟨this.2.2,this.2.1⟩
theorem cpy_pv{f:FlT}(h:Sp.fv f=true):p_126 f=true/\v_126 f=(f,()):=by
 have v:=fv_iff.1 h
 refine pv_126 f ?_
 unfold F_126
 rw[gd_room (by omega) (by omega),gd_room (by omega) (by omega)]
set_option maxRecDepth 100000
set_option maxHeartbeats 4000000
theorem orW_len(ws:List Int)(o:Nat)(b:Int)(n:Nat):(Sp.orW ws o b n).length=ws.length:=by simp[Sp.orW]
theorem orW_get(ws:List Int)(o:Nat)(b:Int)(n i:Nat)(h:i<ws.length):(Sp.orW ws o b n).getD i 0=if o<=i/\i<o+n then Sp.orI .u32 (ws.getD i 0) b else ws.getD i 0:=by
 have hl:i<(Sp.orW ws o b n).length:=by rw[orW_len];exact h
 rw[getD_at 0 hl,getD_at 0 h]
 simp[Sp.orW]
theorem orW_zero(ws:List Int)(o:Nat)(b:Int):Sp.orW ws o b 0=ws:=by
 refine list_ext 0 (orW_len ..) (fun j hj=> ?_)
 rw[orW_len]at hj
 rw[orW_get _ _ _ _ _ hj,if_neg (by omega)]
theorem orW_succ(ws:List Int)(o:Nat)(b:Int)(n:Nat)(h:o+n<ws.length):(Sp.orW ws o b n).set (o+n) (Sp.orI .u32 ((Sp.orW ws o b n).getD (o+n) 0) b)=Sp.orW ws o b (n+1):=by
 refine list_ext 0 (by rw[List.length_set,orW_len,orW_len]) (fun j hj=> ?_)
 rw[List.length_set,orW_len]at hj
 rw[getD_set _ _ _ _ _ (by rw[orW_len];exact h),orW_get _ _ _ _ _ hj,orW_get _ _ _ _ _ hj,orW_get _ _ _ _ _ h]
 split
 ·subst j
  rw[if_neg (by omega),if_pos (by omega)]
 ·by_cases hh:o<=j/\j<o+n
  ·rw[if_pos hh,if_pos (by omega)]
  ·rw[if_neg hh,if_neg (by omega)]
theorem ers_ok{f:FlT}{p:PwT}{s:Nat}(h:Sp.fv f=true)(h0:0<=p.1)(h1:p.1<=1099511627776)(h2:s<f.2.1.length):F_127 f s p=some (Sp.ers f s p):=by
 have hv:=fv_iff.1 h
 unfold F_127 Sp.ers Sp.ew
 rw[(chk_pv h h0 h1 (by omega) (by omega)).1,(chk_pv h h0 h1 (by omega) (by omega)).2,gd_tt,cond_nff rfl,gd_inB (by omega) (by omega),Int.toNat_natCast]
 by_cases e:f.2.1.getD s 0=f.2.2.1
 ·rw[cond_ett e,if_pos e]
 rw[cond_eff e,if_neg e,gd_room (by omega) (by omega),gd_room (by omega) (by omega)]
 have hb:=hv.2.2.2.2.2 s h2
 by_cases e0:p.1=0
 ·rw[cond_ett e0,if_pos e0]
 rw[cond_eff e0,if_neg e0,wi64 (n:=(s:Int)+1) (by omega) (by omega),wi64 (n:=(s:Int)*64) (by omega) (by omega),wi64 (n:=((s:Int)+1)*64) (by omega) (by omega),gd_sl3 (by omega) (by omega) (by omega),
  show(((s:Int)+1)*64).toNat-((s:Int)*64).toNat=64 by omega,show((s:Int)*64).toNat=s*64 by omega]
 have hr:∀(b:Int)(p5:FlT)(p6:Int)(p7:PwT)(p8:Int×PUnit)(p9:PwT)(p10:FlT)(p11:PwT)(p12:Int×PUnit)(p13:PwT)(p15:List Int)(p16 p17:Int×PUnit),L_127_148_0_0 4611686018427387904 b (s*64) 64 ((64:Nat):Int) 0 p5 p6 p7 p8 p9 p10 p11 p12 p13 f.1 p15 p16 p17=some (.e0 p5 p6 p7 p8 p9 p10 p11 p12 p13 (Sp.orW f.1 (s*64) b 64) p15 p16 p17):=by
  intro b p5 p6 p7 p8 p9 p10 p11 p12 p13 p15 p16 p17
  have:=run0 (fun m i ws=>L_127_148_0_0 m b (s*64) 64 ((64:Nat):Int) i p5 p6 p7 p8 p9 p10 p11 p12 p13 ws p15 p16 p17) (n:=64) (fun j=>Sp.orW f.1 (s*64) b j) (r:=some (.e0 p5 p6 p7 p8 p9 p10 p11 p12 p13 (Sp.orW f.1 (s*64) b 64) p15 p16 p17)) (by omega) (fun m j hj=>by
   show L_127_148_0_0 (m+1) b (s*64) 64 ((64:Nat):Int) (j:Int) p5 p6 p7 p8 p9 p10 p11 p12 p13 (Sp.orW f.1 (s*64) b j) p15 p16 p17=_
   rw[L_127_148_0_0,S_127_148_0_0,cond_dtt (by omega)]
   simp only[gd_inB (show(0:Int)<=(j:Int) by omega) (show(j:Int)<((64:Nat):Int) by omega),Int.toNat_natCast,Bool.and_true,orW_len,gd_dec (show s*64+j<f.1.length by omega)]
   rw[orW_succ _ _ _ _ (by omega),wi64 (by omega) (by omega)]
   push_cast
   rfl) (fun m=>by
   show L_127_148_0_0 (m+1) b (s*64) 64 ((64:Nat):Int) ((64:Nat):Int) p5 p6 p7 p8 p9 p10 p11 p12 p13 (Sp.orW f.1 (s*64) b 64) p15 p16 p17=_
   rw[L_127_148_0_0,S_127_148_0_0,cond_dff (by omega)])
  rw[orW_zero]at this
  exact this
 simp only[hr,B_127_148_0_0]
 simp only[gd_inB (show(0:Int)<=(s:Int) by omega) (show(s:Int)<((f.2.1.length:Nat):Int) by omega),Int.toNat_natCast,Bool.and_true,gd_dec h2]
 rw[wi64 (n:=f.2.1.getD s 0+1) (by omega) (by omega)]
 by_cases e1:p.1=1
 ·rw[cond_ett e1,if_pos e1]
 rw[cond_eff e1,if_neg e1,wi64 (by omega) (by omega),gd_sl3 (by omega) (by omega) (by omega)]
theorem ers_pv{f:FlT}{p:PwT}{s:Nat}(h:Sp.fv f=true)(h0:0<=p.1)(h1:p.1<=1099511627776)(h2:s<f.2.1.length):p_127 f s p=true/\v_127 f s p=Sp.ers f s p:=pv_127 f s p (ers_ok h h0 h1 h2)
abbrev StT:=Bool×Int×Int×Unit
abbrev OuM:=MeT×PwT×Int×Unit
namespace Sp
noncomputable def pok(p:PwT):Bool:=decide (0<=p.1)&&decide (p.1<=1099511627776)
noncomputable def dop(s:RsT)(x:StT):RsT:=if x.1=true then ers s.1 x.2.1.toNat s.2.1 else prg s.1 x.2.1.toNat x.2.2.1 s.2.1
noncomputable def dol:List StT->RsT->RsT
 |[],s=>s
 |x::l,s=>if s.2.2.1=0 then dol l (dop s x)else s
noncomputable def dov(m:MeT)(l:List StT)(p:PwT):OuM:=if(dol l (m.1,p,0,())).2.2.1=0\/(dol l (m.1,p,0,())).2.2.1=18 then(((dol l (m.1,p,0,())).1,m.2),(dol l (m.1,p,0,())).2.1,(dol l (m.1,p,0,())).2.2.1,())else(zM,(0,0,()),(dol l (m.1,p,0,())).2.2.1,())
noncomputable def erl:Nat->Int->List StT
 |0,_=>[]
 |n+1,a=>(true,a,0,())::erl n (a+1)
noncomputable def wor(f:FlT):Nat->Nat->Bool
 |0,_=>false
 |n+1,a=>decide (f.2.1.getD a 0>=f.2.2.1)||wor f n (a+1)
noncomputable def pgl:List Int->Int->List StT
 |[],_=>[]
 |x::l,a=>(false,a,x,())::pgl l (a+1)
noncomputable def fmv(f:FlT)(a n:Int)(p:PwT):OuM:=if fv f=true/\pok p=true then(if plc (f,a,n,())=true then(if wor f n.toNat a.toNat=true then(zM,(0,0,()),19,())else dov (f,a,n,()) (erl n.toNat a++pgl [prw 1] (64*a)) p)else(zM,(0,0,()),2,()))else(zM,(0,0,()),1,())
end Sp
theorem dol_stop(l:List StT){s:RsT}(h:s.2.2.1≠0):Sp.dol l s=s:=by
 cases l with
 |nil=>rfl
 |cons x l=>rw[Sp.dol,if_neg h]
theorem bv_rng(b:BitVec 32):0<=wrap .u32 ((b.toNat:Nat):Int)/\wrap .u32 ((b.toNat:Nat):Int)<4294967296:=by
 have:=b.isLt
 rw[u32_wrap_nat b.isLt];omega
theorem W32f_orW{f:FlT}(h:W32f f)(o:Nat)(b:Int)(n:Nat)(r:List Int×Int×Unit):W32f (Sp.orW f.1 o b n,r):=by
 intro x hx
 obtain⟨i,hi,e⟩:=List.mem_iff_getElem.1 hx
 have hl:i<f.1.length:=by rw[show(Sp.orW f.1 o b n,r).1=Sp.orW f.1 o b n from rfl,orW_len]at hi;exact hi
 have g:=orW_get f.1 o b n i hl
 rw[getD_at 0 (by rw[orW_len];exact hl)]at g
 have e:(Sp.orW f.1 o b n)[i]'(by rw[orW_len];exact hl)=x:=e
 rw[e]at g
 rw[g]
 split
 ·exact bv_rng _
 ·exact h.at i
theorem fv_ew{f:FlT}{s:Nat}(b:Int)(h:Sp.fv f=true)(h1:f.2.1.getD s 0≠f.2.2.1)(h2:s<f.2.1.length):Sp.fv (Sp.ew f s b)=true:=by
 have hv:=fv_iff.1 h
 unfold Sp.ew
 refine fv_iff.2 ⟨?_,?_,?_,hv.2.2.2.1,hv.2.2.2.2.1,fun j hj=> ?_⟩
 ·simp only[List.length_set];omega
 ·simp only[List.length_set];omega
 ·simp only[List.length_set,orW_len];omega
 ·simp only[List.length_set]at hj
  have a:=hv.2.2.2.2.2 j hj
  have c:=hv.2.2.2.2.2 s h2
  dsimp only
  rw[getD_set _ _ _ _ _ h2]
  split
  ·omega
  ·exact a
structure SG(f0:FlT)(s:RsT):Prop where
 v:Sp.fv s.1=true
 l:s.1.1.length=f0.1.length
 n:s.1.2.1.length=f0.2.1.length
 w:W32f s.1
 p0:0<=s.2.1.1
 p1:s.2.1.1<=1099511627776
 e:s.2.2.1=0\/s.2.2.1=18
noncomputable def SV(f0:FlT)(x:StT):Prop:=0<=x.2.1/\(x.1=true->x.2.1<f0.2.1.length)/\(x.1=false->x.2.1<f0.1.length)
theorem fv_pw(f:FlT)(k:Nat)(w b:Int):Sp.fv (Sp.pw f k w b)=Sp.fv f:=by
 unfold Sp.pw Sp.fv
 dsimp only
 rw[List.length_set]
 rfl
theorem prg_sg{f0:FlT}{s:RsT}(h:SG f0 s)(k:Nat)(x:Int):SG f0 (Sp.prg s.1 k x s.2.1):=by
 have hw:∀b,W32f (Sp.pw s.1 k x b):=fun b y hy=>by
  rcases List.mem_or_eq_of_mem_set hy with h1|rfl
  ·exact h.w y h1
  ·exact bv_rng _
 have hl:∀b,(Sp.pw s.1 k x b).1.length=f0.1.length:=fun b=>by unfold Sp.pw;dsimp only;rw[List.length_set];exact h.l
 have p0:=h.p0
 have p1:=h.p1
 unfold Sp.prg
 split
 ·exact⟨h.v,h.l,h.n,h.w,h.p0,h.p1,.inr rfl⟩
 split
 ·exact⟨by rw[fv_pw];exact h.v,hl _,h.n,hw _,Int.le_refl _,by show(0:Int)<=_;decide,.inr rfl⟩
 ·refine⟨by rw[fv_pw];exact h.v,hl _,h.n,hw _,?_,?_,.inl rfl⟩
  ·show 0<=s.2.1.1-1;omega
  ·show s.2.1.1-1<=_;omega
theorem ers_sg{f0:FlT}{s:RsT}(h:SG f0 s){k:Nat}(hk:k<f0.2.1.length):SG f0 (Sp.ers s.1 k s.2.1)\/(Sp.ers s.1 k s.2.1).2.2.1=19:=by
 have p0:=h.p0
 have p1:=h.p1
 have hkl:k<s.1.2.1.length:=by rw[h.n];exact hk
 by_cases hn:s.1.2.1.getD k 0=s.1.2.2.1
 ·right
  unfold Sp.ers
  rw[if_pos hn]
 left
 have he:∀b,Sp.fv (Sp.ew s.1 k b)=true:=fun b=>fv_ew b h.v hn hkl
 have hl1:∀b,(Sp.ew s.1 k b).1.length=f0.1.length:=fun b=>by unfold Sp.ew;dsimp only;rw[orW_len];exact h.l
 have hw1:∀b,W32f (Sp.ew s.1 k b):=fun b=>W32f_orW h.w _ _ _ _
 have hn1:∀b,(Sp.ew s.1 k b).2.1.length=f0.2.1.length:=fun b=>by unfold Sp.ew;dsimp only;rw[List.length_set];exact h.n
 unfold Sp.ers
 rw[if_neg hn]
 split
 ·exact⟨h.v,h.l,h.n,h.w,p0,p1,.inr rfl⟩
 split
 ·exact⟨he _,hl1 _,hn1 _,hw1 _,Int.le_refl _,(by show(0:Int)<=_;decide),.inr rfl⟩
 ·exact⟨he _,hl1 _,hn1 _,hw1 _,(by show 0<=s.2.1.1-1;omega),(by show s.2.1.1-1<=_;omega),.inl rfl⟩
theorem dop_sg{f0:FlT}{s:RsT}(h:SG f0 s){x:StT}(hx:SV f0 x):SG f0 (Sp.dop s x)\/(Sp.dop s x).2.2.1=19:=by
 unfold Sp.dop
 cases hb:x.1
 ·rw[if_neg Bool.false_ne_true]
  exact .inl (prg_sg h _ _)
 ·rw[if_pos rfl]
  have:=hx.2.1 hb
  have:=hx.1
  exact ers_sg h (by omega)
theorem drop_s{l:List StT}{j:Nat}(d:StT)(h:j<l.length):l.drop j=l.getD j d::l.drop (j+1):=by
 rw[List.drop_eq_getElem_cons h,List.getD_eq_getElem?_getD,List.getElem?_eq_getElem h];rfl
theorem dv_l{f0:FlT}(l:List StT)(hv:∀x∈l,SV f0 x)(hl:l.length<=1000000)(hf:f0.1.length<=100000)(hf2:f0.2.1.length<=1000)(r:Int×Int×Unit)(p5:Int×Unit)(p6:PwT)(p7 p8:List Int)(p9:PwT):∀(d m j:Nat)(s:RsT),SG f0 s->s.2.2.1=0->j+d=l.length->d<m->
 L_94_0 m l l.length j (s.1,r) s.2.1 p5 p6 p7 p8 p9=some (if(Sp.dol (l.drop j) s).2.2.1=0 then .e2 ((Sp.dol (l.drop j) s).1,r) (Sp.dol (l.drop j) s).2.1 p5 p6 p7 p8 p9 else if(Sp.dol (l.drop j) s).2.2.1=18 then .e0 18 ((Sp.dol (l.drop j) s).1,r) (Sp.dol (l.drop j) s).2.1 else .e1 (Sp.dol (l.drop j) s).2.2.1):=by
 intro d
 induction d with
 |zero=>
  intro m j s h e hj hm
  obtain⟨m,rfl⟩:∃k,m=k+1:=⟨m-1,by omega⟩
  rw[L_94_0,S_94_0,cond_dff (by omega),List.drop_of_length_le (by omega),Sp.dol,if_pos e]
 |succ d ih=>
  intro m j s h e hj hm
  obtain⟨m,rfl⟩:∃k,m=k+1:=⟨m-1,by omega⟩
  have hjl:j<l.length:=by omega
  have hx:=hv _ (List.getElem_mem hjl)
  rw[<-getD_at Zd3 hjl]at hx
  have fl:=h.l
  have fn:=h.n
  rw[L_94_0,S_94_0,cond_dtt (by omega),gd_inB (by omega) (by omega),Int.toNat_natCast,drop_s Zd3 hjl,Sp.dol,if_pos e]
  generalize getD l j Zd3=x at *
  have hg:=dop_sg h hx
  have x0:=hx.1
  have fin:∀t:RsT,t=Sp.dop s x->B_94_1 (J_94_1 t.2.2.1 l l.length j (t.1,r) t.2.1 p5 p6 p7 p8 p9) (fun y30 y31 y32=>some (.e0 y30 y31 y32)) (fun y33=>some (.e1 y33)) (fun y34 y35 y36 y37 y38 y39 y40 y41 y42 y43 y44=>L_94_0 m y35 y36 (wrap .i64 (y37+1)) y38 y39 y40 y41 y42 y43 y44)=some (if(Sp.dol (l.drop (j+1)) (Sp.dop s x)).2.2.1=0 then .e2 ((Sp.dol (l.drop (j+1)) (Sp.dop s x)).1,r) (Sp.dol (l.drop (j+1)) (Sp.dop s x)).2.1 p5 p6 p7 p8 p9 else if(Sp.dol (l.drop (j+1)) (Sp.dop s x)).2.2.1=18 then .e0 18 ((Sp.dol (l.drop (j+1)) (Sp.dop s x)).1,r) (Sp.dol (l.drop (j+1)) (Sp.dop s x)).2.1 else .e1 (Sp.dol (l.drop (j+1)) (Sp.dop s x)).2.2.1):=by
   rintro t rfl
   unfold J_94_1 S_94_1
   by_cases e18:(Sp.dop s x).2.2.1=18
   ·rw[cond_ett e18,dol_stop _ (by rw[e18];decide),if_neg (by rw[e18];decide),if_pos e18,e18]
    rfl
   rw[cond_eff e18]
   by_cases e0:(Sp.dop s x).2.2.1=0
   ·rw[cond_nff e0]
    unfold B_94_1
    dsimp only
    rw[wi64 (by omega) (by omega),show(j:Int)+1=((j+1:Nat):Int) by push_cast;rfl]
    rcases hg with g|g
    ·exact ih m (j+1) _ g e0 (by omega) (by omega)
    ·rw[e0]at g;cases g
   ·rw[cond_ntt e0,dol_stop _ e0,if_neg e0,if_neg e18]
    rfl
  cases hb:x.1 with
  |true=>
   have:=hx.2.1 hb
   have pv:=ers_pv (f:=s.1) (p:=s.2.1) (s:=x.2.1.toNat) h.v h.p0 h.p1 (by omega)
   rw[show((x.2.1.toNat:Nat):Int)=x.2.1 by omega]at pv
   rw[cond_t,pv.1,pv.2,gd_tt]
   exact fin _ (by unfold Sp.dop;rw[if_pos hb])
  |false=>
   have:=hx.2.2 hb
   have pv:=prg_pv (f:=s.1) (p:=s.2.1) (k:=x.2.1.toNat) (w:=x.2.2.1) h.v h.p0 h.p1 (by omega)
   rw[show((x.2.1.toNat:Nat):Int)=x.2.1 by omega]at pv
   rw[cond_f,pv.1,pv.2,gd_tt]
   exact fin _ (by unfold Sp.dop;rw[if_neg (by rw[hb];exact Bool.false_ne_true)])
theorem SG.init{f:FlT}{p:PwT}(h:Sp.fv f=true)(hw:W32f f)(h0:0<=p.1)(h1:p.1<=1099511627776):SG f (f,p,0,()):=⟨h,rfl,rfl,hw,h0,h1,.inl rfl⟩
theorem do_pv{m:MeT}{l:List StT}{p:PwT}(hv:Sp.fv m.1=true)(hw:W32f m.1)(h0:0<=p.1)(h1:p.1<=1099511627776)(hs:∀x∈l,SV m.1 x)(hl:l.length<=1000000):p_94 m l p=true/\v_94 m l p=Sp.dov m l p:=by
 have c:=cpy_pv hv
 have v:=fv_iff.1 hv
 refine pv_94 m l p ?_
 unfold F_94 Sp.dov
 rw[c.1,c.2,gd_tt]
 have t:=dv_l (f0:=m.1) l hs hl (by omega) (by omega) m.2 (0,()) (0,0,()) [] [] (0,0,()) l.length 4611686018427387904 0 _ (SG.init hv hw h0 h1) rfl (by omega) (by omega)
 rw[List.drop_zero]at t
 refine(congrArg (fun z=>B_94_0 z _ _ _) t).trans ?_
 by_cases e0:(Sp.dol l (m.1,p,0,())).2.2.1=0
 ·rw[if_pos e0,if_pos (.inl e0),e0]
  rfl
 rw[if_neg e0]
 by_cases e1:(Sp.dol l (m.1,p,0,())).2.2.1=18
 ·rw[if_pos e1,if_pos (.inr e1),e1]
  rfl
 ·rw[if_neg e1,if_neg (fun a=>a.elim e0 e1)]
  rfl
theorem erl_len:∀(n:Nat)(a:Int),(Sp.erl n a).length=n
 |0,_=>rfl
 |n+1,a=>by rw[Sp.erl,List.length_cons,erl_len n]
theorem erl_snoc:∀(n:Nat)(a:Int),Sp.erl (n+1) a=Sp.erl n a++[(true,a+n,0,())]
 |0,a=>by simp[Sp.erl]
 |n+1,a=>by
  rw[Sp.erl,erl_snoc n (a+1),Sp.erl,List.cons_append]
  congr 3
  congr 2
  omega
theorem erl_sv{f0:FlT}:∀(n:Nat)(a:Int),0<=a->a+n<=f0.2.1.length->∀x∈Sp.erl n a,SV f0 x
 |0,a,_,_=>by simp[Sp.erl]
 |n+1,a,h0,h1=>by
  intro x hx
  rw[Sp.erl]at hx
  rcases List.mem_cons.1 hx with rfl|hx
  ·exact⟨h0,(fun _=>by show a<_;omega),(fun h=>by cases h)⟩
  ·exact erl_sv n (a+1) (by omega) (by omega) x hx
theorem pgl_sv{f0:FlT}:∀(l:List Int)(a:Int),0<=a->a+l.length<=f0.1.length->∀x∈Sp.pgl l a,SV f0 x
 |[],a,_,_=>by simp[Sp.pgl]
 |w::l,a,h0,h1=>by
  intro x hx
  rw[List.length_cons]at h1
  rw[Sp.pgl]at hx
  rcases List.mem_cons.1 hx with rfl|hx
  ·exact⟨h0,(fun h=>by cases h),(fun _=>by show a<_;omega)⟩
  ·exact pgl_sv l (a+1) (by omega) (by omega) x hx
theorem pgl_len:∀(l:List Int)(a:Int),(Sp.pgl l a).length=l.length
 |[],_=>rfl
 |x::l,a=>by rw[Sp.pgl,List.length_cons,List.length_cons,pgl_len l]
theorem pgl_snoc:∀(l:List Int)(x a:Int),Sp.pgl (l++[x]) a=Sp.pgl l a++[(false,a+l.length,x,())]
 |[],x,a=>by simp[Sp.pgl]
 |y::l,x,a=>by
  rw[List.cons_append,Sp.pgl,pgl_snoc l x (a+1),Sp.pgl,List.cons_append]
  congr 3
  congr 2
  rw[List.length_cons];omega
theorem erl_l{m:MeT}(hw:m.1.2.1.length<=1000)(b:Nat)(hb:b<=m.1.2.1.length):∀(d q i:Nat)(a:Nat)(acc:Nat),a+acc=i->i+d=b->d<q->L_130_0 q b i m (Sp.erl acc a)=some (if Sp.wor m.1 d i=true then .e0 else .e1 (Sp.erl (acc+d) a)):=by
 intro d
 induction d with
 |zero=>
  intro q i a acc h1 h2 h3
  obtain⟨q,rfl⟩:∃k,q=k+1:=⟨q-1,by omega⟩
  rw[L_130_0,S_130_0,cond_dff (by omega),Sp.wor,if_neg Bool.false_ne_true]
  rfl
 |succ d ih=>
  intro q i a acc h1 h2 h3
  obtain⟨q,rfl⟩:∃k,q=k+1:=⟨q-1,by omega⟩
  rw[L_130_0,S_130_0,cond_dtt (by omega),gd_inB (by omega) (by omega),Int.toNat_natCast,Sp.wor]
  by_cases c:m.1.2.1.getD i 0>=m.1.2.2.1
  ·rw[cond_dtt c,decide_eq_true c,Bool.true_or,if_pos rfl]
  ·rw[cond_dff c,decide_eq_false c,Bool.false_or,erl_len,gd_room (by omega) (by omega),wi64 (by omega) (by omega),show(i:Int)+1=((i+1:Nat):Int) by push_cast;rfl]
   have:=ih q (i+1) a (acc+1) (by omega) (by omega) (by omega)
   rw[erl_snoc,show(a:Int)+(acc:Int)=(i:Int) by omega]at this
   rw[this,show acc+1+d=acc+(d+1) by omega]
theorem erl_pv{m:MeT}(hw:m.1.2.1.length<=1000)(a n:Nat)(hb:a+n<=m.1.2.1.length):p_130 m (a:Int) ((a+n:Nat):Int)=true/\v_130 m (a:Int) ((a+n:Nat):Int)=(if Sp.wor m.1 n a=true then([],false,())else(Sp.erl n a,true,())):=by
 refine pv_130 _ _ _ ?_
 unfold F_130
 have t:=erl_l hw (a+n) hb n 4611686018427387904 a a 0 (by omega) rfl (by omega)
 refine(congrArg (fun z=>B_130_0 z _ _) t).trans ?_
 cases Sp.wor m.1 n a
 ·rw[if_neg Bool.false_ne_true,if_neg Bool.false_ne_true,Nat.zero_add];rfl
 ·rfl
theorem pgl_pv{l:List Int}(hl:l.length<=100000){a:Int}(h0:0<=a)(h1:a<=1000000):p_95 a l=true/\v_95 a l=(Sp.pgl l a,()):=by
 refine pv_95 a l ?_
 unfold F_95
 have t:=run0 (fun m i acc=>L_95_0 m a l l.length i acc) (n:=l.length) (fun j=>Sp.pgl (l.take j) a) (r:=some (.e0 (Sp.pgl l a))) (by omega) (fun m j hj=>by
  have hlen:(Sp.pgl (l.take j) a).length=j:=by rw[pgl_len,List.length_take];omega
  show L_95_0 (m+1) a l l.length (j:Int) (Sp.pgl (l.take j) a)=L_95_0 m a l l.length ((j+1:Nat):Int) (Sp.pgl (l.take (j+1)) a)
  rw[L_95_0,S_95_0,cond_dtt (by omega),gd_inB (by omega) (by omega),Int.toNat_natCast,hlen,gd_room (by omega) (by omega),wi64 (n:=(j:Int)+1) (by omega) (by omega),wi64 (n:=a+(j:Int)) (by omega) (by omega),List.take_succ_eq_append_getElem hj,pgl_snoc,List.length_take,Nat.min_eq_left (by omega),getD_at 0 hj]
  rfl) (fun m=>by
  show L_95_0 (m+1) a l l.length (l.length:Int) (Sp.pgl (l.take l.length) a)=_
  rw[L_95_0,S_95_0,cond_dff (by omega),List.take_length])
 exact(congrArg (fun z=>B_95_0 z _) t).trans rfl
theorem pow_pv(p:PwT):p_92 p=true/\v_92 p=(Sp.pok p,()):=by
 refine pv_92 p ?_
 unfold F_92 Sp.pok
 by_cases h:p.1>=0
 ·rw[cond_dtt h,decide_eq_true (p:=0<=p.1) h,Bool.true_and]
 ·rw[cond_dff h,decide_eq_false (p:=0<=p.1) h,Bool.false_and]
set_option maxRecDepth 100000
set_option maxHeartbeats 4000000
set_option linter.unusedVariables false
noncomputable section
abbrev A_153:List Ty:=[(.pair (.int .i64) (.pair (.int .u32) .unit))]
abbrev R_153:List Ty:=[(.int .u32),(.pair (.int .i64) (.pair (.int .u32) .unit)),(.int .i64)]
noncomputable def sm_153:Nat->Option Summ:=smL []
noncomputable def T_153_0:PS:=⟨23,[(1,.kc (.ptr 0 [])),(3,.kc (.ptr 1 [])),(5,.hv (.int .u32)),(6,.hv (.int .i64))],[.mem (.hv (.pair (.int .i64) (.pair (.int .u32) .unit))),.mem (.hv (.pair (.int .i64) (.pair (.int .u32) .unit)))],0⟩
inductive Sp.E_153_0 where
 |e0 (p1:Int) (p2:Int×Int×Unit)
 |e1 (p0 p1:Int) (p2:Int×Int×Unit)
noncomputable def Sp.B_153_0{R:Type}(r:Option E_153_0)(k0:Int->(Int×Int×Unit)->Option R)(k1:Int->Int->(Int×Int×Unit)->Option R):Option R:=match r with
 |none=>none
 |some (.e0 p1 p2)=>k0 p1 p2
 |some (.e1 p0 p1 p2)=>k1 p0 p1 p2
noncomputable def Y_153_0{R:Type}(k:Ex->St->Option R):E_153_0->Option R
 | .e0 p1 p2=>k Ex.ret (sx 23 [(2,CV.int u32 0),(3,CV.ptr 0 []),(4,CV.int i64 p1)] [Blk.mem (CV.pure (Ty.pair (Ty.int i64) (Ty.pair (Ty.int u32) Ty.unit)) ((if wrap i64 (p2.1-1)>0 then wrap i64 (p2.1-1)else 0,p2.2):(Int×(Int×Unit))))])
 | .e1 p0 p1 p2=>k Ex.ret (sx 23 [(2,CV.int u32 p0),(3,CV.ptr 0 []),(4,CV.int i64 p1)] [Blk.mem (CV.pure (Ty.pair (Ty.int i64) (Ty.pair (Ty.int u32) Ty.unit)) ((if wrap i64 (p2.1-1)>0 then wrap i64 (p2.1-1)else 0,p2.2):(Int×(Int×Unit))))])
noncomputable def Sp.S_153_0{R:Type}(k:E_153_0->Option R)(p0 p1:Int)(p2 p3:Int×Int×Unit):Option R:=
 bif decide (p2.1<1)then k (E_153_0.e0 p1 p2)else k (E_153_0.e1 p0 p1 p2)
noncomputable def Sp.J_153_0(p0 p1:Int)(p2 p3:Int×Int×Unit):Option E_153_0:=S_153_0 some p0 p1 p2 p3
noncomputable def O_153_0{R:Type}:Orc R:=orL T_153_0 (fun a=>J_153_0 a.1 a.2.1 a.2.2.1 a.2.2.2.1) Y_153_0
noncomputable def F_153(a0:(Int×(Int×Unit))):Option (Int×(Int×(Int×Unit))×Int×Unit) :=
 bif decide (a0.1<2)then B_153_0 (J_153_0 (a0.2.1) 18 a0 (0,0,PUnit.unit)) (fun y12 y13=>some (0,(if wrap i64 (y13.1-1)>0 then wrap i64 (y13.1-1)else 0,y13.2),y12,PUnit.unit)) fun y14 y15 y16=>some (y14,(if wrap i64 (y16.1-1)>0 then wrap i64 (y16.1-1)else 0,y16.2),y15,PUnit.unit)else B_153_0 (J_153_0 4294967295 0 a0 (0,0,PUnit.unit)) (fun y17 y18=>some (0,(if wrap i64 (y18.1-1)>0 then wrap i64 (y18.1-1)else 0,y18.2),y17,PUnit.unit)) fun y19 y20 y21=>some (y19,(if wrap i64 (y21.1-1)>0 then wrap i64 (y21.1-1)else 0,y21.2),y20,PUnit.unit)
noncomputable def Sp.p_153(a0:(Int×(Int×Unit))):Bool:=(F_153 a0).isSome
noncomputable def Sp.v_153(a0:(Int×(Int×Unit))):Int×(Int×(Int×Unit))×Int×Unit:=(F_153 a0).getD (dfH R_153)
noncomputable def s_153:Summ:=shN A_153 R_153 (fun x=>p_153 x.1) (fun x=>v_153 x.1)
end
noncomputable section
abbrev Zt140_0:Type:=List Int×List Int×Int×Unit
abbrev Zt140_1:Type:=Int×Int×Unit
abbrev Zy140_2:Ty:=(.pair (.slice (.int .u32)) (.pair (.slice (.int .i64)) (.pair (.int .i64) .unit)))
abbrev Zy140_3:Ty:=(.pair (.int .i64) (.pair (.int .u32) .unit))
abbrev A_140:List Ty:=[(.pair (.slice (.int .u32)) (.pair (.slice (.int .i64)) (.pair (.int .i64) .unit))),(.int .i64),(.int .u32),(.pair (.int .i64) (.pair (.int .u32) .unit))]
abbrev R_140:List Ty:=[(.pair (.slice (.int .u32)) (.pair (.slice (.int .i64)) (.pair (.int .i64) .unit))),(.pair (.int .i64) (.pair (.int .u32) .unit)),(.int .i64)]
noncomputable def sm_140:Nat->Option Summ:=smL [(27,s_27),(62,s_62),(153,s_153)]
noncomputable def T_140_154_0_0:PS:=⟨44,[(1,.kc (.ptr 5 [])),(2,.kc (.ptr 6 [])),(3,.kc (.ptr 9 [])),(4,.hv (.int .i64))],[.mem (.hv Zy140_2),.mem (.hv Zy140_3),.mem (.pr (.kc (.nil 51 (.int .u32))) (.pr (.kc (.nil 3 (.int .i64))) (.hv (.pair (.int .i64) .unit)))),.mem (.hv Zy140_3),.mem (.hv Zy140_3),.mem (.hv Zy140_2),.mem (.pr (.kc (.whole 7)) (.pr (.kc (.whole 8)) (.hv (.pair (.int .i64) .unit)))),.vec 51 (.int .u32),.vec 3 (.int .i64),.mem (.pr (.kc (.whole 10)) (.pr (.kc (.whole 11)) (.hv (.pair (.int .i64) .unit)))),.vec 51 (.int .u32),.vec 3 (.int .i64)],5⟩
inductive Sp.E_140_154_0_0 where
 |e0 (p1:Zt140_0) (p2:Zt140_1) (p3:Int×Unit) (p4 p5:Zt140_1) (p6:Zt140_0) (p7:Int×Unit) (p8 p9:List Int) (p10:Int×Unit) (p11 p12:List Int)
noncomputable def Sp.B_140_154_0_0{R:Type}(r:Option E_140_154_0_0)(k0:Zt140_0->Zt140_1->(Int×Unit)->Zt140_1->Zt140_1->Zt140_0->(Int×Unit)->List Int->List Int->(Int×Unit)->List Int->List Int->Option R):Option R:=match r with
 |none=>none
 |some (.e0 p1 p2 p3 p4 p5 p6 p7 p8 p9 p10 p11 p12)=>k0 p1 p2 p3 p4 p5 p6 p7 p8 p9 p10 p11 p12
noncomputable def Y_140_154_0_0{R:Type}(k:Ex->St->Option R):E_140_154_0_0->Option R
 | .e0 p1 p2 p3 p4 p5 p6 p7 p8 p9 p10 p11 p12=>k (Ex.exit 0) (sx 44 [(1,CV.ptr 5 []),(2,CV.ptr 6 []),(3,CV.ptr 9 [])] [Blk.mem (CV.pure (Ty.pair (Ty.slice (Ty.int u32)) (Ty.pair (Ty.slice (Ty.int i64)) (Ty.pair (Ty.int i64) Ty.unit))) p1),Blk.mem (CV.pure (Ty.pair (Ty.int i64) (Ty.pair (Ty.int u32) Ty.unit)) p2),Blk.mem (CV.pair (CV.nil 51 (Ty.int u32)) (CV.pair (CV.nil 3 (Ty.int i64)) (CV.pure (Ty.pair (Ty.int i64) Ty.unit) p3))),Blk.mem (CV.pure (Ty.pair (Ty.int i64) (Ty.pair (Ty.int u32) Ty.unit)) p4),Blk.mem (CV.pure (Ty.pair (Ty.int i64) (Ty.pair (Ty.int u32) Ty.unit)) p5),Blk.mem (CV.pure (Ty.pair (Ty.slice (Ty.int u32)) (Ty.pair (Ty.slice (Ty.int i64)) (Ty.pair (Ty.int i64) Ty.unit))) p6),Blk.mem (CV.pair (CV.whole 7) (CV.pair (CV.whole 8) (CV.pure (Ty.pair (Ty.int i64) Ty.unit) p7))),Blk.vec 51 (Ty.int u32) p8,Blk.vec 3 (Ty.int i64) p9,Blk.mem (CV.pair (CV.whole 10) (CV.pair (CV.whole 11) (CV.pure (Ty.pair (Ty.int i64) Ty.unit) p10))),Blk.vec 51 (Ty.int u32) p11,Blk.vec 3 (Ty.int i64) p12] 5)
noncomputable def Sp.S_140_154_0_0{R:Type}(K:Int->(List Int×List Int×Int×Unit)->(Int×Int×Unit)->(Int×Unit)->(Int×Int×Unit)->(Int×Int×Unit)->(List Int×List Int×Int×Unit)->(Int×Unit)->List Int->List Int->(Int×Unit)->List Int->List Int->Option R)(k:E_140_154_0_0->Option R)(p0:Int)(p1:List Int×List Int×Int×Unit)(p2:Int×Int×Unit)(p3:Int×Unit)(p4 p5:Int×Int×Unit)(p6:List Int×List Int×Int×Unit)(p7:Int×Unit)(p8 p9:List Int)(p10:Int×Unit)(p11 p12:List Int):Option R:=
 bif decide (p0<(↑(length (p6.1)):Int))then gd (inB p0 (length (p6.1))) (gd (room (length p11+1) 4) (K (wrap i64 (p0+1)) p1 p2 p3 p4 p5 p6 p7 p8 p9 p10 (p11++[getD (p6.1) (toNat p0) 0]) p12))else k (E_140_154_0_0.e0 p1 p2 p3 p4 p5 p6 p7 p8 p9 p10 p11 p12)
noncomputable def Sp.L_140_154_0_0:Nat->Int->(List Int×List Int×Int×Unit)->(Int×Int×Unit)->(Int×Unit)->(Int×Int×Unit)->(Int×Int×Unit)->(List Int×List Int×Int×Unit)->(Int×Unit)->List Int->List Int->(Int×Unit)->List Int->List Int->Option E_140_154_0_0
 |0,_,_,_,_,_,_,_,_,_,_,_,_,_=>none
 |m+1,p0,p1,p2,p3,p4,p5,p6,p7,p8,p9,p10,p11,p12=>S_140_154_0_0 (L_140_154_0_0 m) some p0 p1 p2 p3 p4 p5 p6 p7 p8 p9 p10 p11 p12
noncomputable def l_140_154_0_0(m:Nat)(a:T_140_154_0_0.E):Option E_140_154_0_0:=L_140_154_0_0 m a.1 a.2.1 a.2.2.1 a.2.2.2.1 a.2.2.2.2.1 a.2.2.2.2.2.1 a.2.2.2.2.2.2.1 a.2.2.2.2.2.2.2.1 a.2.2.2.2.2.2.2.2.1 a.2.2.2.2.2.2.2.2.2.1 a.2.2.2.2.2.2.2.2.2.2.1 a.2.2.2.2.2.2.2.2.2.2.2.1 a.2.2.2.2.2.2.2.2.2.2.2.2.1
noncomputable def O_140_154_0_0{R:Type}:Orc R:=orL T_140_154_0_0 (l_140_154_0_0 FU) Y_140_154_0_0
noncomputable def T_140_154_1_0:PS:=⟨44,[(1,.kc (.ptr 5 [])),(2,.kc (.ptr 6 [])),(3,.kc (.ptr 9 [])),(5,.hv (.int .i64))],[.mem (.hv Zy140_2),.mem (.hv Zy140_3),.mem (.pr (.kc (.nil 51 (.int .u32))) (.pr (.kc (.nil 3 (.int .i64))) (.hv (.pair (.int .i64) .unit)))),.mem (.hv Zy140_3),.mem (.hv Zy140_3),.mem (.hv Zy140_2),.mem (.pr (.kc (.whole 7)) (.pr (.kc (.whole 8)) (.hv (.pair (.int .i64) .unit)))),.vec 51 (.int .u32),.vec 3 (.int .i64),.mem (.pr (.kc (.whole 10)) (.pr (.kc (.whole 11)) (.hv (.pair (.int .i64) .unit)))),.vec 51 (.int .u32),.vec 3 (.int .i64)],5⟩
inductive Sp.E_140_154_1_0 where
 |e0 (p1:Zt140_0) (p2:Zt140_1) (p3:Int×Unit) (p4 p5:Zt140_1) (p7:Int×Unit) (p8 p9:List Int) (p10:Int×Unit) (p11 p12:List Int)
noncomputable def Sp.B_140_154_1_0{R:Type}(r:Option E_140_154_1_0)(k0:Zt140_0->Zt140_1->(Int×Unit)->Zt140_1->Zt140_1->(Int×Unit)->List Int->List Int->(Int×Unit)->List Int->List Int->Option R):Option R:=match r with
 |none=>none
 |some (.e0 p1 p2 p3 p4 p5 p7 p8 p9 p10 p11 p12)=>k0 p1 p2 p3 p4 p5 p7 p8 p9 p10 p11 p12
noncomputable def Y_140_154_1_0{R:Type}(k:Ex->St->Option R):E_140_154_1_0->Option R
 | .e0 p1 p2 p3 p4 p5 p7 p8 p9 p10 p11 p12=>k (Ex.exit 2) (sx 44 [(2,CV.ptr 5 []),(3,CV.ptr 8 [])] [Blk.mem (CV.pure (Ty.pair (Ty.slice (Ty.int u32)) (Ty.pair (Ty.slice (Ty.int i64)) (Ty.pair (Ty.int i64) Ty.unit))) p1),Blk.mem (CV.pure (Ty.pair (Ty.int i64) (Ty.pair (Ty.int u32) Ty.unit)) p2),Blk.mem (CV.pair (CV.nil 51 (Ty.int u32)) (CV.pair (CV.nil 3 (Ty.int i64)) (CV.pure (Ty.pair (Ty.int i64) Ty.unit) p3))),Blk.mem (CV.pure (Ty.pair (Ty.int i64) (Ty.pair (Ty.int u32) Ty.unit)) p4),Blk.mem (CV.pure (Ty.pair (Ty.int i64) (Ty.pair (Ty.int u32) Ty.unit)) p5),Blk.mem (CV.pair (CV.whole 6) (CV.pair (CV.whole 7) (CV.pure (Ty.pair (Ty.int i64) Ty.unit) p7))),Blk.vec 51 (Ty.int u32) p8,Blk.vec 3 (Ty.int i64) p9,Blk.mem (CV.pair (CV.whole 9) (CV.pair (CV.whole 10) (CV.pure (Ty.pair (Ty.int i64) Ty.unit) p10))),Blk.vec 51 (Ty.int u32) p11,Blk.vec 3 (Ty.int i64) p12] 5)
noncomputable def Sp.S_140_154_1_0{R:Type}(K:Int->(List Int×List Int×Int×Unit)->(Int×Int×Unit)->(Int×Unit)->(Int×Int×Unit)->(Int×Int×Unit)->(List Int×List Int×Int×Unit)->(Int×Unit)->List Int->List Int->(Int×Unit)->List Int->List Int->Option R)(k:E_140_154_1_0->Option R)(p0:Int)(p1:List Int×List Int×Int×Unit)(p2:Int×Int×Unit)(p3:Int×Unit)(p4 p5:Int×Int×Unit)(p6:List Int×List Int×Int×Unit)(p7:Int×Unit)(p8 p9:List Int)(p10:Int×Unit)(p11 p12:List Int):Option R:=
 bif decide (p0<(↑(length (p6.2.1)):Int))then gd (inB p0 (length (p6.2.1))) (gd (room (length p12+1) 8) (K (wrap i64 (p0+1)) p1 p2 p3 p4 p5 p6 p7 p8 p9 p10 p11 (p12++[getD (p6.2.1) (toNat p0) 0])))else k (E_140_154_1_0.e0 p1 p2 p3 p4 p5 p7 p8 p9 p10 p11 p12)
noncomputable def Sp.L_140_154_1_0:Nat->Int->(List Int×List Int×Int×Unit)->(Int×Int×Unit)->(Int×Unit)->(Int×Int×Unit)->(Int×Int×Unit)->(List Int×List Int×Int×Unit)->(Int×Unit)->List Int->List Int->(Int×Unit)->List Int->List Int->Option E_140_154_1_0
 |0,_,_,_,_,_,_,_,_,_,_,_,_,_=>none
 |m+1,p0,p1,p2,p3,p4,p5,p6,p7,p8,p9,p10,p11,p12=>S_140_154_1_0 (L_140_154_1_0 m) some p0 p1 p2 p3 p4 p5 p6 p7 p8 p9 p10 p11 p12
noncomputable def l_140_154_1_0(m:Nat)(a:T_140_154_1_0.E):Option E_140_154_1_0:=L_140_154_1_0 m a.1 a.2.1 a.2.2.1 a.2.2.2.1 a.2.2.2.2.1 a.2.2.2.2.2.1 a.2.2.2.2.2.2.1 a.2.2.2.2.2.2.2.1 a.2.2.2.2.2.2.2.2.1 a.2.2.2.2.2.2.2.2.2.1 a.2.2.2.2.2.2.2.2.2.2.1 a.2.2.2.2.2.2.2.2.2.2.2.1 a.2.2.2.2.2.2.2.2.2.2.2.2.1
noncomputable def O_140_154_1_0{R:Type}:Orc R:=orL T_140_154_1_0 (l_140_154_1_0 FU) Y_140_154_1_0
noncomputable def g_140_154{R:Type}:List CV->List Blk->(CV->List Blk->Option R)->Option R:=evFnL sm_140 FU (ovr noO (evFn sm_140 fns FU 0)) (mkT (fB fns 154) [O_140_154_0_0,O_140_154_1_0]) (fO fns 154)
noncomputable def ov_140_140{R:Type}:Nat->Option (List CV->List Blk->(CV->List Blk->Option R)->Option R):=fun f'=>bif Nat.beq f' 154 then some g_140_154 else none
noncomputable def F_140(a0:((List Int)×((List Int)×(Int×Unit))))(a1 a2:Int)(a3:(Int×(Int×Unit))):Option (((List Int)×((List Int)×(Int×Unit)))×(Int×(Int×Unit))×Int×Unit) :=
 gd (p_27 a0) (bif !(v_27 a0).1 then some (([],[],0,PUnit.unit),(0,0,PUnit.unit),1,PUnit.unit)else gd (p_62 a3) (bif !(v_62 a3).1 then some (([],[],0,PUnit.unit),(0,0,PUnit.unit),1,PUnit.unit)else bif decide (a1<0)then some (([],[],0,PUnit.unit),(0,0,PUnit.unit),2,PUnit.unit)else bif decide (a1>=(↑(length (a0.1)):Int))then some (([],[],0,PUnit.unit),(0,0,PUnit.unit),2,PUnit.unit)else gd (p_153 a3) (B_140_154_0_0 (L_140_154_0_0 4611686018427387904 0 a0 a3 (0,PUnit.unit) (0,0,PUnit.unit) ((v_153 a3).2.1) a0 (0,PUnit.unit) [] [] (a0.2.2.1,PUnit.unit) [] []) fun y31 y32 y33 y34 y35 y36 y37 y38 y39 y40 y41 y42=>B_140_154_1_0 (L_140_154_1_0 4611686018427387904 0 y31 y32 y33 y34 y35 y36 y37 y38 y39 y40 y41 y42) fun y43 y44 y45 y46 y47 y48 y49 y50 y51 y52 y53=>gd (inB a1 (length (y43.1))) (gd (inB a1 (length y52)) (gd (decide (toNat a1<length y52)&&true&&true) (some ((List.set y52 (toNat a1) (Sp.andI u32 (getD (y43.1) (toNat a1) 0) (Sp.orI u32 a2 (Sp.xorI u32 4294967295 ((v_153 a3).1)))),y53,y51),y47,(v_153 a3).2.2.1,PUnit.unit)))))))
noncomputable def Sp.p_140(a0:((List Int)×((List Int)×(Int×Unit))))(a1 a2:Int)(a3:(Int×(Int×Unit))):Bool:=(F_140 a0 a1 a2 a3).isSome
noncomputable def Sp.v_140(a0:((List Int)×((List Int)×(Int×Unit))))(a1 a2:Int)(a3:(Int×(Int×Unit))):((List Int)×((List Int)×(Int×Unit)))×(Int×(Int×Unit))×Int×Unit:=(F_140 a0 a1 a2 a3).getD (dfH R_140)
noncomputable def s_140:Summ:=shS A_140 R_140 (fun x=>p_140 x.1 x.2.1 x.2.2.1 x.2.2.2.1) (fun x=>v_140 x.1 x.2.1 x.2.2.1 x.2.2.2.1)
end
theorem rlife_pv(n:Int):p_68 n=true/\v_68 n=(decide (1<=n)&&decide (n<=1000000),()):=by
 refine pv_68 n ?_
 unfold F_68
 by_cases h:n>=1
 ·rw[cond_dtt h,decide_eq_true (p:=1<=n) h,Bool.true_and]
 ·rw[cond_dff h,decide_eq_false (p:=1<=n) h,Bool.false_and]
theorem rfv_ok(f:FlT):F_27 f=some (Sp.fv f,()):=by
 unfold F_27 Sp.fv
 by_cases h1:(f.2.1.length:Int)<1
 ·rw[cond_dtt h1,decide_eq_false (by omega)];rfl
 rw[cond_dff h1,decide_eq_true (p:=1<=f.2.1.length) (by omega),Bool.true_and]
 by_cases h2:(f.2.1.length:Int)>64
 ·rw[cond_dtt h2,decide_eq_false (by omega)];rfl
 rw[cond_dff h2,decide_eq_true (p:=f.2.1.length<=64) (by omega),Bool.true_and,wi64 (by omega) (by omega)]
 by_cases h3:(f.1.length:Int)=(f.2.1.length:Int)*64
 rotate_left
 ·rw[cond_ntt h3,decide_eq_false (p:=f.1.length=_) (by omega)];rfl
 rw[cond_nff h3,decide_eq_true (p:=f.1.length=_) (by omega),Bool.true_and,(rlife_pv f.2.2.1).1,(rlife_pv f.2.2.1).2,gd_tt]
 by_cases h4:f.2.2.1<1
 ·rw[decide_eq_false (p:=1<=f.2.2.1) (by omega)];rfl
 rw[decide_eq_true (p:=1<=f.2.2.1) (by omega),Bool.true_and,Bool.true_and]
 by_cases h5:f.2.2.1>1000000
 ·rw[decide_eq_false (p:=f.2.2.1<=1000000) (by omega)];rfl
 rw[decide_eq_true (p:=f.2.2.1<=1000000) (by omega),Bool.true_and,show(!(true,()).1)=false from rfl,cond_f]
 have hf:=find0 (fun m i=>L_27_0 m f.2.1.length i f) (n:=f.2.1.length) (Sp.wb f) (ex:=fun j=>some .e0) (e1:=some .e1) (by omega) (fun m j hj=>by
  show L_27_0 (m+1) f.2.1.length j f=bif Sp.wb f j then some .e0 else L_27_0 m f.2.1.length ((j+1:Nat):Int) f
  rw[L_27_0,S_27_0,cond_dtt (by omega),gd_inB (by omega) (by omega),gd_inB (by omega) (by omega),Int.toNat_natCast,wi64 (by omega) (by omega)]
  unfold Sp.wb
  push_cast
  cases decide (f.2.1.getD j 0<0)<;>cases decide (f.2.1.getD j 0>f.2.2.1)<;>rfl) (fun m=>by
  show L_27_0 (m+1) f.2.1.length f.2.1.length f=_
  rw[L_27_0,S_27_0,cond_dff (by omega)])
 have e1:L_27_0 4611686018427387904 f.2.1.length 0 f=_:=hf
 rw[e1]
 cases fnd (Sp.wb f) f.2.1.length 0<;>rfl
namespace Sp
noncomputable def rbt(p:PwT):Int×PwT×Int×Unit:=if p.1=0 then(0,p,18,())else if p.1=1 then(p.2.1,(0,p.2),18,())else(4294967295,(p.1-1,p.2),0,())
end Sp
set_option maxRecDepth 100000
set_option maxHeartbeats 4000000
theorem rpair_pv{n:Int}(h0:0<=n)(h1:n<65536):p_136 n=true/\v_136 n=(Sp.prw n,()):=by
 refine pv_136 n ?_
 obtain⟨k,rfl⟩:=Int.eq_ofNat_of_zero_le h0
 unfold F_136 Sp.prw
 rw[wi64 (n:=65535-(k:Int)) (by omega) (by omega),u32_wrap_nat (by omega),show(k:Int)*65536=((k*65536:Nat):Int)from(Int.natCast_mul k 65536).symm,u32_wrap_nat (by omega),show 65535-(k:Int)=((65535-k:Nat):Int) by omega,u32_wrap_nat (by omega),orU_nat (by omega) (by omega),show k*65536=k*2^16 from rfl,or_add 16 (by omega)]
 congr 2
theorem rnum_pv{w:Int}(h0:0<=w)(h1:w<4294967296):p_121 w=true/\v_121 w=((Sp.nmb w).1,(Sp.nmb w).2,()):=by
 refine pv_121 w ?_
 unfold F_121
 have e:Int.fdiv w 65536=w/65536:=Int.fdiv_eq_ediv_of_nonneg _ (by decide)
 rw[e,wi64 (by omega) (by omega),(rpair_pv (n:=w/65536) (by omega) (by omega)).1,(rpair_pv (n:=w/65536) (by omega) (by omega)).2,gd_tt]
 rfl
theorem rplc_pv(f:FlT)(a n:Int)(h:f.2.1.length<=1000000):p_49 f a n=true/\v_49 f a n=(Sp.plc (f,a,n,()),()):=by
 refine pv_49 f a n ?_
 unfold F_49 Sp.plc
 dsimp only
 by_cases h1:2<=n
 rotate_left
 ·rw[cond_dtt (by omega),decide_eq_false h1];rfl
 rw[cond_dff (by omega),decide_eq_true h1,Bool.true_and]
 by_cases h2:n<=16
 rotate_left
 ·rw[cond_dtt (by omega),decide_eq_false h2];rfl
 rw[cond_dff (by omega),decide_eq_true h2,Bool.true_and,Int.tmod_eq_emod_of_nonneg (by omega),wi64 (by omega) (by omega)]
 by_cases h3:n%2=0
 rotate_left
 ·rw[cond_ntt h3,beq_eq_false_iff_ne.2 h3];rfl
 rw[cond_nff h3,beq_iff_eq.2 h3,Bool.true_and]
 by_cases h4:0<=a
 ·rw[cond_dff (by omega),decide_eq_true h4,Bool.true_and]
 ·rw[cond_dtt (by omega),decide_eq_false h4];rfl
theorem rsz_pv{m:MeT}(hv:Sp.fv m.1=true)(hp:Sp.plc m=true):p_101 m=true/\v_101 m=((Sp.hsz m:Int),()):=by
 obtain⟨p1,p2,p3,p4,p5⟩:=plc_iff.1 hp
 have b:=pl_b hv hp
 refine pv_101 m ?_
 unfold F_101
 rw[wi64 (n:=64*m.2.2.1) (by omega) (by omega),Int.tdiv_eq_ediv_of_nonneg (by omega),wi64 (by omega) (by omega),b.2.2.2.2.2.1]
 congr 2
 omega
theorem rbs_pv{m:MeT}(hv:Sp.fv m.1=true)(hp:Sp.plc m=true){k:Nat}(hk:k<2):p_103 m k=true/\v_103 m k=((Sp.hbs m k:Int),()):=by
 obtain⟨p1,p2,p3,p4,p5⟩:=plc_iff.1 hp
 have v:=fv_iff.1 hv
 have b:=pl_b hv hp
 have bk:=pl_k hv hp hk
 have s:=rsz_pv hv hp
 refine pv_103 m k ?_
 unfold F_103
 rw[s.1,s.2,gd_tt]
 dsimp only
 have e2:0<=(k:Int)*(Sp.hsz m:Int)/\(k:Int)*(Sp.hsz m:Int)<=512/\(k:Int)*(Sp.hsz m:Int)=(k:Int)*(32*m.2.2.1):=by
  match k,hk with
  |0,_=>simp
  |1,_=>simp;omega
 rw[wi64 (n:=64*m.2.1) (by omega) (by omega),wi64 (n:=(k:Int)*(Sp.hsz m:Int)) (by omega) (by omega),bk.2,wi64 (by omega) (by omega),e2.2.2]
theorem hwr_at{m:MeT}(hv:Sp.fv m.1=true)(hp:Sp.plc m=true){k:Nat}(hk:k<2){i:Nat}(hi:i<Sp.hsz m):m.1.1.getD (Sp.hbs m k+i) 0=(Sp.hwr m k).getD i 0:=by
 unfold Sp.hwr
 rw[List.getD_eq_getElem?_getD,List.getD_eq_getElem?_getD,List.getElem?_take,if_pos hi,List.getElem?_drop]
theorem rwd_pv{m:MeT}(hv:Sp.fv m.1=true)(hp:Sp.plc m=true){k:Nat}(hk:k<2){i:Nat}(hi:i<Sp.hsz m):p_122 m k i=true/\v_122 m k i=((Sp.hwr m k).getD i 0,()):=by
 have b:=pl_b hv hp
 have bk:=pl_k hv hp hk
 have s:=rbs_pv hv hp hk
 refine pv_122 m k i ?_
 unfold F_122
 rw[s.1,s.2,gd_tt]
 dsimp only
 rw[wi64 (by omega) (by omega),show(Sp.hbs m k:Int)+(i:Int)=((Sp.hbs m k+i:Nat):Int) by push_cast;rfl,gd_inB (by omega) (by omega),Int.toNat_natCast,hwr_at hv hp hk hi]
theorem rgn_pv{m:MeT}(hw:W32f m.1)(hv:Sp.fv m.1=true)(hp:Sp.plc m=true){k:Nat}(hk:k<2):p_86 m k=true/\v_86 m k=(Sp.gnr m k,()):=by
 have b:=pl_b hv hp
 have w:=rwd_pv hv hp hk (i:=0) (by omega)
 have w:p_122 m k 0=true/\v_122 m k 0=((Sp.hwr m k).getD 0 0,()):=w
 have h0:=(hw.half k).at 0
 have n:=rnum_pv h0.1 h0.2
 refine pv_86 m k ?_
 unfold F_86 Sp.gnr
 rw[w.1,w.2,gd_tt,n.1,n.2,gd_tt]
 dsimp only
 cases (Sp.nmb ((Sp.hwr m k).getD 0 0)).2<;>rfl
namespace Sp
noncomputable def rac(m:MeT):Int:=if acb m=true then(acv m:Int)else-1
end Sp
theorem rac_pv{m:MeT}(hw:W32f m.1)(hv:Sp.fv m.1=true)(hp:Sp.plc m=true):p_50 m=true/\v_50 m=(Sp.rac m,()):=by
 have g0:=rgn_pv hw hv hp (k:=0) (by decide)
 have g1:=rgn_pv hw hv hp (k:=1) (by decide)
 have g0:p_86 m 0=true/\v_86 m 0=(Sp.gnr m 0,()):=g0
 have g1:p_86 m 1=true/\v_86 m 1=(Sp.gnr m 1,()):=g1
 have b0:=gnr_b hw 0
 have b1:=gnr_b hw 1
 refine pv_50 m ?_
 unfold F_50 Sp.rac Sp.acv Sp.acb
 rw[g0.1,g0.2,gd_tt,g1.1,g1.2,gd_tt]
 dsimp only
 by_cases h0:Sp.gnr m 0=0
 ·rw[cond_ett h0]
  by_cases h1:Sp.gnr m 1=0
  ·rw[cond_ett h1,decide_eq_false (p:=Sp.gnr m 1>Sp.gnr m 0) (by omega),decide_eq_false (p:=Sp.gnr m 0>0) (by omega)]
   rfl
  ·rw[cond_eff h1,cond_dtt (by omega),decide_eq_true (p:=Sp.gnr m 1>Sp.gnr m 0) (by omega)]
   rfl
 ·rw[cond_eff h0]
  by_cases h1:Sp.gnr m 1>Sp.gnr m 0
  ·rw[cond_dtt h1,decide_eq_true h1];rfl
  ·rw[cond_dff h1,decide_eq_false h1,decide_eq_true (p:=Sp.gnr m 0>0) (by omega)];rfl
theorem rmv_pv{m:MeT}(hw:W32f m.1):p_13 m=true/\v_13 m=(Sp.mvl m,()):=by
 have v:=pv_27 _ (rfv_ok m.1)
 refine pv_13 m ?_
 unfold F_13 Sp.mvl
 rw[v.1,v.2,gd_tt]
 dsimp only
 cases hv:Sp.fv m.1
 ·rfl
 have hl:=fv_iff.1 hv
 have p:=rplc_pv m.1 m.2.1 m.2.2.1 (by omega)
 rw[cond_t,p.1,p.2,gd_tt]
 show(bif Sp.plc m then _ else _)=_
 cases hp:Sp.plc m
 ·rfl
 have a:=rac_pv hw hv hp
 rw[cond_t,a.1,a.2,gd_tt]
 dsimp only
 unfold Sp.rac
 cases Sp.acb m
 ·rfl
 ·rw[if_pos rfl,decide_eq_true (by omega)];rfl
set_option maxRecDepth 100000
set_option maxHeartbeats 4000000
set_option linter.unusedVariables false
noncomputable section
abbrev Zt139_0:Type:=Int×Int×Unit
abbrev Zt139_1:Type:=List Int×List Int×Int×Unit
abbrev Zy139_2:Ty:=(.pair (.int .i64) (.pair (.int .u32) .unit))
abbrev Zy139_3:Ty:=(.pair (.slice (.int .u32)) (.pair (.slice (.int .i64)) (.pair (.int .i64) .unit)))
abbrev A_139:List Ty:=[(.pair (.slice (.int .u32)) (.pair (.slice (.int .i64)) (.pair (.int .i64) .unit))),(.int .i64),(.pair (.int .i64) (.pair (.int .u32) .unit))]
abbrev R_139:List Ty:=[(.pair (.slice (.int .u32)) (.pair (.slice (.int .i64)) (.pair (.int .i64) .unit))),(.pair (.int .i64) (.pair (.int .u32) .unit)),(.int .i64)]
noncomputable def sm_139:Nat->Option Summ:=smL [(27,s_27),(62,s_62),(153,s_153)]
noncomputable def T_139_154_0_0:PS:=⟨44,[(1,.kc (.ptr 5 [])),(2,.kc (.ptr 6 [])),(3,.kc (.ptr 9 [])),(4,.hv (.int .i64))],[.mem (.hv Zy139_3),.mem (.hv Zy139_2),.mem (.pr (.kc (.nil 51 (.int .u32))) (.pr (.kc (.nil 3 (.int .i64))) (.hv (.pair (.int .i64) .unit)))),.mem (.hv Zy139_2),.mem (.hv Zy139_2),.mem (.hv Zy139_3),.mem (.pr (.kc (.whole 7)) (.pr (.kc (.whole 8)) (.hv (.pair (.int .i64) .unit)))),.vec 51 (.int .u32),.vec 3 (.int .i64),.mem (.pr (.kc (.whole 10)) (.pr (.kc (.whole 11)) (.hv (.pair (.int .i64) .unit)))),.vec 51 (.int .u32),.vec 3 (.int .i64)],5⟩
inductive Sp.E_139_154_0_0 where
 |e0 (p1:Zt139_1) (p2:Zt139_0) (p3:Int×Unit) (p4 p5:Zt139_0) (p6:Zt139_1) (p7:Int×Unit) (p8 p9:List Int) (p10:Int×Unit) (p11 p12:List Int)
noncomputable def Sp.B_139_154_0_0{R:Type}(r:Option E_139_154_0_0)(k0:Zt139_1->Zt139_0->(Int×Unit)->Zt139_0->Zt139_0->Zt139_1->(Int×Unit)->List Int->List Int->(Int×Unit)->List Int->List Int->Option R):Option R:=match r with
 |none=>none
 |some (.e0 p1 p2 p3 p4 p5 p6 p7 p8 p9 p10 p11 p12)=>k0 p1 p2 p3 p4 p5 p6 p7 p8 p9 p10 p11 p12
noncomputable def Y_139_154_0_0{R:Type}(k:Ex->St->Option R):E_139_154_0_0->Option R
 | .e0 p1 p2 p3 p4 p5 p6 p7 p8 p9 p10 p11 p12=>k (Ex.exit 0) (sx 44 [(1,CV.ptr 5 []),(2,CV.ptr 6 []),(3,CV.ptr 9 [])] [Blk.mem (CV.pure (Ty.pair (Ty.slice (Ty.int u32)) (Ty.pair (Ty.slice (Ty.int i64)) (Ty.pair (Ty.int i64) Ty.unit))) p1),Blk.mem (CV.pure (Ty.pair (Ty.int i64) (Ty.pair (Ty.int u32) Ty.unit)) p2),Blk.mem (CV.pair (CV.nil 51 (Ty.int u32)) (CV.pair (CV.nil 3 (Ty.int i64)) (CV.pure (Ty.pair (Ty.int i64) Ty.unit) p3))),Blk.mem (CV.pure (Ty.pair (Ty.int i64) (Ty.pair (Ty.int u32) Ty.unit)) p4),Blk.mem (CV.pure (Ty.pair (Ty.int i64) (Ty.pair (Ty.int u32) Ty.unit)) p5),Blk.mem (CV.pure (Ty.pair (Ty.slice (Ty.int u32)) (Ty.pair (Ty.slice (Ty.int i64)) (Ty.pair (Ty.int i64) Ty.unit))) p6),Blk.mem (CV.pair (CV.whole 7) (CV.pair (CV.whole 8) (CV.pure (Ty.pair (Ty.int i64) Ty.unit) p7))),Blk.vec 51 (Ty.int u32) p8,Blk.vec 3 (Ty.int i64) p9,Blk.mem (CV.pair (CV.whole 10) (CV.pair (CV.whole 11) (CV.pure (Ty.pair (Ty.int i64) Ty.unit) p10))),Blk.vec 51 (Ty.int u32) p11,Blk.vec 3 (Ty.int i64) p12] 5)
noncomputable def Sp.S_139_154_0_0{R:Type}(K:Int->(List Int×List Int×Int×Unit)->(Int×Int×Unit)->(Int×Unit)->(Int×Int×Unit)->(Int×Int×Unit)->(List Int×List Int×Int×Unit)->(Int×Unit)->List Int->List Int->(Int×Unit)->List Int->List Int->Option R)(k:E_139_154_0_0->Option R)(p0:Int)(p1:List Int×List Int×Int×Unit)(p2:Int×Int×Unit)(p3:Int×Unit)(p4 p5:Int×Int×Unit)(p6:List Int×List Int×Int×Unit)(p7:Int×Unit)(p8 p9:List Int)(p10:Int×Unit)(p11 p12:List Int):Option R:=
 bif decide (p0<(↑(length (p6.1)):Int))then gd (inB p0 (length (p6.1))) (gd (room (length p11+1) 4) (K (wrap i64 (p0+1)) p1 p2 p3 p4 p5 p6 p7 p8 p9 p10 (p11++[getD (p6.1) (toNat p0) 0]) p12))else k (E_139_154_0_0.e0 p1 p2 p3 p4 p5 p6 p7 p8 p9 p10 p11 p12)
noncomputable def Sp.L_139_154_0_0:Nat->Int->(List Int×List Int×Int×Unit)->(Int×Int×Unit)->(Int×Unit)->(Int×Int×Unit)->(Int×Int×Unit)->(List Int×List Int×Int×Unit)->(Int×Unit)->List Int->List Int->(Int×Unit)->List Int->List Int->Option E_139_154_0_0
 |0,_,_,_,_,_,_,_,_,_,_,_,_,_=>none
 |m+1,p0,p1,p2,p3,p4,p5,p6,p7,p8,p9,p10,p11,p12=>S_139_154_0_0 (L_139_154_0_0 m) some p0 p1 p2 p3 p4 p5 p6 p7 p8 p9 p10 p11 p12
noncomputable def l_139_154_0_0(m:Nat)(a:T_139_154_0_0.E):Option E_139_154_0_0:=L_139_154_0_0 m a.1 a.2.1 a.2.2.1 a.2.2.2.1 a.2.2.2.2.1 a.2.2.2.2.2.1 a.2.2.2.2.2.2.1 a.2.2.2.2.2.2.2.1 a.2.2.2.2.2.2.2.2.1 a.2.2.2.2.2.2.2.2.2.1 a.2.2.2.2.2.2.2.2.2.2.1 a.2.2.2.2.2.2.2.2.2.2.2.1 a.2.2.2.2.2.2.2.2.2.2.2.2.1
noncomputable def O_139_154_0_0{R:Type}:Orc R:=orL T_139_154_0_0 (l_139_154_0_0 FU) Y_139_154_0_0
noncomputable def T_139_154_1_0:PS:=⟨44,[(1,.kc (.ptr 5 [])),(2,.kc (.ptr 6 [])),(3,.kc (.ptr 9 [])),(5,.hv (.int .i64))],[.mem (.hv Zy139_3),.mem (.hv Zy139_2),.mem (.pr (.kc (.nil 51 (.int .u32))) (.pr (.kc (.nil 3 (.int .i64))) (.hv (.pair (.int .i64) .unit)))),.mem (.hv Zy139_2),.mem (.hv Zy139_2),.mem (.hv Zy139_3),.mem (.pr (.kc (.whole 7)) (.pr (.kc (.whole 8)) (.hv (.pair (.int .i64) .unit)))),.vec 51 (.int .u32),.vec 3 (.int .i64),.mem (.pr (.kc (.whole 10)) (.pr (.kc (.whole 11)) (.hv (.pair (.int .i64) .unit)))),.vec 51 (.int .u32),.vec 3 (.int .i64)],5⟩
inductive Sp.E_139_154_1_0 where
 |e0 (p1:Zt139_1) (p2:Zt139_0) (p3:Int×Unit) (p4 p5:Zt139_0) (p7:Int×Unit) (p8 p9:List Int) (p10:Int×Unit) (p11 p12:List Int)
noncomputable def Sp.B_139_154_1_0{R:Type}(r:Option E_139_154_1_0)(k0:Zt139_1->Zt139_0->(Int×Unit)->Zt139_0->Zt139_0->(Int×Unit)->List Int->List Int->(Int×Unit)->List Int->List Int->Option R):Option R:=match r with
 |none=>none
 |some (.e0 p1 p2 p3 p4 p5 p7 p8 p9 p10 p11 p12)=>k0 p1 p2 p3 p4 p5 p7 p8 p9 p10 p11 p12
noncomputable def Y_139_154_1_0{R:Type}(k:Ex->St->Option R):E_139_154_1_0->Option R
 | .e0 p1 p2 p3 p4 p5 p7 p8 p9 p10 p11 p12=>k (Ex.exit 2) (sx 44 [(2,CV.ptr 5 []),(3,CV.ptr 8 [])] [Blk.mem (CV.pure (Ty.pair (Ty.slice (Ty.int u32)) (Ty.pair (Ty.slice (Ty.int i64)) (Ty.pair (Ty.int i64) Ty.unit))) p1),Blk.mem (CV.pure (Ty.pair (Ty.int i64) (Ty.pair (Ty.int u32) Ty.unit)) p2),Blk.mem (CV.pair (CV.nil 51 (Ty.int u32)) (CV.pair (CV.nil 3 (Ty.int i64)) (CV.pure (Ty.pair (Ty.int i64) Ty.unit) p3))),Blk.mem (CV.pure (Ty.pair (Ty.int i64) (Ty.pair (Ty.int u32) Ty.unit)) p4),Blk.mem (CV.pure (Ty.pair (Ty.int i64) (Ty.pair (Ty.int u32) Ty.unit)) p5),Blk.mem (CV.pair (CV.whole 6) (CV.pair (CV.whole 7) (CV.pure (Ty.pair (Ty.int i64) Ty.unit) p7))),Blk.vec 51 (Ty.int u32) p8,Blk.vec 3 (Ty.int i64) p9,Blk.mem (CV.pair (CV.whole 9) (CV.pair (CV.whole 10) (CV.pure (Ty.pair (Ty.int i64) Ty.unit) p10))),Blk.vec 51 (Ty.int u32) p11,Blk.vec 3 (Ty.int i64) p12] 5)
noncomputable def Sp.S_139_154_1_0{R:Type}(K:Int->(List Int×List Int×Int×Unit)->(Int×Int×Unit)->(Int×Unit)->(Int×Int×Unit)->(Int×Int×Unit)->(List Int×List Int×Int×Unit)->(Int×Unit)->List Int->List Int->(Int×Unit)->List Int->List Int->Option R)(k:E_139_154_1_0->Option R)(p0:Int)(p1:List Int×List Int×Int×Unit)(p2:Int×Int×Unit)(p3:Int×Unit)(p4 p5:Int×Int×Unit)(p6:List Int×List Int×Int×Unit)(p7:Int×Unit)(p8 p9:List Int)(p10:Int×Unit)(p11 p12:List Int):Option R:=
 bif decide (p0<(↑(length (p6.2.1)):Int))then gd (inB p0 (length (p6.2.1))) (gd (room (length p12+1) 8) (K (wrap i64 (p0+1)) p1 p2 p3 p4 p5 p6 p7 p8 p9 p10 p11 (p12++[getD (p6.2.1) (toNat p0) 0])))else k (E_139_154_1_0.e0 p1 p2 p3 p4 p5 p7 p8 p9 p10 p11 p12)
noncomputable def Sp.L_139_154_1_0:Nat->Int->(List Int×List Int×Int×Unit)->(Int×Int×Unit)->(Int×Unit)->(Int×Int×Unit)->(Int×Int×Unit)->(List Int×List Int×Int×Unit)->(Int×Unit)->List Int->List Int->(Int×Unit)->List Int->List Int->Option E_139_154_1_0
 |0,_,_,_,_,_,_,_,_,_,_,_,_,_=>none
 |m+1,p0,p1,p2,p3,p4,p5,p6,p7,p8,p9,p10,p11,p12=>S_139_154_1_0 (L_139_154_1_0 m) some p0 p1 p2 p3 p4 p5 p6 p7 p8 p9 p10 p11 p12
noncomputable def l_139_154_1_0(m:Nat)(a:T_139_154_1_0.E):Option E_139_154_1_0:=L_139_154_1_0 m a.1 a.2.1 a.2.2.1 a.2.2.2.1 a.2.2.2.2.1 a.2.2.2.2.2.1 a.2.2.2.2.2.2.1 a.2.2.2.2.2.2.2.1 a.2.2.2.2.2.2.2.2.1 a.2.2.2.2.2.2.2.2.2.1 a.2.2.2.2.2.2.2.2.2.2.1 a.2.2.2.2.2.2.2.2.2.2.2.1 a.2.2.2.2.2.2.2.2.2.2.2.2.1
noncomputable def O_139_154_1_0{R:Type}:Orc R:=orL T_139_154_1_0 (l_139_154_1_0 FU) Y_139_154_1_0
noncomputable def g_139_154{R:Type}:List CV->List Blk->(CV->List Blk->Option R)->Option R:=evFnL sm_139 FU (ovr noO (evFn sm_139 fns FU 0)) (mkT (fB fns 154) [O_139_154_0_0,O_139_154_1_0]) (fO fns 154)
noncomputable def ov_139_139{R:Type}:Nat->Option (List CV->List Blk->(CV->List Blk->Option R)->Option R):=fun f'=>bif Nat.beq f' 154 then some g_139_154 else none
noncomputable def T_139_0:PS:=⟨87,[(1,.hv (.int .i64)),(6,.kc (.ptr 0 [])),(7,.kc (.ptr 3 [])),(9,.hv (.int .u32)),(10,.kc (.ptr 4 [])),(11,.hv (.int .i64)),(12,.kc (.ptr 5 [])),(13,.hv (.int .i64))],[.mem (.pr (.kc (.whole 1)) (.pr (.kc (.whole 2)) (.hv (.pair (.int .i64) .unit)))),.vec 51 (.int .u32),.vec 3 (.int .i64),.mem (.hv Zy139_2),.mem (.hv Zy139_2),.mem (.pr (.kc (.whole 6)) (.pr (.kc (.whole 7)) (.hv (.pair (.int .i64) .unit)))),.vec 51 (.int .u32),.vec 3 (.int .i64)],0⟩
inductive Sp.E_139_0 where
 |e0 (p2:Int) (p4:Int×Unit) (p5 p6:List Int) (p7 p8:Zt139_0) (p9:Int×Unit) (p10 p11:List Int)
noncomputable def Sp.B_139_0{R:Type}(r:Option E_139_0)(k0:Int->(Int×Unit)->List Int->List Int->Zt139_0->Zt139_0->(Int×Unit)->List Int->List Int->Option R):Option R:=match r with
 |none=>none
 |some (.e0 p2 p4 p5 p6 p7 p8 p9 p10 p11)=>k0 p2 p4 p5 p6 p7 p8 p9 p10 p11
noncomputable def Y_139_0{R:Type}(k:Ex->St->Option R):E_139_0->Option R
 | .e0 p2 p4 p5 p6 p7 p8 p9 p10 p11=>k (Ex.exit 0) (sx 87 [(6,CV.ptr 0 []),(7,CV.ptr 3 []),(10,CV.ptr 4 []),(11,CV.int i64 p2),(12,CV.ptr 5 [])] [Blk.mem (CV.pair (CV.whole 1) (CV.pair (CV.whole 2) (CV.pure (Ty.pair (Ty.int i64) Ty.unit) p4))),Blk.vec 51 (Ty.int u32) p5,Blk.vec 3 (Ty.int i64) p6,Blk.mem (CV.pure (Ty.pair (Ty.int i64) (Ty.pair (Ty.int u32) Ty.unit)) p7),Blk.mem (CV.pure (Ty.pair (Ty.int i64) (Ty.pair (Ty.int u32) Ty.unit)) p8),Blk.mem (CV.pair (CV.whole 6) (CV.pair (CV.whole 7) (CV.pure (Ty.pair (Ty.int i64) Ty.unit) p9))),Blk.vec 51 (Ty.int u32) p10,Blk.vec 3 (Ty.int i64) p11])
noncomputable def Sp.S_139_0{R:Type}(K:Int->Int->Int->Int->(Int×Unit)->List Int->List Int->(Int×Int×Unit)->(Int×Int×Unit)->(Int×Unit)->List Int->List Int->Option R)(k:E_139_0->Option R)(p0 p1 p2 p3:Int)(p4:Int×Unit)(p5 p6:List Int)(p7 p8:Int×Int×Unit)(p9:Int×Unit)(p10 p11:List Int):Option R:=
 bif decide (p3<64)then gd (inB (wrap i64 (wrap i64 (p0*64)+p3)) (length p10)) (gd (decide (toNat (wrap i64 (wrap i64 (p0*64)+p3))<length p10)&&true) (gd (inB (wrap i64 (wrap i64 (p0*64)+p3)) (length p10)) (gd (decide (toNat (wrap i64 (wrap i64 (p0*64)+p3))<length p10)&&true&&true) (K p0 p1 p2 (wrap i64 (p3+1)) p4 p5 p6 p7 p8 p9 (List.set p10 (toNat (wrap i64 (wrap i64 (p0*64)+p3))) (Sp.orI u32 (getD p10 (toNat (wrap i64 (wrap i64 (p0*64)+p3))) 0) p1)) p11))))else k (E_139_0.e0 p2 p4 p5 p6 p7 p8 p9 p10 p11)
noncomputable def Sp.L_139_0:Nat->Int->Int->Int->Int->(Int×Unit)->List Int->List Int->(Int×Int×Unit)->(Int×Int×Unit)->(Int×Unit)->List Int->List Int->Option E_139_0
 |0,_,_,_,_,_,_,_,_,_,_,_,_=>none
 |m+1,p0,p1,p2,p3,p4,p5,p6,p7,p8,p9,p10,p11=>S_139_0 (L_139_0 m) some p0 p1 p2 p3 p4 p5 p6 p7 p8 p9 p10 p11
noncomputable def l_139_0(m:Nat)(a:T_139_0.E):Option E_139_0:=L_139_0 m a.1 a.2.1 a.2.2.1 a.2.2.2.1 a.2.2.2.2.1 a.2.2.2.2.2.1 a.2.2.2.2.2.2.1 a.2.2.2.2.2.2.2.1 a.2.2.2.2.2.2.2.2.1 a.2.2.2.2.2.2.2.2.2.1 a.2.2.2.2.2.2.2.2.2.2.1 a.2.2.2.2.2.2.2.2.2.2.2.1
noncomputable def O_139_0{R:Type}:Orc R:=orL T_139_0 (l_139_0 FU) Y_139_0
noncomputable def F_139(a0:((List Int)×((List Int)×(Int×Unit))))(a1:Int)(a2:(Int×(Int×Unit))):Option (((List Int)×((List Int)×(Int×Unit)))×(Int×(Int×Unit))×Int×Unit) :=
 gd (p_27 a0) (bif !(v_27 a0).1 then some (([],[],0,PUnit.unit),(0,0,PUnit.unit),1,PUnit.unit)else gd (p_62 a2) (bif !(v_62 a2).1 then some (([],[],0,PUnit.unit),(0,0,PUnit.unit),1,PUnit.unit)else bif decide (a1<0)then some (([],[],0,PUnit.unit),(0,0,PUnit.unit),2,PUnit.unit)else bif decide (a1>=(↑(length (a0.2.1)):Int))then some (([],[],0,PUnit.unit),(0,0,PUnit.unit),2,PUnit.unit)else gd (inB a1 (length (a0.2.1))) (bif getD (a0.2.1) (toNat a1) 0==a0.2.2.1 then some (([],[],0,PUnit.unit),(0,0,PUnit.unit),19,PUnit.unit)else gd (p_153 a2) (B_139_154_0_0 (L_139_154_0_0 4611686018427387904 0 a0 a2 (0,PUnit.unit) (0,0,PUnit.unit) ((v_153 a2).2.1) a0 (0,PUnit.unit) [] [] (a0.2.2.1,PUnit.unit) [] []) fun y40 y41 y42 y43 y44 y45 y46 y47 y48 y49 y50 y51=>B_139_154_1_0 (L_139_154_1_0 4611686018427387904 0 y40 y41 y42 y43 y44 y45 y46 y47 y48 y49 y50 y51) fun y52 y53 y54 y55 y56 y57 y58 y59 y60 y61 y62=>bif decide (y53.1>0)then gd (inB a1 (length y62)) (gd (decide (toNat a1<length y62)&&true) (gd (inB a1 (length y62)) (gd (decide (toNat a1<length y62)&&true&&true) (B_139_0 (L_139_0 4611686018427387904 a1 ((v_153 a2).1) ((v_153 a2).2.2.1) 0 y54 [] [] y55 y56 y60 y61 (List.set y62 (toNat a1) (wrap i64 (getD y62 (toNat a1) (0:Int)+(1:Int))))) fun y65 y66 y67 y68 y69 y70 y71 y72 y73=>some ((y72,y73,y71),y70,y65,PUnit.unit)))))else some ((y61,y62,y60),y56,(v_153 a2).2.2.1,PUnit.unit)))))
noncomputable def Sp.p_139(a0:((List Int)×((List Int)×(Int×Unit))))(a1:Int)(a2:(Int×(Int×Unit))):Bool:=(F_139 a0 a1 a2).isSome
noncomputable def Sp.v_139(a0:((List Int)×((List Int)×(Int×Unit))))(a1:Int)(a2:(Int×(Int×Unit))):((List Int)×((List Int)×(Int×Unit)))×(Int×(Int×Unit))×Int×Unit:=(F_139 a0 a1 a2).getD (dfH R_139)
noncomputable def s_139:Summ:=shS A_139 R_139 (fun x=>p_139 x.1 x.2.1 x.2.2.1) (fun x=>v_139 x.1 x.2.1 x.2.2.1)
end
noncomputable section
abbrev A_107:List Ty:=[(.pair (.slice (.int .u32)) (.pair (.slice (.int .i64)) (.pair (.int .i64) .unit))),(.int .i64),(.pair (.int .i64) (.pair (.int .u32) .unit))]
abbrev R_107:List Ty:=[(.pair (.slice (.int .u32)) (.pair (.slice (.int .i64)) (.pair (.int .i64) .unit))),(.pair (.int .i64) (.pair (.int .u32) .unit)),(.int .i64)]
noncomputable def sm_107:Nat->Option Summ:=smL [(139,s_139)]
noncomputable def F_107(a0:((List Int)×((List Int)×(Int×Unit))))(a1:Int)(a2:(Int×(Int×Unit))):Option (((List Int)×((List Int)×(Int×Unit)))×(Int×(Int×Unit))×Int×Unit) :=
 gd (p_139 a0 a1 a2) (some ((v_139 a0 a1 a2).1,(v_139 a0 a1 a2).2.1,(v_139 a0 a1 a2).2.2.1,PUnit.unit))
noncomputable def Sp.p_107(a0:((List Int)×((List Int)×(Int×Unit))))(a1:Int)(a2:(Int×(Int×Unit))):Bool:=(F_107 a0 a1 a2).isSome
noncomputable def Sp.v_107(a0:((List Int)×((List Int)×(Int×Unit))))(a1:Int)(a2:(Int×(Int×Unit))):((List Int)×((List Int)×(Int×Unit)))×(Int×(Int×Unit))×Int×Unit:=(F_107 a0 a1 a2).getD (dfH R_107)
noncomputable def s_107:Summ:=shS A_107 R_107 (fun x=>p_107 x.1 x.2.1 x.2.2.1) (fun x=>v_107 x.1 x.2.1 x.2.2.1)
end
noncomputable section
abbrev A_108:List Ty:=[(.pair (.slice (.int .u32)) (.pair (.slice (.int .i64)) (.pair (.int .i64) .unit))),(.int .i64),(.int .u32),(.pair (.int .i64) (.pair (.int .u32) .unit))]
abbrev R_108:List Ty:=[(.pair (.slice (.int .u32)) (.pair (.slice (.int .i64)) (.pair (.int .i64) .unit))),(.pair (.int .i64) (.pair (.int .u32) .unit)),(.int .i64)]
noncomputable def sm_108:Nat->Option Summ:=smL [(140,s_140)]
noncomputable def F_108(a0:((List Int)×((List Int)×(Int×Unit))))(a1 a2:Int)(a3:(Int×(Int×Unit))):Option (((List Int)×((List Int)×(Int×Unit)))×(Int×(Int×Unit))×Int×Unit) :=
 gd (p_140 a0 a1 a2 a3) (some ((v_140 a0 a1 a2 a3).1,(v_140 a0 a1 a2 a3).2.1,(v_140 a0 a1 a2 a3).2.2.1,PUnit.unit))
noncomputable def Sp.p_108(a0:((List Int)×((List Int)×(Int×Unit))))(a1 a2:Int)(a3:(Int×(Int×Unit))):Bool:=(F_108 a0 a1 a2 a3).isSome
noncomputable def Sp.v_108(a0:((List Int)×((List Int)×(Int×Unit))))(a1 a2:Int)(a3:(Int×(Int×Unit))):((List Int)×((List Int)×(Int×Unit)))×(Int×(Int×Unit))×Int×Unit:=(F_108 a0 a1 a2 a3).getD (dfH R_108)
noncomputable def s_108:Summ:=shS A_108 R_108 (fun x=>p_108 x.1 x.2.1 x.2.2.1 x.2.2.2.1) (fun x=>v_108 x.1 x.2.1 x.2.2.1 x.2.2.2.1)
end
noncomputable section
abbrev Zt67_0:Type:=(List Int×List Int×Int×Unit)×Int×Int×Unit
abbrev Zt67_1:Type:=Int×Int×Unit
abbrev Zt67_2:Type:=List (Bool×Int×Int×Unit)
abbrev Zt67_3:Type:=(((List Int)×((List Int)×(Int×Unit)))×(Int×(Int×Unit)))
abbrev A_67:List Ty:=[(.pair (.pair (.slice (.int .u32)) (.pair (.slice (.int .i64)) (.pair (.int .i64) .unit))) (.pair (.int .i64) (.pair (.int .i64) .unit))),(.slice (.pair .bool (.pair (.int .i64) (.pair (.int .u32) .unit)))),(.pair (.int .i64) (.pair (.int .u32) .unit))]
abbrev R_67:List Ty:=[(.pair (.pair (.slice (.int .u32)) (.pair (.slice (.int .i64)) (.pair (.int .i64) .unit))) (.pair (.int .i64) (.pair (.int .i64) .unit))),(.pair (.int .i64) (.pair (.int .u32) .unit)),(.int .i64)]
noncomputable def sm_67:Nat->Option Summ:=smL [(107,s_107),(108,s_108)]
noncomputable def T_67_0:PS:=⟨62,[(1,.hv (.slice (.pair .bool (.pair (.int .i64) (.pair (.int .u32) .unit))))),(3,.kc (.ptr 0 [])),(5,.kc (.ptr 1 [])),(6,.kc (.ptr 2 [])),(7,.kc (.ptr 5 [])),(9,.hv (.int .i64))],[.mem (.hv (.pair (.pair (.slice (.int .u32)) (.pair (.slice (.int .i64)) (.pair (.int .i64) .unit))) (.pair (.int .i64) (.pair (.int .i64) .unit)))),.mem (.hv (.pair (.int .i64) (.pair (.int .u32) .unit))),.mem (.pr (.pr (.kc (.whole 3)) (.pr (.kc (.whole 4)) (.hv (.pair (.int .i64) .unit)))) (.hv (.pair (.int .i64) (.pair (.int .i64) .unit)))),.vec 51 (.int .u32),.vec 3 (.int .i64),.mem (.hv (.pair (.int .i64) (.pair (.int .u32) .unit)))],0⟩
inductive Sp.E_67_0 where
 |e0 (p0:Zt67_2) (p1:Int) (p2:Zt67_0) (p3:Zt67_1)
 |e1 (p0:Zt67_2) (p1:Int) (p2:Zt67_0) (p3:Zt67_1)
 |e2 (p2:Zt67_0) (p3:Zt67_1) (p4:Int×Unit) (p5:Zt67_1) (p6 p7:List Int) (p8:Zt67_1)
noncomputable def Sp.B_67_0{R:Type}(r:Option E_67_0)(k0 k1:Zt67_2->Int->Zt67_0->Zt67_1->Option R)(k2:Zt67_0->Zt67_1->(Int×Unit)->Zt67_1->List Int->List Int->Zt67_1->Option R):Option R:=match r with
 |none=>none
 |some (.e0 p0 p1 p2 p3)=>k0 p0 p1 p2 p3
 |some (.e1 p0 p1 p2 p3)=>k1 p0 p1 p2 p3
 |some (.e2 p2 p3 p4 p5 p6 p7 p8)=>k2 p2 p3 p4 p5 p6 p7 p8
noncomputable def Y_67_0{R:Type}(k:Ex->St->Option R):E_67_0->Option R
 | .e0 p0 p1 p2 p3=>k Ex.ret (sx 62 [(6,CV.ptr 0 []),(7,CV.ptr 1 []),(8,CV.int i64 ((v_107 (p2.1) ((getD p0 (toNat p1) Zd3).2.1) p3).2.2.1))] [Blk.mem (CV.pure (Ty.pair (Ty.pair (Ty.slice (Ty.int u32)) (Ty.pair (Ty.slice (Ty.int i64)) (Ty.pair (Ty.int i64) Ty.unit))) (Ty.pair (Ty.int i64) (Ty.pair (Ty.int i64) Ty.unit))) (((v_107 (p2.1) ((getD p0 (toNat p1) Zd3).2.1) p3).1,p2.2):Zt67_3)),Blk.mem (CV.pure (Ty.pair (Ty.int i64) (Ty.pair (Ty.int u32) Ty.unit)) (((v_107 (p2.1) ((getD p0 (toNat p1) Zd3).2.1) p3).2.1):(Int×(Int×Unit))))])
 | .e1 p0 p1 p2 p3=>k Ex.ret (sx 62 [(6,CV.ptr 0 []),(7,CV.ptr 1 []),(8,CV.int i64 ((v_108 (p2.1) ((getD p0 (toNat p1) Zd3).2.1) ((getD p0 (toNat p1) Zd3).2.2.1) p3).2.2.1))] [Blk.mem (CV.pure (Ty.pair (Ty.pair (Ty.slice (Ty.int u32)) (Ty.pair (Ty.slice (Ty.int i64)) (Ty.pair (Ty.int i64) Ty.unit))) (Ty.pair (Ty.int i64) (Ty.pair (Ty.int i64) Ty.unit))) (((v_108 (p2.1) ((getD p0 (toNat p1) Zd3).2.1) ((getD p0 (toNat p1) Zd3).2.2.1) p3).1,p2.2):Zt67_3)),Blk.mem (CV.pure (Ty.pair (Ty.int i64) (Ty.pair (Ty.int u32) Ty.unit)) (((v_108 (p2.1) ((getD p0 (toNat p1) Zd3).2.1) ((getD p0 (toNat p1) Zd3).2.2.1) p3).2.1):(Int×(Int×Unit))))])
 | .e2 p2 p3 p4 p5 p6 p7 p8=>k (Ex.exit 0) (sx 62 [(3,CV.ptr 0 []),(5,CV.ptr 1 []),(6,CV.ptr 2 []),(7,CV.ptr 5 [])] [Blk.mem (CV.pure (Ty.pair (Ty.pair (Ty.slice (Ty.int u32)) (Ty.pair (Ty.slice (Ty.int i64)) (Ty.pair (Ty.int i64) Ty.unit))) (Ty.pair (Ty.int i64) (Ty.pair (Ty.int i64) Ty.unit))) p2),Blk.mem (CV.pure (Ty.pair (Ty.int i64) (Ty.pair (Ty.int u32) Ty.unit)) p3),Blk.mem (CV.pair (CV.pair (CV.whole 3) (CV.pair (CV.whole 4) (CV.pure (Ty.pair (Ty.int i64) Ty.unit) p4))) (CV.pure (Ty.pair (Ty.int i64) (Ty.pair (Ty.int i64) Ty.unit)) p5)),Blk.vec 51 (Ty.int u32) p6,Blk.vec 3 (Ty.int i64) p7,Blk.mem (CV.pure (Ty.pair (Ty.int i64) (Ty.pair (Ty.int u32) Ty.unit)) p8)])
noncomputable def Sp.S_67_0{R:Type}(K:(List (Bool×Int×Int×Unit))->Int->((List Int×List Int×Int×Unit)×Int×Int×Unit)->(Int×Int×Unit)->(Int×Unit)->(Int×Int×Unit)->List Int->List Int->(Int×Int×Unit)->Option R)(k:E_67_0->Option R)(p0:List (Bool×Int×Int×Unit))(p1:Int)(p2:(List Int×List Int×Int×Unit)×Int×Int×Unit)(p3:Int×Int×Unit)(p4:Int×Unit)(p5:Int×Int×Unit)(p6 p7:List Int)(p8:Int×Int×Unit):Option R:=
 bif decide (p1<(↑(length p0):Int))then gd (inB p1 (length p0)) (bif(getD p0 (toNat p1) Zd3).1 then gd (inB p1 (length p0)) (gd (p_107 (p2.1) ((getD p0 (toNat p1) Zd3).2.1) p3) (bif(v_107 (p2.1) ((getD p0 (toNat p1) Zd3).2.1) p3).2.2.1 !=0 then k (E_67_0.e0 p0 p1 p2 p3)else K p0 (wrap i64 (p1+1)) ((v_107 (p2.1) ((getD p0 (toNat p1) Zd3).2.1) p3).1,p2.2) ((v_107 (p2.1) ((getD p0 (toNat p1) Zd3).2.1) p3).2.1) p4 p5 p6 p7 p8))else gd (inB p1 (length p0)) (gd (inB p1 (length p0)) (gd (p_108 (p2.1) ((getD p0 (toNat p1) Zd3).2.1) ((getD p0 (toNat p1) Zd3).2.2.1) p3) (bif(v_108 (p2.1) ((getD p0 (toNat p1) Zd3).2.1) ((getD p0 (toNat p1) Zd3).2.2.1) p3).2.2.1 !=0 then k (E_67_0.e1 p0 p1 p2 p3)else K p0 (wrap i64 (p1+1)) ((v_108 (p2.1) ((getD p0 (toNat p1) Zd3).2.1) ((getD p0 (toNat p1) Zd3).2.2.1) p3).1,p2.2) ((v_108 (p2.1) ((getD p0 (toNat p1) Zd3).2.1) ((getD p0 (toNat p1) Zd3).2.2.1) p3).2.1) p4 p5 p6 p7 p8))))else k (E_67_0.e2 p2 p3 p4 p5 p6 p7 p8)
noncomputable def Sp.L_67_0:Nat->(List (Bool×Int×Int×Unit))->Int->((List Int×List Int×Int×Unit)×Int×Int×Unit)->(Int×Int×Unit)->(Int×Unit)->(Int×Int×Unit)->List Int->List Int->(Int×Int×Unit)->Option E_67_0
 |0,_,_,_,_,_,_,_,_,_=>none
 |m+1,p0,p1,p2,p3,p4,p5,p6,p7,p8=>S_67_0 (L_67_0 m) some p0 p1 p2 p3 p4 p5 p6 p7 p8
noncomputable def l_67_0(m:Nat)(a:T_67_0.E):Option E_67_0:=L_67_0 m a.1 a.2.1 a.2.2.1 a.2.2.2.1 a.2.2.2.2.1 a.2.2.2.2.2.1 a.2.2.2.2.2.2.1 a.2.2.2.2.2.2.2.1 a.2.2.2.2.2.2.2.2.1
noncomputable def O_67_0{R:Type}:Orc R:=orL T_67_0 (l_67_0 FU) Y_67_0
noncomputable def F_67(a0:(((List Int)×((List Int)×(Int×Unit)))×(Int×(Int×Unit))))(a1:(List (Bool×(Int×(Int×Unit)))))(a2:(Int×(Int×Unit))):Option ((((List Int)×((List Int)×(Int×Unit)))×(Int×(Int×Unit)))×(Int×(Int×Unit))×Int×Unit) :=
 B_67_0 (L_67_0 4611686018427387904 a1 0 a0 a2 (0,PUnit.unit) (0,0,PUnit.unit) [] [] (0,0,PUnit.unit)) (fun y15 y16 y17 y18=>some (((v_107 (y17.1) ((getD y15 (toNat y16) Zd3).2.1) y18).1,y17.2),(v_107 (y17.1) ((getD y15 (toNat y16) Zd3).2.1) y18).2.1,(v_107 (y17.1) ((getD y15 (toNat y16) Zd3).2.1) y18).2.2.1,PUnit.unit)) (fun y19 y20 y21 y22=>some (((v_108 (y21.1) ((getD y19 (toNat y20) Zd3).2.1) ((getD y19 (toNat y20) Zd3).2.2.1) y22).1,y21.2),(v_108 (y21.1) ((getD y19 (toNat y20) Zd3).2.1) ((getD y19 (toNat y20) Zd3).2.2.1) y22).2.1,(v_108 (y21.1) ((getD y19 (toNat y20) Zd3).2.1) ((getD y19 (toNat y20) Zd3).2.2.1) y22).2.2.1,PUnit.unit)) fun y23 y24 y25 y26 y27 y28 y29=>some (y23,y24,0,PUnit.unit)
noncomputable def Sp.p_67(a0:(((List Int)×((List Int)×(Int×Unit)))×(Int×(Int×Unit))))(a1:(List (Bool×(Int×(Int×Unit)))))(a2:(Int×(Int×Unit))):Bool:=(F_67 a0 a1 a2).isSome
noncomputable def Sp.v_67(a0:(((List Int)×((List Int)×(Int×Unit)))×(Int×(Int×Unit))))(a1:(List (Bool×(Int×(Int×Unit)))))(a2:(Int×(Int×Unit))):(((List Int)×((List Int)×(Int×Unit)))×(Int×(Int×Unit)))×(Int×(Int×Unit))×Int×Unit:=(F_67 a0 a1 a2).getD (dfH R_67)
noncomputable def s_67:Summ:=shS A_67 R_67 (fun x=>p_67 x.1 x.2.1 x.2.2.1) (fun x=>v_67 x.1 x.2.1 x.2.2.1)
end
noncomputable section
abbrev A_137:List Ty:=[(.pair (.slice (.int .u32)) (.pair (.slice (.int .i64)) (.pair (.int .i64) .unit))),(.int .i64),(.int .i64)]
abbrev R_137:List Ty:=[.bool]
noncomputable def sm_137:Nat->Option Summ:=smL []
noncomputable def T_137_0:PS:=⟨23,[(1,.hv (.int .i64)),(2,.hv (.int .i64)),(3,.kc (.ptr 0 [])),(7,.hv (.int .i64))],[.mem (.hv (.pair (.slice (.int .u32)) (.pair (.slice (.int .i64)) (.pair (.int .i64) .unit))))],0⟩
inductive Sp.E_137_0 where
 |e0
 |e1
noncomputable def Sp.B_137_0{R:Type}(r:Option E_137_0)(k0 k1:Option R):Option R:=match r with
 |none=>none
 |some (.e0)=>k0
 |some (.e1)=>k1
noncomputable def Y_137_0{R:Type}(k:Ex->St->Option R):E_137_0->Option R
 | .e0=>k Ex.ret (sx 23 [(6,CV.bool true)] [])
 | .e1=>k (Ex.exit 0) (sx 23 [] [])
noncomputable def Sp.S_137_0{R:Type}(K:Int->Int->Int->(List Int×List Int×Int×Unit)->Option R)(k:E_137_0->Option R)(p0 p1 p2:Int)(p3:List Int×List Int×Int×Unit):Option R:=
 bif decide (p2<p1)then gd (inB (wrap i64 (p0+p2)) (length (p3.2.1))) (bif getD (p3.2.1) (toNat (wrap i64 (p0+p2))) 0==p3.2.2.1 then k (E_137_0.e0)else K p0 p1 (wrap i64 (p2+1)) p3)else k (E_137_0.e1)
noncomputable def Sp.L_137_0:Nat->Int->Int->Int->(List Int×List Int×Int×Unit)->Option E_137_0
 |0,_,_,_,_=>none
 |m+1,p0,p1,p2,p3=>S_137_0 (L_137_0 m) some p0 p1 p2 p3
noncomputable def l_137_0(m:Nat)(a:T_137_0.E):Option E_137_0:=L_137_0 m a.1 a.2.1 a.2.2.1 a.2.2.2.1
noncomputable def O_137_0{R:Type}:Orc R:=orL T_137_0 (l_137_0 FU) Y_137_0
noncomputable def F_137(a0:((List Int)×((List Int)×(Int×Unit))))(a1 a2:Int):Option (Bool×Unit) :=
 B_137_0 (L_137_0 4611686018427387904 a1 a2 0 a0) (some (true,PUnit.unit)) (some (false,PUnit.unit))
noncomputable def Sp.p_137(a0:((List Int)×((List Int)×(Int×Unit))))(a1 a2:Int):Bool:=(F_137 a0 a1 a2).isSome
noncomputable def Sp.v_137(a0:((List Int)×((List Int)×(Int×Unit))))(a1 a2:Int):Bool×Unit:=(F_137 a0 a1 a2).getD (dfH R_137)
noncomputable def s_137:Summ:=shN A_137 R_137 (fun x=>p_137 x.1 x.2.1 x.2.2.1) (fun x=>v_137 x.1 x.2.1 x.2.2.1)
end
noncomputable section
abbrev A_138:List Ty:=[(.int .i64),(.int .i64)]
abbrev R_138:List Ty:=[(.slice (.pair .bool (.pair (.int .i64) (.pair (.int .u32) .unit))))]
noncomputable def sm_138:Nat->Option Summ:=smL []
noncomputable def T_138_0:PS:=⟨20,[(0,.hv (.int .i64)),(1,.hv (.int .i64)),(5,.kc (.whole 0)),(6,.hv (.int .i64))],[.vec 140 (.pair .bool (.pair (.int .i64) (.pair (.int .u32) .unit)))],0⟩
inductive Sp.E_138_0 where
 |e0 (p3:List (Bool×Int×Int×Unit))
noncomputable def Sp.B_138_0{R:Type}(r:Option E_138_0)(k0:(List (Bool×Int×Int×Unit))->Option R):Option R:=match r with
 |none=>none
 |some (.e0 p3)=>k0 p3
noncomputable def Y_138_0{R:Type}(k:Ex->St->Option R):E_138_0->Option R
 | .e0 p3=>k (Ex.exit 0) (sx 20 [(5,CV.whole 0)] [Blk.vec 140 (Ty.pair Ty.bool (Ty.pair (Ty.int i64) (Ty.pair (Ty.int u32) Ty.unit))) p3])
noncomputable def Sp.S_138_0{R:Type}(K:Int->Int->Int->(List (Bool×Int×Int×Unit))->Option R)(k:E_138_0->Option R)(p0 p1 p2:Int)(p3:List (Bool×Int×Int×Unit)):Option R:=
 bif decide (p2<p1)then gd (room (length p3+1) 24) (K p0 p1 (wrap i64 (p2+1)) (p3++[(true,wrap i64 (p0+p2),0,PUnit.unit)]))else k (E_138_0.e0 p3)
noncomputable def Sp.L_138_0:Nat->Int->Int->Int->(List (Bool×Int×Int×Unit))->Option E_138_0
 |0,_,_,_,_=>none
 |m+1,p0,p1,p2,p3=>S_138_0 (L_138_0 m) some p0 p1 p2 p3
noncomputable def l_138_0(m:Nat)(a:T_138_0.E):Option E_138_0:=L_138_0 m a.1 a.2.1 a.2.2.1 a.2.2.2.1
noncomputable def O_138_0{R:Type}:Orc R:=orL T_138_0 (l_138_0 FU) Y_138_0
noncomputable def F_138(a0 a1:Int):Option ((List (Bool×(Int×(Int×Unit))))×Unit) :=
 B_138_0 (L_138_0 4611686018427387904 a0 a1 0 []) fun y1=>some (y1,PUnit.unit)
noncomputable def Sp.p_138(a0 a1:Int):Bool:=(F_138 a0 a1).isSome
noncomputable def Sp.v_138(a0 a1:Int):(List (Bool×(Int×(Int×Unit))))×Unit:=(F_138 a0 a1).getD (dfH R_138)
noncomputable def s_138:Summ:=ownS A_138 140 [] (.slice (.pair .bool (.pair (.int .i64) (.pair (.int .u32) .unit)))) [] (fun x=>p_138 x.1 x.2.1) (fun x=>v_138 x.1 x.2.1)
end
namespace Sp
noncomputable def rdo(m:MeT)(l:List StT)(p:PwT):OuM:=(((dol l (m.1,p,0,())).1,m.2),(dol l (m.1,p,0,())).2.1,(dol l (m.1,p,0,())).2.2.1,())
end Sp
set_option maxRecDepth 100000
set_option maxHeartbeats 4000000
theorem bvk(b:BitVec 32):BitVec.ofInt 32 (wrap .u32 ((b.toNat:Nat):Int))=b:=by
 rw[u32_wrap_nat b.isLt]
 apply BitVec.eq_of_toNat_eq
 rw[ofInt_nat b.isLt]
theorem or_blank(x:Int):Sp.orI .u32 x 4294967295=4294967295:=by
 show wrap .u32 (((BitVec.ofInt 32 x|||BitVec.ofInt 32 4294967295).toNat:Nat):Int)=4294967295
 rw[show BitVec.ofInt 32 4294967295=BitVec.allOnes 32 from by decide,BitVec.or_allOnes]
 rfl
theorem pr_blank{w:Int}(h0:0<=w)(h1:w<4294967296):Sp.andnI .u32 4294967295 (Sp.andnI .u32 4294967295 w)=w:=by
 show wrap .u32 (((BitVec.ofInt 32 4294967295&&& ~~~ BitVec.ofInt 32 (wrap .u32 (((BitVec.ofInt 32 4294967295&&& ~~~ BitVec.ofInt 32 w).toNat:Nat):Int))).toNat:Nat):Int)=w
 obtain⟨k,rfl⟩:=Int.eq_ofNat_of_zero_le h0
 rw[bvk,show BitVec.ofInt 32 4294967295=BitVec.allOnes 32 from by decide,BitVec.allOnes_and,BitVec.allOnes_and,BitVec.not_not,ofInt_nat (by omega),u32_wrap_nat (by omega)]
theorem dol_app:∀(x y:List StT)(s:RsT),Sp.dol (x++y) s=Sp.dol y (Sp.dol x s)
 |[],y,s=>rfl
 |a::x,y,s=>by
  rw[List.cons_append,Sp.dol,Sp.dol]
  by_cases e:s.2.2.1=0
  ·rw[if_pos e,if_pos e,dol_app x y]
  ·rw[if_neg e,if_neg e,dol_stop y e]
theorem dol_one(x:StT)(s:RsT):Sp.dol [x] s=if s.2.2.1=0 then Sp.dop s x else s:=rfl
structure EB(f0:FlT)(a k:Nat)(s:RsT):Prop where
 g:SG f0 s
 r:s.1.2.2=f0.2.2
 q:∀i,a+k<=i->s.1.2.1.getD i 0=f0.2.1.getD i 0
 b:s.2.2.1=0->∀i,64*a<=i->i<64*(a+k)->s.1.1.getD i 0=4294967295
 o:∀i,i<64*a\/64*(a+k)<=i->s.1.1.getD i 0=f0.1.getD i 0
theorem EB.init{f:FlT}{p:PwT}(h:Sp.fv f=true)(hw:W32f f)(h0:0<=p.1)(h1:p.1<=1099511627776)(a:Nat):EB f a 0 (f,p,0,()) :=
 ⟨SG.init h hw h0 h1,rfl,fun _ _=>rfl,fun _ i _ _=>by omega,fun _ _=>rfl⟩
theorem EB.up{f0:FlT}{a k j:Nat}{s:RsT}(h:EB f0 a k s)(hj:k<=j)(e:s.2.2.1≠0):EB f0 a j s:=
 ⟨h.g,h.r,fun i hi=>h.q i (by omega),fun e0=>absurd e0 e,fun i hi=>h.o i (by omega)⟩
theorem EB.step{f0:FlT}{a k:Nat}{s:RsT}(h:EB f0 a k s)(hk:a+k<f0.2.1.length)(hw:f0.2.1.getD (a+k) 0≠f0.2.2.1)(e:s.2.2.1=0):EB f0 a (k+1) (Sp.ers s.1 (a+k) s.2.1):=by
 have hl:s.1.2.2.1=f0.2.2.1:=by rw[h.r]
 have hn:s.1.2.1.getD (a+k) 0≠s.1.2.2.1:=by rw[h.q (a+k) (Nat.le_refl _),hl];exact hw
 have hkl:a+k<s.1.2.1.length:=by rw[h.g.n];exact hk
 have v:=fv_iff.1 h.g.v
 have sg:SG f0 (Sp.ers s.1 (a+k) s.2.1):=(ers_sg h.g hk).resolve_right (fun z=>by
  unfold Sp.ers at z
  rw[if_neg hn]at z
  split at z
  ·exact absurd (show(18:Int)=19 from z) (by decide)
  split at z
  ·exact absurd (show(18:Int)=19 from z) (by decide)
  ·exact absurd (show(0:Int)=19 from z) (by decide))
 have hr1:∀b,(Sp.ew s.1 (a+k) b).2.2=f0.2.2:=fun b=>by rw[<-h.r];rfl
 have hq1:∀b i,a+(k+1)<=i->(Sp.ew s.1 (a+k) b).2.1.getD i 0=f0.2.1.getD i 0:=fun b i hi=>by
  unfold Sp.ew;dsimp only
  rw[<-h.q i (by omega),getD_set _ _ _ _ _ hkl,if_neg (by omega)]
 have hg:∀b i,(Sp.ew s.1 (a+k) b).1.getD i 0=if 64*(a+k)<=i/\i<64*(a+k+1)then Sp.orI .u32 (s.1.1.getD i 0) b else s.1.1.getD i 0:=fun b i=>by
  unfold Sp.ew;dsimp only
  by_cases hi:i<s.1.1.length
  ·rw[orW_get _ _ _ _ _ hi]
   by_cases c:64*(a+k)<=i/\i<64*(a+k+1)
   ·rw[if_pos c,if_pos (by omega)]
   ·rw[if_neg c,if_neg (by omega)]
  ·rw[if_neg (by omega),List.getD_eq_getElem?_getD,List.getD_eq_getElem?_getD,List.getElem?_eq_none (by rw[orW_len];omega),List.getElem?_eq_none (by omega)]
 have ho1:∀b i,i<64*a\/64*(a+(k+1))<=i->(Sp.ew s.1 (a+k) b).1.getD i 0=f0.1.getD i 0:=fun b i hi=>by
  rw[hg,if_neg (by omega),h.o i (by omega)]
 revert sg
 unfold Sp.ers
 rw[if_neg hn]
 split
 ·exact fun sg=>⟨sg,h.r,fun i hi=>h.q i (by omega),fun z=>absurd z (show(18:Int)≠0 by decide),fun i hi=>h.o i (by omega)⟩
 split
 ·exact fun sg=>⟨sg,hr1 _,hq1 _,fun z=>absurd z (show(18:Int)≠0 by decide),ho1 _⟩
 ·refine fun sg=>⟨sg,hr1 _,hq1 _,fun _ i h1 h2=> ?_,ho1 _⟩
  show(Sp.ew s.1 (a+k) 4294967295).1.getD i 0=_
  rw[hg]
  split
  ·exact or_blank _
  ·exact h.b e i h1 (by omega)
theorem wor_at{f:FlT}:∀(n a:Nat),Sp.wor f n a=false->∀i,a<=i->i<a+n->f.2.1.getD i 0≠f.2.2.1
 |0,a,_,i,h1,h2=>by omega
 |n+1,a,h,i,h1,h2=>by
  rw[Sp.wor,Bool.or_eq_false_iff]at h
  by_cases e:i=a
  ·subst e
   have:=of_decide_eq_false h.1
   omega
  ·exact wor_at n (a+1) h.2 i (by omega) (by omega)
theorem erl_b{f0:FlT}{a:Nat}:∀(n k:Nat){s:RsT},EB f0 a k s->a+k+n<=f0.2.1.length->Sp.wor f0 n (a+k)=false->EB f0 a (k+n) (Sp.dol (Sp.erl n ((a+k:Nat):Int)) s)
 |0,k,s,h,_,_=>h
 |n+1,k,s,h,hl,hw=>by
  rw[Sp.erl,Sp.dol]
  split
  ·rename_i e
   have w0:=wor_at _ _ hw (a+k) (by omega) (by omega)
   have:=erl_b n (k+1) (h.step (by omega) w0 e) (by omega) (by
    rw[Sp.wor,Bool.or_eq_false_iff]at hw
    exact hw.2)
   unfold Sp.dop
   dsimp only
   rw[if_pos rfl,Int.toNat_natCast,show k+(n+1)=k+1+n by omega,show((a+k:Nat):Int)+1=((a+(k+1):Nat):Int) by push_cast;omega]
   exact this
  ·rename_i e
   exact h.up (by omega) e
theorem prg_b{f:FlT}{k:Nat}{w:Int}{p:PwT}(h0:0<=w)(h1:w<4294967296)(hk:k<f.1.length)(hb:f.1.getD k 0=4294967295)(e:(Sp.prg f k w p).2.2.1=0):(Sp.prg f k w p).1=(f.1.set k w,f.2.1,f.2.2.1,()):=by
 revert e
 unfold Sp.prg
 split
 ·exact fun e=>absurd e (show(18:Int)≠0 by decide)
 split
 ·exact fun e=>absurd e (show(18:Int)≠0 by decide)
 ·intro _
  show Sp.pw f k w 4294967295=_
  unfold Sp.pw
  rw[hb,pr_blank h0 h1]
set_option linter.unusedVariables false
noncomputable section
abbrev A_105:List Ty:=[(.slice (.pair (.int .i64) (.pair (.slice (.int .u32)) .unit))),(.int .i64),(.slice (.int .u32))]
abbrev R_105:List Ty:=[(.slice (.pair (.int .i64) (.pair (.slice (.int .u32)) .unit)))]
noncomputable def sm_105:Nat->Option Summ:=smL []
noncomputable def T_105_0:PS:=⟨60,[(0,.hv (.slice (.pair (.int .i64) (.pair (.slice (.int .u32)) .unit)))),(1,.hv (.int .i64)),(2,.hv (.slice (.int .u32))),(7,.kc (.whole 0)),(8,.hv .bool),(9,.hv (.int .i64))],[.vec 71 (.pair (.int .i64) (.pair (.slice (.int .u32)) .unit))],0⟩
inductive Sp.E_105_0 where
 |e0 (p1:Int) (p2:List Int) (p3:Bool) (p5:List (Int×List Int×Unit))
noncomputable def Sp.B_105_0{R:Type}(r:Option E_105_0)(k0:Int->List Int->Bool->(List (Int×List Int×Unit))->Option R):Option R:=match r with
 |none=>none
 |some (.e0 p1 p2 p3 p5)=>k0 p1 p2 p3 p5
noncomputable def Y_105_0{R:Type}(k:Ex->St->Option R):E_105_0->Option R
 | .e0 p1 p2 p3 p5=>k (Ex.exit 0) (sx 60 [(1,CV.int i64 p1),(2,CV.pure (Ty.slice (Ty.int u32)) p2),(7,CV.whole 0),(8,CV.bool p3)] [Blk.vec 71 (Ty.pair (Ty.int i64) (Ty.pair (Ty.slice (Ty.int u32)) Ty.unit)) p5])
noncomputable def Sp.S_105_0{R:Type}(K:(List (Int×List Int×Unit))->Int->List Int->Bool->Int->(List (Int×List Int×Unit))->Option R)(k:E_105_0->Option R)(p0:List (Int×List Int×Unit))(p1:Int)(p2:List Int)(p3:Bool)(p4:Int)(p5:List (Int×List Int×Unit)):Option R:=
 bif decide (p4<(↑(length p0):Int))then bif !p3 then gd (inB p4 (length p0)) (bif decide ((getD p0 (toNat p4) Zd2).1>=p1)then gd (room (0+length p2) 4) (gd (room (length p5+1) 32) (gd (inB p4 (length p0)) (bif(getD p0 (toNat p4) Zd2).1 !=p1 then gd (inB p4 (length p0)) (gd (room (length (p5++[(p1,[]++p2,PUnit.unit)])+1) 32) (K p0 p1 p2 true (wrap i64 (p4+1)) (p5++[(p1,[]++p2,PUnit.unit)]++[getD p0 (toNat p4) Zd2])))else K p0 p1 p2 true (wrap i64 (p4+1)) (p5++[(p1,[]++p2,PUnit.unit)]))))else gd (inB p4 (length p0)) (bif(getD p0 (toNat p4) Zd2).1 !=p1 then gd (inB p4 (length p0)) (gd (room (length p5+1) 32) (K p0 p1 p2 p3 (wrap i64 (p4+1)) (p5++[getD p0 (toNat p4) Zd2])))else K p0 p1 p2 p3 (wrap i64 (p4+1)) p5))else gd (inB p4 (length p0)) (bif(getD p0 (toNat p4) Zd2).1 !=p1 then gd (inB p4 (length p0)) (gd (room (length p5+1) 32) (K p0 p1 p2 p3 (wrap i64 (p4+1)) (p5++[getD p0 (toNat p4) Zd2])))else K p0 p1 p2 p3 (wrap i64 (p4+1)) p5)else k (E_105_0.e0 p1 p2 p3 p5)
noncomputable def Sp.L_105_0:Nat->(List (Int×List Int×Unit))->Int->List Int->Bool->Int->(List (Int×List Int×Unit))->Option E_105_0
 |0,_,_,_,_,_,_=>none
 |m+1,p0,p1,p2,p3,p4,p5=>S_105_0 (L_105_0 m) some p0 p1 p2 p3 p4 p5
noncomputable def l_105_0(m:Nat)(a:T_105_0.E):Option E_105_0:=L_105_0 m a.1 a.2.1 a.2.2.1 a.2.2.2.1 a.2.2.2.2.1 a.2.2.2.2.2.1
noncomputable def O_105_0{R:Type}:Orc R:=orL T_105_0 (l_105_0 FU) Y_105_0
noncomputable def F_105(a0:(List (Int×((List Int)×Unit))))(a1:Int)(a2:(List Int)):Option ((List (Int×((List Int)×Unit)))×Unit) :=
 B_105_0 (L_105_0 4611686018427387904 a0 a1 a2 false 0 []) fun y4 y5 y6 y7=>bif !y6 then gd (room (0+length y5) 4) (gd (room (length y7+1) 32) (some (y7++[(y4,[]++y5,PUnit.unit)],PUnit.unit)))else some (y7,PUnit.unit)
noncomputable def Sp.p_105(a0:(List (Int×((List Int)×Unit))))(a1:Int)(a2:(List Int)):Bool:=(F_105 a0 a1 a2).isSome
noncomputable def Sp.v_105(a0:(List (Int×((List Int)×Unit))))(a1:Int)(a2:(List Int)):(List (Int×((List Int)×Unit)))×Unit:=(F_105 a0 a1 a2).getD (dfH R_105)
noncomputable def s_105:Summ:=shS A_105 R_105 (fun x=>p_105 x.1 x.2.1 x.2.2.1) (fun x=>v_105 x.1 x.2.1 x.2.2.1)
theorem pv_105(a0:(List (Int×((List Int)×Unit))))(a1:Int)(a2:(List Int)){y:(List (Int×((List Int)×Unit)))×Unit}(h:F_105 a0 a1 a2=some y):p_105 a0 a1 a2=true/\v_105 a0 a1 a2=y:=pvG h
end
noncomputable section
abbrev A_135:List Ty:=[(.slice (.int .u32))]
abbrev R_135:List Ty:=[(.int .i64)]
noncomputable def sm_135:Nat->Option Summ:=smL []
noncomputable def T_135_0:PS:=⟨30,[(0,.hv (.slice (.int .u32))),(3,.hv (.int .i64)),(4,.hv (.int .i64))],[],0⟩
inductive Sp.E_135_0 where
 |e0 (p1:Int)
noncomputable def Sp.B_135_0{R:Type}(r:Option E_135_0)(k0:Int->Option R):Option R:=match r with
 |none=>none
 |some (.e0 p1)=>k0 p1
noncomputable def Y_135_0{R:Type}(k:Ex->St->Option R):E_135_0->Option R
 | .e0 p1=>k (Ex.exit 0) (sx 30 [(3,CV.int i64 p1)] [])
noncomputable def Sp.S_135_0{R:Type}(K:List Int->Int->Int->Option R)(k:E_135_0->Option R)(p0:List Int)(p1 p2:Int):Option R:=
 bif decide (p2<(↑(length p0):Int))then gd (inB p2 (length p0)) (gd (inB p2 (length p0)) (K p0 (Int.tmod (wrap i64 (wrap i64 (wrap i64 (31*p1)+wrap i64 (Int.fdiv (getD p0 (toNat p2) 0) 65536))+wrap i64 (7*wrap i64 (Int.tmod (getD p0 (toNat p2) 0) 65536)))) 65536) (wrap i64 (p2+1))))else k (E_135_0.e0 p1)
noncomputable def Sp.L_135_0:Nat->List Int->Int->Int->Option E_135_0
 |0,_,_,_=>none
 |m+1,p0,p1,p2=>S_135_0 (L_135_0 m) some p0 p1 p2
noncomputable def l_135_0(m:Nat)(a:T_135_0.E):Option E_135_0:=L_135_0 m a.1 a.2.1 a.2.2.1
noncomputable def O_135_0{R:Type}:Orc R:=orL T_135_0 (l_135_0 FU) Y_135_0
noncomputable def F_135(a0:(List Int)):Option (Int×Unit) :=
 B_135_0 (L_135_0 4611686018427387904 a0 0 0) fun y1=>some (y1,PUnit.unit)
noncomputable def Sp.p_135(a0:(List Int)):Bool:=(F_135 a0).isSome
noncomputable def Sp.v_135(a0:(List Int)):Int×Unit:=(F_135 a0).getD (dfH R_135)
noncomputable def s_135:Summ:=shN A_135 R_135 (fun x=>p_135 x.1) (fun x=>v_135 x.1)
theorem pv_135(a0:(List Int)){y:Int×Unit}(h:F_135 a0=some y):p_135 a0=true/\v_135 a0=y:=pvG h
end
noncomputable section
abbrev A_134:List Ty:=[(.int .i64)]
abbrev R_134:List Ty:=[.bool]
noncomputable def sm_134:Nat->Option Summ:=smL []
noncomputable def F_134(a0:Int):Option (Bool×Unit) :=
 bif decide (a0>=0)then some (decide (a0<=254),PUnit.unit)else some (false,PUnit.unit)
noncomputable def Sp.p_134(a0:Int):Bool:=(F_134 a0).isSome
noncomputable def Sp.v_134(a0:Int):Bool×Unit:=(F_134 a0).getD (dfH R_134)
noncomputable def s_134:Summ:=shN A_134 R_134 (fun x=>p_134 x.1) (fun x=>v_134 x.1)
theorem pv_134(a0:Int){y:Bool×Unit}(h:F_134 a0=some y):p_134 a0=true/\v_134 a0=y:=pvG h
end
theorem rky_pv(k:Int):p_134 k=true/\v_134 k=((decide (0<=k)&&decide (k<=254)),()):=by
 refine pv_134 k ?_
 unfold F_134
 by_cases h:k>=0
 ·rw[cond_dtt h,decide_eq_true (p:=0<=k) h,Bool.true_and]
 ·rw[cond_dff h,decide_eq_false (p:=0<=k) h,Bool.false_and]
theorem rsum_l{l:List Int}(hw:W32l l)(hl:l.length<1000000):∀(d m j:Nat)(s:Int),0<=s->s<65536->j+d=l.length->d<m->L_135_0 m l s j=some (.e0 ((l.drop j).foldl Sp.stp s)):=by
 intro d
 induction d with
 |zero=>
  intro m j s _ _ hj hm
  obtain⟨m,rfl⟩:∃k,m=k+1:=⟨m-1,by omega⟩
  rw[L_135_0,S_135_0,cond_dff (by omega),List.drop_of_length_le (by omega)]
  rfl
 |succ d ih=>
  intro m j s h0 h1 hj hm
  obtain⟨m,rfl⟩:∃k,m=k+1:=⟨m-1,by omega⟩
  have hx:=hw.at j
  have e:Int.fdiv (l.getD j 0) 65536=l.getD j 0/65536:=Int.fdiv_eq_ediv_of_nonneg _ (by decide)
  have e2:Int.tmod (l.getD j 0) 65536=l.getD j 0%65536:=Int.tmod_eq_emod_of_nonneg hx.1
  have e3:l.drop j=l.getD j 0::l.drop (j+1):=by
   have hj':j<l.length:=by omega
   rw[List.drop_eq_getElem_cons hj',List.getD_eq_getElem?_getD,List.getElem?_eq_getElem hj'];rfl
  have r:=ih m (j+1) (Sp.stp s (l.getD j 0)) (by unfold Sp.stp;omega) (by unfold Sp.stp;omega) (by omega) (by omega)
  rw[L_135_0,S_135_0,cond_dtt (by omega),gd_inB (by omega) (by omega),gd_inB (by omega) (by omega),Int.toNat_natCast,e,e2,e3,List.foldl_cons]
  generalize l.getD j 0=x at *
  rw[wi64 (n:=31*s) (by omega) (by omega),wi64 (n:=x/65536) (by omega) (by omega),wi64 (n:=31*s+x/65536) (by omega) (by omega),wi64 (n:=x%65536) (by omega) (by omega),wi64 (n:=7*(x%65536)) (by omega) (by omega),wi64 (n:=31*s+x/65536+7*(x%65536)) (by omega) (by omega),Int.tmod_eq_emod_of_nonneg (by omega),wi64 (by omega) (by omega),show(j:Int)+1=((j+1:Nat):Int) by push_cast;rfl]
  exact r
theorem rsum_pv{l:List Int}(hw:W32l l)(hl:l.length<1000000):p_135 l=true/\v_135 l=(Sp.smw l,()):=by
 refine pv_135 l ?_
 unfold F_135
 have:=rsum_l hw hl l.length 4611686018427387904 0 0 (by decide) (by decide) (by omega) (by omega)
 rw[List.drop_zero]at this
 exact(congrArg (fun z=>B_135_0 z _) this).trans rfl
noncomputable def Asc(es:List EnT):Prop:=∀i j,i<j->j<es.length->(es.getD i Sp.dE).1<(es.getD j Sp.dE).1
theorem bsl_at{es:List EnT}(h:Asc es)(key:Int):∀(f lo hi:Nat),hi-lo<=f->lo<=hi->hi<=es.length->(∀i,i<lo->(es.getD i Sp.dE).1<key)->(∀i,hi<=i->i<es.length->key<=(es.getD i Sp.dE).1) ->
 (∀i,i<Sp.bsl es key f lo hi->(es.getD i Sp.dE).1<key)/\(∀i,Sp.bsl es key f lo hi<=i->i<es.length->key<=(es.getD i Sp.dE).1)
 |0,lo,hi,h0,h1,h2,ha,hb=>by
  have:lo=hi:=by omega
  subst this
  exact⟨ha,hb⟩
 |f+1,lo,hi,h0,h1,h2,ha,hb=>by
  rw[Sp.bsl]
  split
  ·split
   ·rename_i c
    refine bsl_at h key f _ hi (by omega) (by omega) h2 (fun i hi2=> ?_) hb
    by_cases e:i=(lo+hi)/2
    ·rw[e];exact c
    ·have:=h i ((lo+hi)/2) (by omega) (by omega)
     omega
   ·rename_i c
    refine bsl_at h key f lo _ (by omega) (by omega) (by omega) ha (fun i h3 h4=> ?_)
    by_cases e:i=(lo+hi)/2
    ·rw[e];omega
    ·have:=h ((lo+hi)/2) i (by omega) h4
     omega
  ·have:lo=hi:=by omega
   subst this
   exact⟨ha,hb⟩
theorem plE_at{es:List EnT}(h:Asc es)(key:Int):(∀i,i<Sp.plE es key->(es.getD i Sp.dE).1<key)/\(∀i,Sp.plE es key<=i->i<es.length->key<=(es.getD i Sp.dE).1) :=
 bsl_at h key es.length 0 es.length (by omega) (Nat.zero_le _) (Nat.le_refl _) (fun i hi=>by omega) (fun i h1 h2=>by omega)
noncomputable def skE(es:List EnT)(key:Int):Nat:=if Sp.plE es key<es.length/\(es.getD (Sp.plE es key) Sp.dE).1=key then 1 else 0
theorem putE_eq(es:List EnT)(key:Int)(data:List Int):Sp.putE es key data=es.take (Sp.plE es key)++([(key,data,())]++es.drop (Sp.plE es key+skE es key)):=by
 unfold Sp.putE skE
 split
 ·rename_i c
  rw[List.set_eq_take_append_cons_drop,if_pos c.1]
  rfl
 ·rw[Nat.add_zero]
theorem putE_get(es:List EnT)(key:Int)(data:List Int)(i:Nat):((Sp.putE es key data).getD i Sp.dE).1=if i<Sp.plE es key then(es.getD i Sp.dE).1 else if i=Sp.plE es key then key else(es.getD (i-1+skE es key) Sp.dE).1:=by
 have hp:=plE_le es key
 have tl:(es.take (Sp.plE es key)).length=Sp.plE es key:=by rw[List.length_take];omega
 rw[putE_eq,List.getD_eq_getElem?_getD,List.getD_eq_getElem?_getD,List.getD_eq_getElem?_getD,List.getElem?_append,tl]
 split
 ·rename_i c
  rw[List.getElem?_take,if_pos c]
 ·rename_i c
  rw[List.singleton_append]
  obtain⟨d,rfl⟩:∃d,i=Sp.plE es key+d:=⟨i-Sp.plE es key,by omega⟩
  rw[Nat.add_sub_cancel_left]
  cases d with
  |zero=>rw[List.getElem?_cons_zero,if_pos (show Sp.plE es key+0=Sp.plE es key from rfl)];rfl
  |succ d=>rw[List.getElem?_cons_succ,List.getElem?_drop,if_neg (by omega),show Sp.plE es key+(d+1)-1+skE es key=Sp.plE es key+skE es key+d by omega]
theorem putE_ln(es:List EnT)(key:Int)(data:List Int):(Sp.putE es key data).length=es.length+1-skE es key:=by
 have hp:=plE_le es key
 have:Sp.plE es key+skE es key<=es.length:=by unfold skE;split<;>omega
 rw[putE_eq,List.length_append,List.length_append,List.length_take,List.length_drop,List.length_singleton];omega
theorem Asc.put{es:List EnT}(h:Asc es)(key:Int)(data:List Int):Asc (Sp.putE es key data):=by
 have hp:=plE_le es key
 have ha:=plE_at h key
 intro i j hij hj
 rw[putE_ln]at hj
 rw[putE_get,putE_get]
 have hs:Sp.plE es key+skE es key<=es.length:=by unfold skE;split<;>omega
 have hgt:∀k,Sp.plE es key+skE es key<=k->k<es.length->key<(es.getD k Sp.dE).1:=fun k h1 h2=>by
  have h3:=ha.2 k (by omega) h2
  unfold skE at h1
  split at h1
  ·rename_i c
   have:=h (Sp.plE es key) k (by omega) h2
   omega
  ·rename_i c
   by_cases e:(es.getD k Sp.dE).1=key
   ·exfalso
    by_cases e2:k=Sp.plE es key
    ·exact c ⟨by omega,e2▸e⟩
    ·have:=h (Sp.plE es key) k (by omega) h2
     have:=ha.2 (Sp.plE es key) (by omega) (by omega)
     omega
   ·omega
 by_cases c1:i<Sp.plE es key
 ·rw[if_pos c1]
  have k1:=ha.1 i c1
  by_cases c2:j<Sp.plE es key
  ·rw[if_pos c2];exact h i j hij (by omega)
  rw[if_neg c2]
  by_cases c3:j=Sp.plE es key
  ·rw[if_pos c3];exact k1
  ·rw[if_neg c3]
   have:=hgt (j-1+skE es key) (by omega) (by omega)
   omega
 rw[if_neg c1,if_neg (show ¬j<Sp.plE es key by omega),if_neg (show ¬j=Sp.plE es key by omega)]
 by_cases c3:i=Sp.plE es key
 ·rw[if_pos c3]
  exact hgt _ (by omega) (by omega)
 ·rw[if_neg c3]
  exact h _ _ (by omega) (by omega)
theorem rp_t{es:List EnT}{key:Int}(data:List Int)(hl:es.length<=100000):∀(d m j:Nat)(acc:List EnT),j+d=es.length->d<m->acc.length<=j+1->(∀i,j<=i->i<es.length->(es.getD i Sp.dE).1≠key)->L_105_0 m es key data true j acc=some (.e0 key data true (acc++es.drop j)):=by
 intro d
 induction d with
 |zero=>
  intro m j acc hj hm ha hk
  obtain⟨m,rfl⟩:∃k,m=k+1:=⟨m-1,by omega⟩
  rw[L_105_0,S_105_0,cond_dff (by omega),List.drop_of_length_le (by omega),List.append_nil]
 |succ d ih=>
  intro m j acc hj hm ha hk
  obtain⟨m,rfl⟩:∃k,m=k+1:=⟨m-1,by omega⟩
  have hx:=hk j (Nat.le_refl _) (by omega)
  have hx:(es.getD j Zd2).1≠key:=hx
  have dr:es.drop j=es.getD j Zd2::es.drop (j+1):=by
   have hj':j<es.length:=by omega
   rw[List.drop_eq_getElem_cons hj',List.getD_eq_getElem?_getD,List.getElem?_eq_getElem hj'];rfl
  rw[L_105_0,S_105_0,cond_dtt (by omega),Bool.not_true,cond_f,gd_inB (by omega) (by omega),Int.toNat_natCast,cond_ntt hx,gd_inB (by omega) (by omega),gd_room (by omega) (by omega),wi64 (by omega) (by omega),show(j:Int)+1=((j+1:Nat):Int) by push_cast;rfl,dr,
   ih m (j+1) (acc++[es.getD j Zd2]) (by omega) (by omega) (by rw[List.length_append,List.length_singleton];omega) (fun i h1 h2=>hk i (by omega) h2),List.append_assoc,List.singleton_append]
theorem rp_f{es:List EnT}(h:Asc es){key:Int}(data:List Int)(hd:data.length<=1000)(hl:es.length<=100000):∀(d m j:Nat),j+d=es.length->d<m->(∀i,i<j->(es.getD i Sp.dE).1<key) ->
 L_105_0 m es key data false j (es.take j)=some (if Sp.plE es key<es.length then .e0 key data true (Sp.putE es key data)else .e0 key data false es):=by
 have hp:=plE_le es key
 have hpa:=plE_at h key
 intro d
 induction d with
 |zero=>
  intro m j hj hm hk
  obtain⟨m,rfl⟩:∃k,m=k+1:=⟨m-1,by omega⟩
  have:¬Sp.plE es key<es.length:=fun c=>by
   have h1:=hpa.2 (Sp.plE es key) (Nat.le_refl _) c
   have h2:=hk (Sp.plE es key) (by omega)
   omega
  rw[L_105_0,S_105_0,cond_dff (by omega),if_neg this,List.take_of_length_le (by omega)]
 |succ d ih=>
  intro m j hj hm hk
  obtain⟨m,rfl⟩:∃k,m=k+1:=⟨m-1,by omega⟩
  have tl:(es.take j).length=j:=by rw[List.length_take];omega
  have dr:es.drop j=es.getD j Zd2::es.drop (j+1):=by
   have hj':j<es.length:=by omega
   rw[List.drop_eq_getElem_cons hj',List.getD_eq_getElem?_getD,List.getElem?_eq_getElem hj'];rfl
  rw[L_105_0,S_105_0,cond_dtt (by omega),Bool.not_false,cond_t,gd_inB (by omega) (by omega),Int.toNat_natCast]
  by_cases c:(es.getD j Zd2).1>=key
  ·have c':key<=(es.getD j Sp.dE).1:=c
   have pj:Sp.plE es key=j:=by
    by_cases a:Sp.plE es key<j
    ·have:=hk _ a
     have:=hpa.2 (Sp.plE es key) (Nat.le_refl _) (by omega)
     omega
    ·by_cases b:j<Sp.plE es key
     ·have:=hpa.1 j b
      omega
     ·omega
   have gt:∀i,j+1<=i->i<es.length->(es.getD i Sp.dE).1≠key:=fun i h1 h2=>by
    have:=h j i (by omega) h2
    omega
   rw[cond_dtt c,gd_room (by omega) (by omega),gd_room (by omega) (by omega),gd_inB (by omega) (by omega),if_pos (by omega),wi64 (n:=(j:Int)+1) (by omega) (by omega),show(j:Int)+1=((j+1:Nat):Int) by push_cast;rfl,List.nil_append,putE_eq,pj]
   by_cases e:(es.getD j Zd2).1=key
   ·have sk:skE es key=1:=by unfold skE;rw[pj,if_pos ⟨by omega,e⟩]
    rw[cond_nff e,rp_t data hl d m (j+1) _ (by omega) (by omega) (by rw[List.length_append,List.length_singleton];omega) gt,sk,List.append_assoc]
   ·have sk:skE es key=0:=by unfold skE;rw[pj,if_neg (fun z=>e z.2)]
    have ln:(es.take j++[((key,data,PUnit.unit):EnT)]).length=j+1:=by rw[List.length_append,List.length_singleton,tl]
    rw[cond_ntt e,gd_inB (by omega) (by omega),gd_room (by omega) (by omega),rp_t data hl d m (j+1) _ (by omega) (by omega) (by rw[List.length_append,List.length_append,List.length_singleton,List.length_singleton];omega) gt,sk,Nat.add_zero j,dr,List.append_assoc,List.append_assoc]
    rfl
  ·have c':(es.getD j Sp.dE).1<key:=by
    have:¬(es.getD j Sp.dE).1>=key:=c
    omega
   have ne:(es.getD j Zd2).1≠key:=by
    have:(es.getD j Sp.dE).1≠key:=by omega
    exact this
   rw[cond_dff c,gd_inB (by omega) (by omega),cond_ntt ne,gd_inB (by omega) (by omega),gd_room (by omega) (by omega),wi64 (by omega) (by omega),show(j:Int)+1=((j+1:Nat):Int) by push_cast;rfl]
   have:=ih m (j+1) (by omega) (by omega) (fun i hi=>by
    by_cases e:i=j
    ·rw[e];exact c'
    ·exact hk i (by omega))
   have tk:es.take (j+1)=es.take j++[es.getD j Zd2]:=by
    have hj':j<es.length:=by omega
    rw[List.take_succ_eq_append_getElem hj',List.getD_eq_getElem?_getD,List.getElem?_eq_getElem hj'];rfl
   rw[tk]at this
   exact this
theorem rput_pv{es:List EnT}(h:Asc es)(key:Int){data:List Int}(hd:data.length<=1000)(hl:es.length<=100000):p_105 es key data=true/\v_105 es key data=(Sp.putE es key data,()):=by
 refine pv_105 es key data ?_
 unfold F_105
 have t:=rp_f h (key:=key) data hd hl es.length 4611686018427387904 0 (by omega) (by omega) (fun i hi=>by omega)
 rw[List.take_zero]at t
 refine(congrArg (fun z=>B_105_0 z _) t).trans ?_
 have hp:=plE_le es key
 by_cases c:Sp.plE es key<es.length
 ·rw[if_pos c]
  rfl
 ·rw[if_neg c]
  unfold B_105_0
  dsimp only
  have sk:skE es key=0:=by unfold skE;rw[if_neg (fun z=>c z.1)]
  rw[Bool.not_false,cond_t,gd_room (by omega) (by omega),gd_room (by omega) (by omega),putE_eq,sk,List.take_of_length_le (by omega),List.drop_of_length_le (by omega)]
  rfl
noncomputable section
abbrev A_100:List Ty:=[(.int .i64),(.slice (.int .u32))]
abbrev R_100:List Ty:=[(.slice (.int .u32))]
noncomputable def sm_100:Nat->Option Summ:=smL [(135,s_135),(136,s_136)]
noncomputable def F_100(a0:Int)(a1:(List Int)):Option ((List Int)×Unit) :=
 gd (p_136 (wrap i64 (wrap i64 (256*a0)+(↑(length a1):Int)))) (gd (room (1+length a1) 4) (gd (p_135 ([(v_136 (wrap i64 (wrap i64 (256*a0)+(↑(length a1):Int)))).1]++a1)) (gd (p_136 ((v_135 ([(v_136 (wrap i64 (wrap i64 (256*a0)+(↑(length a1):Int)))).1]++a1)).1)) (gd (room (length ([(v_136 (wrap i64 (wrap i64 (256*a0)+(↑(length a1):Int)))).1]++a1)+1) 4) (some ([(v_136 (wrap i64 (wrap i64 (256*a0)+(↑(length a1):Int)))).1]++a1++[(v_136 ((v_135 ([(v_136 (wrap i64 (wrap i64 (256*a0)+(↑(length a1):Int)))).1]++a1)).1)).1],PUnit.unit))))))
noncomputable def Sp.p_100(a0:Int)(a1:(List Int)):Bool:=(F_100 a0 a1).isSome
noncomputable def Sp.v_100(a0:Int)(a1:(List Int)):(List Int)×Unit:=(F_100 a0 a1).getD (dfH R_100)
noncomputable def s_100:Summ:=shS A_100 R_100 (fun x=>p_100 x.1 x.2.1) (fun x=>v_100 x.1 x.2.1)
end
noncomputable section
abbrev A_102:List Ty:=[(.int .i64),(.slice (.int .u32))]
abbrev R_102:List Ty:=[(.slice (.pair .bool (.pair (.int .i64) (.pair (.int .u32) .unit))))]
noncomputable def sm_102:Nat->Option Summ:=smL []
noncomputable def T_102_0:PS:=⟨25,[(0,.hv (.int .i64)),(1,.hv (.slice (.int .u32))),(5,.kc (.whole 0)),(6,.hv (.int .i64))],[.vec 140 (.pair .bool (.pair (.int .i64) (.pair (.int .u32) .unit)))],0⟩
inductive Sp.E_102_0 where
 |e0 (p3:List (Bool×Int×Int×Unit))
noncomputable def Sp.B_102_0{R:Type}(r:Option E_102_0)(k0:(List (Bool×Int×Int×Unit))->Option R):Option R:=match r with
 |none=>none
 |some (.e0 p3)=>k0 p3
noncomputable def Y_102_0{R:Type}(k:Ex->St->Option R):E_102_0->Option R
 | .e0 p3=>k (Ex.exit 0) (sx 25 [(5,CV.whole 0)] [Blk.vec 140 (Ty.pair Ty.bool (Ty.pair (Ty.int i64) (Ty.pair (Ty.int u32) Ty.unit))) p3])
noncomputable def Sp.S_102_0{R:Type}(K:Int->List Int->Int->(List (Bool×Int×Int×Unit))->Option R)(k:E_102_0->Option R)(p0:Int)(p1:List Int)(p2:Int)(p3:List (Bool×Int×Int×Unit)):Option R:=
 bif decide (p2<(↑(length p1):Int))then gd (inB p2 (length p1)) (gd (room (length p3+1) 24) (K p0 p1 (wrap i64 (p2+1)) (p3++[(false,wrap i64 (p0+p2),getD p1 (toNat p2) 0,PUnit.unit)])))else k (E_102_0.e0 p3)
noncomputable def Sp.L_102_0:Nat->Int->List Int->Int->(List (Bool×Int×Int×Unit))->Option E_102_0
 |0,_,_,_,_=>none
 |m+1,p0,p1,p2,p3=>S_102_0 (L_102_0 m) some p0 p1 p2 p3
noncomputable def l_102_0(m:Nat)(a:T_102_0.E):Option E_102_0:=L_102_0 m a.1 a.2.1 a.2.2.1 a.2.2.2.1
noncomputable def O_102_0{R:Type}:Orc R:=orL T_102_0 (l_102_0 FU) Y_102_0
noncomputable def F_102(a0:Int)(a1:(List Int)):Option ((List (Bool×(Int×(Int×Unit))))×Unit) :=
 B_102_0 (L_102_0 4611686018427387904 a0 a1 0 []) fun y1=>some (y1,PUnit.unit)
noncomputable def Sp.p_102(a0:Int)(a1:(List Int)):Bool:=(F_102 a0 a1).isSome
noncomputable def Sp.v_102(a0:Int)(a1:(List Int)):(List (Bool×(Int×(Int×Unit))))×Unit:=(F_102 a0 a1).getD (dfH R_102)
noncomputable def s_102:Summ:=shS A_102 R_102 (fun x=>p_102 x.1 x.2.1) (fun x=>v_102 x.1 x.2.1)
end
noncomputable section
abbrev Zt104_0:Type:=(List Int×List Int×Int×Unit)×Int×Int×Unit
abbrev Zy104_1:Ty:=(.pair (.pair (.slice (.int .u32)) (.pair (.slice (.int .i64)) (.pair (.int .i64) .unit))) (.pair (.int .i64) (.pair (.int .i64) .unit)))
abbrev Zy104_2:Ty:=(.slice (.pair (.int .i64) (.pair (.slice (.int .u32)) .unit)))
abbrev Zt104_3:Type:=List (Bool×Int×Int×Unit)
abbrev Zt104_4:Type:=List (Int×List Int×Unit)
abbrev A_104:List Ty:=[(.pair (.pair (.slice (.int .u32)) (.pair (.slice (.int .i64)) (.pair (.int .i64) .unit))) (.pair (.int .i64) (.pair (.int .i64) .unit))),(.slice (.pair (.int .i64) (.pair (.slice (.int .u32)) .unit)))]
abbrev R_104:List Ty:=[(.slice (.pair .bool (.pair (.int .i64) (.pair (.int .u32) .unit)))),(.int .i64)]
noncomputable def sm_104:Nat->Option Summ:=smL [(50,s_50),(86,s_86),(100,s_100),(101,s_101),(102,s_102),(103,s_103),(136,s_136),(137,s_137),(138,s_138)]
noncomputable def T_104_0:PS:=⟨105,[(1,.hv Zy104_2),(2,.kc (.ptr 0 [])),(6,.hv (.int .i64)),(7,.hv (.int .i64))],[.mem (.hv Zy104_1)],0⟩
inductive Sp.E_104_0 where
 |e0 (p0:Zt104_4) (p1:Int) (p3:Zt104_0)
noncomputable def Sp.B_104_0{R:Type}(r:Option E_104_0)(k0:Zt104_4->Int->Zt104_0->Option R):Option R:=match r with
 |none=>none
 |some (.e0 p0 p1 p3)=>k0 p0 p1 p3
noncomputable def Y_104_0{R:Type}(k:Ex->St->Option R):E_104_0->Option R
 | .e0 p0 p1 p3=>k (Ex.exit 0) (sx 105 [(1,CV.pure (Ty.slice (Ty.pair (Ty.int i64) (Ty.pair (Ty.slice (Ty.int u32)) Ty.unit))) p0),(2,CV.ptr 0 []),(6,CV.int i64 p1)] [Blk.mem (CV.pure (Ty.pair (Ty.pair (Ty.slice (Ty.int u32)) (Ty.pair (Ty.slice (Ty.int i64)) (Ty.pair (Ty.int i64) Ty.unit))) (Ty.pair (Ty.int i64) (Ty.pair (Ty.int i64) Ty.unit))) p3)])
noncomputable def Sp.S_104_0{R:Type}(K:(List (Int×List Int×Unit))->Int->Int->((List Int×List Int×Int×Unit)×Int×Int×Unit)->Option R)(k:E_104_0->Option R)(p0:List (Int×List Int×Unit))(p1 p2:Int)(p3:(List Int×List Int×Int×Unit)×Int×Int×Unit):Option R:=
 bif decide (p2<(↑(length p0):Int))then gd (inB p2 (length p0)) (K p0 (wrap i64 (wrap i64 (p1+(↑(length ((getD p0 (toNat p2) Zd2).2.1)):Int))+2)) (wrap i64 (p2+1)) p3)else k (E_104_0.e0 p0 p1 p3)
noncomputable def Sp.L_104_0:Nat->(List (Int×List Int×Unit))->Int->Int->((List Int×List Int×Int×Unit)×Int×Int×Unit)->Option E_104_0
 |0,_,_,_,_=>none
 |m+1,p0,p1,p2,p3=>S_104_0 (L_104_0 m) some p0 p1 p2 p3
noncomputable def l_104_0(m:Nat)(a:T_104_0.E):Option E_104_0:=L_104_0 m a.1 a.2.1 a.2.2.1 a.2.2.2.1
noncomputable def O_104_0{R:Type}:Orc R:=orL T_104_0 (l_104_0 FU) Y_104_0
noncomputable def T_104_1:PS:=⟨105,[(1,.hv Zy104_2),(2,.kc (.ptr 0 [])),(8,.hv (.int .i64)),(10,.hv (.int .i64)),(11,.kc (.whole 1)),(12,.hv (.int .i64)),(13,.hv (.int .i64))],[.mem (.hv Zy104_1),.vec 140 (.pair .bool (.pair (.int .i64) (.pair (.int .u32) .unit)))],0⟩
inductive Sp.E_104_1 where
 |e0 (p1 p2:Int) (p5:Zt104_0) (p6:Zt104_3)
noncomputable def Sp.B_104_1{R:Type}(r:Option E_104_1)(k0:Int->Int->Zt104_0->Zt104_3->Option R):Option R:=match r with
 |none=>none
 |some (.e0 p1 p2 p5 p6)=>k0 p1 p2 p5 p6
noncomputable def Y_104_1{R:Type}(k:Ex->St->Option R):E_104_1->Option R
 | .e0 p1 p2 p5 p6=>k (Ex.exit 2) (sx 105 [(2,CV.ptr 0 []),(8,CV.int i64 p1),(10,CV.int i64 p2),(11,CV.whole 1)] [Blk.mem (CV.pure (Ty.pair (Ty.pair (Ty.slice (Ty.int u32)) (Ty.pair (Ty.slice (Ty.int i64)) (Ty.pair (Ty.int i64) Ty.unit))) (Ty.pair (Ty.int i64) (Ty.pair (Ty.int i64) Ty.unit))) p5),Blk.vec 140 (Ty.pair Ty.bool (Ty.pair (Ty.int i64) (Ty.pair (Ty.int u32) Ty.unit))) p6])
noncomputable def Sp.S_104_1{R:Type}(K:(List (Int×List Int×Unit))->Int->Int->Int->Int->((List Int×List Int×Int×Unit)×Int×Int×Unit)->(List (Bool×Int×Int×Unit))->Option R)(k:E_104_1->Option R)(p0:List (Int×List Int×Unit))(p1 p2 p3 p4:Int)(p5:(List Int×List Int×Int×Unit)×Int×Int×Unit)(p6:List (Bool×Int×Int×Unit)):Option R:=
 bif decide (p4<(↑(length p0):Int))then gd (inB p4 (length p0)) (gd (inB p4 (length p0)) (gd (p_100 ((getD p0 (toNat p4) Zd2).1) ((getD p0 (toNat p4) Zd2).2.1)) (gd (p_102 p3 ((v_100 ((getD p0 (toNat p4) Zd2).1) ((getD p0 (toNat p4) Zd2).2.1)).1)) (gd (room (length p6+length ((v_102 p3 ((v_100 ((getD p0 (toNat p4) Zd2).1) ((getD p0 (toNat p4) Zd2).2.1)).1)).1)) 24) (K p0 p1 p2 (wrap i64 (p3+(↑(length ((v_100 ((getD p0 (toNat p4) Zd2).1) ((getD p0 (toNat p4) Zd2).2.1)).1)):Int))) (wrap i64 (p4+1)) p5 (p6++(v_102 p3 ((v_100 ((getD p0 (toNat p4) Zd2).1) ((getD p0 (toNat p4) Zd2).2.1)).1)).1))))))else k (E_104_1.e0 p1 p2 p5 p6)
noncomputable def Sp.L_104_1:Nat->(List (Int×List Int×Unit))->Int->Int->Int->Int->((List Int×List Int×Int×Unit)×Int×Int×Unit)->(List (Bool×Int×Int×Unit))->Option E_104_1
 |0,_,_,_,_,_,_,_=>none
 |m+1,p0,p1,p2,p3,p4,p5,p6=>S_104_1 (L_104_1 m) some p0 p1 p2 p3 p4 p5 p6
noncomputable def l_104_1(m:Nat)(a:T_104_1.E):Option E_104_1:=L_104_1 m a.1 a.2.1 a.2.2.1 a.2.2.2.1 a.2.2.2.2.1 a.2.2.2.2.2.1 a.2.2.2.2.2.2.1
noncomputable def O_104_1{R:Type}:Orc R:=orL T_104_1 (l_104_1 FU) Y_104_1
noncomputable def F_104(a0:(((List Int)×((List Int)×(Int×Unit)))×(Int×(Int×Unit))))(a1:(List (Int×((List Int)×Unit)))):Option ((List (Bool×(Int×(Int×Unit))))×Int×Unit) :=
 B_104_0 (L_104_0 4611686018427387904 a1 1 0 a0) fun y7 y8 y9=>gd (p_101 y9) (bif decide (y8>(v_101 y9).1)then some ([],5,PUnit.unit)else gd (p_50 y9) (gd (p_86 y9 (wrap i64 (1-wrap i64 (1-(v_50 y9).1)))) (gd (p_137 (y9.1) (wrap i64 (y9.2.1+wrap i64 (Int.tdiv (wrap i64 (wrap i64 (1-(v_50 y9).1)*y9.2.2.1)) 2))) (wrap i64 (Int.tdiv (y9.2.2.1) 2))) (bif(v_137 (y9.1) (wrap i64 (y9.2.1+wrap i64 (Int.tdiv (wrap i64 (wrap i64 (1-(v_50 y9).1)*y9.2.2.1)) 2))) (wrap i64 (Int.tdiv (y9.2.2.1) 2))).1 then some ([],19,PUnit.unit)else bif(v_86 y9 (wrap i64 (1-wrap i64 (1-(v_50 y9).1)))).1==65535 then some ([],19,PUnit.unit)else gd (p_138 (wrap i64 (y9.2.1+wrap i64 (Int.tdiv (wrap i64 (wrap i64 (1-(v_50 y9).1)*y9.2.2.1)) 2))) (wrap i64 (Int.tdiv (y9.2.2.1) 2))) (gd (p_103 y9 (wrap i64 (1-(v_50 y9).1))) (B_104_1 (L_104_1 4611686018427387904 y7 (wrap i64 (1-(v_50 y9).1)) ((v_86 y9 (wrap i64 (1-wrap i64 (1-(v_50 y9).1)))).1) (wrap i64 ((v_103 y9 (wrap i64 (1-(v_50 y9).1))).1+1)) 0 y9 ((v_138 (wrap i64 (y9.2.1+wrap i64 (Int.tdiv (wrap i64 (wrap i64 (1-(v_50 y9).1)*y9.2.2.1)) 2))) (wrap i64 (Int.tdiv (y9.2.2.1) 2))).1)) fun y10 y11 y12 y13=>gd (p_103 y12 y10) (gd (p_136 (wrap i64 (y11+1))) (gd (room (length y13+1) 24) (some (y13++[(false,(v_103 y12 y10).1,(v_136 (wrap i64 (y11+1))).1,PUnit.unit)],0,PUnit.unit))))))))))
noncomputable def Sp.p_104(a0:(((List Int)×((List Int)×(Int×Unit)))×(Int×(Int×Unit))))(a1:(List (Int×((List Int)×Unit)))):Bool:=(F_104 a0 a1).isSome
noncomputable def Sp.v_104(a0:(((List Int)×((List Int)×(Int×Unit)))×(Int×(Int×Unit))))(a1:(List (Int×((List Int)×Unit)))):(List (Bool×(Int×(Int×Unit))))×Int×Unit:=(F_104 a0 a1).getD (dfH R_104)
noncomputable def s_104:Summ:=shS A_104 R_104 (fun x=>p_104 x.1 x.2.1) (fun x=>v_104 x.1 x.2.1)
end
namespace Sp
noncomputable def rcd(key:Int)(d:List Int):List Int:=[prw (256*key+d.length)]++d++[prw (smw ([prw (256*key+d.length)]++d))]
noncomputable def rcs(es:List EnT):List Int:=es.flatMap fun e=>rcd e.1 e.2.1
noncomputable def oh(m:MeT):Nat:=1-acv m
noncomputable def hc(m:MeT):Nat:=m.2.2.1.toNat/2
noncomputable def frs(m:MeT):Nat:=m.2.1.toNat+oh m*hc m
noncomputable def cst(m:MeT)(es:List EnT):List StT:=erl (hc m) (frs m)++pgl (rcs es) ((hbs m (oh m):Int)+1)++[(false,(hbs m (oh m):Int),prw (gnr m (acv m)+1),())]
noncomputable def cov(m:MeT)(es:List EnT):List StT×Int×Unit:=if hsz m<1+(rcs es).length then([],5,())else if wor m.1 (hc m) (frs m)=true then([],19,())else if gnr m (acv m)=65535 then([],19,())else(cst m es,0,())
noncomputable def clv(m:MeT)(p:PwT):OuM:=if mvl m=true/\pok p=true then(if(cov m (ent m)).2.1=0 then dov m (cov m (ent m)).1 p else(zM,(0,0,()),(cov m (ent m)).2.1,()))else(zM,(0,0,()),1,())
end Sp
theorem oh_b{m:MeT}(hv:Sp.fv m.1=true)(hp:Sp.plc m=true):Sp.oh m<2/\1<=Sp.hc m/\Sp.hc m<=8/\Sp.frs m+Sp.hc m<=m.1.2.1.length/\Sp.hbs m (Sp.oh m)=64*Sp.frs m/\Sp.hsz m=64*Sp.hc m:=by
 obtain⟨p1,p2,p3,p4,p5⟩:=plc_iff.1 hp
 have v:=fv_iff.1 hv
 have ha:=acv_lt m
 have h2:m.2.2.1.toNat=2*(m.2.2.1.toNat/2):=by omega
 unfold Sp.frs Sp.hbs Sp.hsz Sp.oh Sp.hc
 match h:Sp.acv m,ha with
 |0,_=>simp only[Nat.sub_zero,Nat.one_mul];omega
 |1,_=>simp only[Nat.sub_self,Nat.zero_mul];omega
theorem oh_e{m:MeT}(hv:Sp.fv m.1=true)(hp:Sp.plc m=true):wrap .i64 (1-(Sp.acv m:Int))=(Sp.oh m:Int)/\wrap .i64 (1-(Sp.oh m:Int))=(Sp.acv m:Int) /\
 wrap .i64 (m.2.1+wrap .i64 (Int.tdiv (wrap .i64 ((Sp.oh m:Int)*m.2.2.1)) 2))=(Sp.frs m:Int)/\wrap .i64 (Int.tdiv m.2.2.1 2)=(Sp.hc m:Int)/\wrap .i64 ((Sp.frs m:Int)+(Sp.hc m:Int))=((Sp.frs m+Sp.hc m:Nat):Int):=by
 obtain⟨p1,p2,p3,p4,p5⟩:=plc_iff.1 hp
 have v:=fv_iff.1 hv
 have ob:=oh_b hv hp
 have ha:=acv_lt m
 have eh:wrap .i64 (Int.tdiv m.2.2.1 2)=(Sp.hc m:Int):=by
  rw[Int.tdiv_eq_ediv_of_nonneg (by omega),wi64 (by omega) (by omega)];unfold Sp.hc;omega
 refine⟨?_,?_,?_,eh,?_⟩
 ·unfold Sp.oh;rw[wi64 (by omega) (by omega)];omega
 ·unfold Sp.oh;rw[wi64 (by omega) (by omega)];omega
 ·have e:Int.tdiv (wrap .i64 ((Sp.oh m:Int)*m.2.2.1)) 2=((Sp.oh m*Sp.hc m:Nat):Int):=by
   match h:Sp.oh m,ob.1 with
   |0,_=>simp;decide
   |1,_=>
    rw[wi64 (by omega) (by omega),Int.tdiv_eq_ediv_of_nonneg (by omega)]
    unfold Sp.hc;omega
  have:Sp.frs m=m.2.1.toNat+Sp.oh m*Sp.hc m:=rfl
  rw[e,wi64 (n:=((Sp.oh m*Sp.hc m:Nat):Int)) (by omega) (by omega),wi64 (by omega) (by omega)]
  omega
 ·rw[wi64 (by omega) (by omega)];omega
theorem rcd_len(key:Int)(d:List Int):(Sp.rcd key d).length=d.length+2:=by
 unfold Sp.rcd
 rw[List.length_append,List.length_append,List.length_singleton,List.length_singleton];omega
theorem rcd_w{key:Int}{d:List Int}(h0:0<=key)(h1:key<=254)(hd:d.length<=24)(hw:W32l d):W32l ([Sp.prw (256*key+d.length)]++d):=fun x hx=>by
 rcases List.mem_append.1 hx with hx|hx
 ·rw[List.mem_singleton.1 hx]
  have:=prw_b (n:=256*key+d.length) (by omega) (by omega)
  exact⟨this.1,this.2.1⟩
 ·exact hw x hx
theorem rcd_pv{key:Int}{d:List Int}(h0:0<=key)(h1:key<=254)(hd:d.length<=24)(hw:W32l d):p_93 key d=true/\v_93 key d=(Sp.rcd key d,()):=by
 have e1:wrap .i64 (wrap .i64 (256*key)+(d.length:Int))=256*key+d.length:=by
  rw[wi64 (n:=256*key) (by omega) (by omega),wi64 (by omega) (by omega)]
 have pr:=pair_pv (n:=256*key+d.length) (by omega) (by omega)
 have w:=rcd_w h0 h1 hd hw
 have ll:([Sp.prw (256*key+d.length)]++d).length=d.length+1:=by rw[List.length_append,List.length_singleton];omega
 have s:=sum_pv w (by omega)
 have sb:=smw_b ([Sp.prw (256*key+d.length)]++d) 0 (by decide) (by decide)
 have pr2:=pair_pv (n:=Sp.smw ([Sp.prw (256*key+d.length)]++d)) sb.1 sb.2
 refine pv_93 key d ?_
 unfold F_93
 rw[e1,pr.1,pr.2,gd_tt]
 dsimp only
 rw[gd_room (by omega) (by omega),s.1,s.2,gd_tt]
 dsimp only
 rw[pr2.1,pr2.2,gd_tt,ll,gd_room (by omega) (by omega)]
 rfl
theorem rcs_s{es:List EnT}{j:Nat}(h:j<es.length):Sp.rcs (es.take (j+1))=Sp.rcs (es.take j)++Sp.rcd (es.getD j Zd2).1 (es.getD j Zd2).2.1:=by
 unfold Sp.rcs
 rw[List.take_succ_eq_append_getElem h,List.flatMap_append,getD_at _ h]
 congr 1
 rw[List.flatMap_cons,List.flatMap_nil,List.append_nil]
theorem rcs_len:∀ {es:List EnT},KOK es->(Sp.rcs es).length<=26*es.length
 |[],_=>Nat.zero_le _
 |e::es,h=>by
  have:=rcs_len (es:=es) (fun x hx=>h x (List.mem_cons_of_mem _ hx))
  have h1:=(h e (List.mem_cons_self ..)).2.1
  unfold Sp.rcs at this⊢
  rw[List.flatMap_cons,List.length_append,rcd_len,List.length_cons]
  omega
theorem KOK.take{es:List EnT}(h:KOK es)(j:Nat):KOK (es.take j):=fun e he=>h e (List.mem_of_mem_take he)
theorem KOK.get{es:List EnT}(h:KOK es){j:Nat}(hj:j<es.length):(0<=(es.getD j Zd2).1/\(es.getD j Zd2).1<=254)/\(es.getD j Zd2).2.1.length<=24/\W32l (es.getD j Zd2).2.1:=by
 rw[getD_at _ hj]
 exact h _ (List.getElem_mem hj)
theorem cov_pv{m:MeT}(hw:W32f m.1)(hv:Sp.fv m.1=true)(hp:Sp.plc m=true){es:List EnT}(hk:KOK es)(hl:es.length<=600):p_97 m es=true/\v_97 m es=Sp.cov m es:=by
 have ac:=acv_pv hw hv hp
 have ob:=oh_b hv hp
 have oe:=oh_e hv hp
 have b:=pl_b hv hp
 have v:=fv_iff.1 hv
 have bo:=pl_k hv hp ob.1
 have gb:=gnr_b hw (Sp.acv m)
 have rl:=rcs_len hk
 refine pv_97 m es ?_
 unfold F_97 Sp.cov Sp.cst
 rw[ac.1,ac.2,gd_tt]
 dsimp only
 rw[oe.1]
 have t:=run0 (fun q i acc=>L_97_0 q (Sp.acv m) (Sp.oh m) es es.length i m acc) (n:=es.length) (fun j=>Sp.rcs (es.take j)) (r:=some (.e0 (Sp.acv m) (Sp.oh m) m (Sp.rcs es))) (by omega) (fun q j hj=>by
  show L_97_0 (q+1) (Sp.acv m) (Sp.oh m) es es.length (j:Int) m (Sp.rcs (es.take j))=L_97_0 q (Sp.acv m) (Sp.oh m) es es.length ((j+1:Nat):Int) m (Sp.rcs (es.take (j+1)))
  have g:=hk.get hj
  have r:=rcd_pv g.1.1 g.1.2 g.2.1 g.2.2
  have l1:=rcs_len (hk.take j)
  have tl:(es.take j).length=j:=by rw[List.length_take];omega
  rw[L_97_0,S_97_0,cond_dtt (by omega),gd_inB (by omega) (by omega),Int.toNat_natCast,r.1,r.2,gd_tt]
  dsimp only
  rw[rcd_len,gd_room (by omega) (by omega),wi64 (by omega) (by omega),rcs_s hj]
  push_cast
  rfl) (fun q=>by
  show L_97_0 (q+1) (Sp.acv m) (Sp.oh m) es es.length (es.length:Int) m (Sp.rcs (es.take es.length))=_
  rw[L_97_0,S_97_0,cond_dff (by omega),List.take_length])
 refine(congrArg (fun z=>B_97_0 z _) t).trans ?_
 unfold B_97_0
 dsimp only
 have sz:=msz_pv hv hp
 have gn:=gnr_pv hw hv hp (acv_lt m)
 have er:=erl_pv (m:=m) (by omega) (Sp.frs m) (Sp.hc m) ob.2.2.2.1
 rw[sz.1,sz.2,gd_tt]
 dsimp only
 rw[wi64 (n:=1+((Sp.rcs es).length:Int)) (by omega) (by omega),oe.2.2.1,oe.2.2.2.1,oe.2.2.2.2]
 by_cases c:Sp.hsz m<1+(Sp.rcs es).length
 ·rw[cond_dtt (by omega),if_pos c]
 rw[cond_dff (by omega),if_neg c,er.1,er.2,gd_tt,gn.1,gn.2,gd_tt]
 dsimp only
 cases hwo:Sp.wor m.1 (Sp.hc m) (Sp.frs m)
 rotate_left
 ·rfl
 rw[if_neg Bool.false_ne_true,if_neg Bool.false_ne_true]
 dsimp only
 rw[Bool.not_true,cond_f,wi64 (n:=Sp.gnr m (Sp.acv m)+1) (by omega) (by omega)]
 by_cases c2:Sp.gnr m (Sp.acv m)=65535
 ·rw[cond_dtt (by omega),if_pos c2]
 have ad1:=adr_pv hv hp ob.1 (i:=1) (by decide) (by decide)
 have ad0:=adr_pv hv hp ob.1 (i:=0) (by decide) (by decide)
 rw[Int.add_zero]at ad0
 have pg:=pgl_pv (l:=Sp.rcs es) (by omega) (a:=(Sp.hbs m (Sp.oh m):Int)+1) (by omega) (by omega)
 have pr:=pair_pv (n:=Sp.gnr m (Sp.acv m)+1) (by omega) (by omega)
 rw[cond_dff (by omega),if_neg c2,ad1.1,ad1.2,gd_tt]
 dsimp only
 rw[pg.1,pg.2,gd_tt]
 dsimp only
 rw[erl_len,pgl_len,gd_room (by omega) (by omega),ad0.1,ad0.2,gd_tt,pr.1,pr.2,gd_tt]
 dsimp only
 rw[List.length_append,erl_len,pgl_len,gd_room (by omega) (by omega)]
theorem cst_sv{m:MeT}(hv:Sp.fv m.1=true)(hp:Sp.plc m=true){es:List EnT}(h:1+(Sp.rcs es).length<=Sp.hsz m):(∀x∈Sp.cst m es,SV m.1 x)/\(Sp.cst m es).length<=1000000:=by
 have ob:=oh_b hv hp
 have b:=pl_b hv hp
 have v:=fv_iff.1 hv
 have bo:=pl_k hv hp ob.1
 unfold Sp.cst
 refine⟨fun x hx=> ?_,?_⟩
 ·rcases List.mem_append.1 hx with hx|hx
  ·rcases List.mem_append.1 hx with hx|hx
   ·exact erl_sv (Sp.hc m) (Sp.frs m:Int) (by omega) (by omega) x hx
   ·exact pgl_sv (Sp.rcs es) ((Sp.hbs m (Sp.oh m):Int)+1) (by omega) (by omega) x hx
  ·rw[List.mem_singleton.1 hx]
   exact⟨(by show(0:Int)<=(Sp.hbs m (Sp.oh m):Int);omega),(fun h=>by cases h),(fun _=>by show(Sp.hbs m (Sp.oh m):Int)<_;omega)⟩
 ·rw[List.length_append,List.length_append,erl_len,pgl_len,List.length_singleton];omega
set_option maxRecDepth 100000
set_option maxHeartbeats 4000000
theorem dol_pg{f0:FlT}:∀(l:List StT){s:RsT},(∀x∈l,x.1=false)->SG f0 s->SG f0 (Sp.dol l s)
 |[],_,_,h=>h
 |x::l,s,hx,h=>by
  rw[Sp.dol]
  split
  ·refine dol_pg l (fun y hy=>hx y (List.mem_cons_of_mem _ hy)) ?_
   unfold Sp.dop
   rw[if_neg (by rw[hx x (List.mem_cons_self ..)];exact Bool.false_ne_true)]
   exact prg_sg h _ _
  ·exact h
theorem pgl_f:∀(l:List Int)(a:Int),∀x∈Sp.pgl l a,x.1=false
 |[],_,x,hx=>by cases hx
 |w::l,a,x,hx=>by
  rw[Sp.pgl]at hx
  rcases List.mem_cons.1 hx with rfl|hx
  ·rfl
  ·exact pgl_f l (a+1) x hx
theorem cst_sg{m:MeT}(hw:W32f m.1)(hv:Sp.fv m.1=true)(hp:Sp.plc m=true){p:PwT}(h0:0<=p.1)(h1:p.1<=1099511627776)(es:List EnT)(hwo:Sp.wor m.1 (Sp.hc m) (Sp.frs m)=false):SG m.1 (Sp.dol (Sp.cst m es) (m.1,p,0,())):=by
 have ob:=oh_b hv hp
 have E:=erl_b (f0:=m.1) (a:=Sp.frs m) (Sp.hc m) 0 (EB.init hv hw h0 h1 (Sp.frs m)) (by omega) (by rw[Nat.add_zero];exact hwo)
 rw[Nat.add_zero,Nat.zero_add]at E
 unfold Sp.cst
 rw[List.append_assoc,dol_app]
 refine dol_pg _ (fun x hx=> ?_) E.g
 rcases List.mem_append.1 hx with hx|hx
 ·exact pgl_f _ _ x hx
 ·rw[List.mem_singleton.1 hx]
set_option linter.unusedVariables false
noncomputable section
abbrev Zt99_0:Type:=List (Int×List Int×Unit)
abbrev Zy99_1:Ty:=(.pair (.pair (.slice (.int .u32)) (.pair (.slice (.int .i64)) (.pair (.int .i64) .unit))) (.pair (.int .i64) (.pair (.int .i64) .unit)))
abbrev Zt99_2:Type:=(List Int×List Int×Int×Unit)×Int×Int×Unit
abbrev Zy99_3:Ty:=(.slice (.pair (.int .i64) (.pair (.slice (.int .u32)) .unit)))
abbrev Zy99_4:Ty:=(.pair (.int .i64) (.pair (.slice (.int .u32)) .unit))
abbrev A_99:List Ty:=[(.pair (.pair (.slice (.int .u32)) (.pair (.slice (.int .i64)) (.pair (.int .i64) .unit))) (.pair (.int .i64) (.pair (.int .i64) .unit))),(.int .i64)]
abbrev R_99:List Ty:=[(.slice (.pair (.int .i64) (.pair (.slice (.int .u32)) .unit))),(.int .i64)]
noncomputable def sm_99:Nat->Option Summ:=smL [(101,s_101),(103,s_103),(105,s_105),(121,s_121),(122,s_122),(134,s_134),(135,s_135)]
noncomputable def T_99_0_1:PS:=⟨120,[(1,.hv (.int .i64)),(2,.kc (.ptr 0 [])),(6,.hv (.int .i64)),(7,.hv Zy99_3),(8,.hv (.int .i64))],[.mem (.hv Zy99_1)],0⟩
inductive Sp.E_99_0_1 where
 |e0 (p1:Int) (p2:Zt99_0)
 |e1 (p0 p1:Int) (p2:Zt99_0) (p3:Int) (p4:Zt99_2)
noncomputable def Sp.B_99_0_1{R:Type}(r:Option E_99_0_1)(k0:Int->Zt99_0->Option R)(k1:Int->Int->Zt99_0->Int->Zt99_2->Option R):Option R:=match r with
 |none=>none
 |some (.e0 p1 p2)=>k0 p1 p2
 |some (.e1 p0 p1 p2 p3 p4)=>k1 p0 p1 p2 p3 p4
noncomputable def Y_99_0_1{R:Type}(k:Ex->St->Option R):E_99_0_1->Option R
 | .e0 p1 p2=>k Ex.ret (sx 120 [(4,CV.pure (Ty.slice (Ty.pair (Ty.int i64) (Ty.pair (Ty.slice (Ty.int u32)) Ty.unit))) p2),(5,CV.int i64 p1)] [])
 | .e1 p0 p1 p2 p3 p4=>k (Ex.exit 0) (sx 120 [(1,CV.int i64 p0),(2,CV.ptr 0 []),(6,CV.int i64 p1),(7,CV.pure (Ty.slice (Ty.pair (Ty.int i64) (Ty.pair (Ty.slice (Ty.int u32)) Ty.unit))) p2),(8,CV.int i64 p3)] [Blk.mem (CV.pure (Ty.pair (Ty.pair (Ty.slice (Ty.int u32)) (Ty.pair (Ty.slice (Ty.int i64)) (Ty.pair (Ty.int i64) Ty.unit))) (Ty.pair (Ty.int i64) (Ty.pair (Ty.int i64) Ty.unit))) p4)])
noncomputable def Sp.S_99_0_1{R:Type}(K:Int->Int->(List (Int×List Int×Unit))->Int->((List Int×List Int×Int×Unit)×Int×Int×Unit)->Option R)(k:E_99_0_1->Option R)(p0 p1:Int)(p2:List (Int×List Int×Unit))(p3:Int)(p4:(List Int×List Int×Int×Unit)×Int×Int×Unit):Option R:=
 bif decide (p3<p1)then gd (p_122 p4 p0 p3) (bif(v_122 p4 p0 p3).1 !=4294967295 then gd (p_122 p4 p0 p3) (gd (p_121 ((v_122 p4 p0 p3).1)) (bif !(v_121 ((v_122 p4 p0 p3).1)).2.1 then k (E_99_0_1.e0 p1 p2)else gd (p_134 (wrap i64 (Int.tdiv ((v_121 ((v_122 p4 p0 p3).1)).1) 256))) (bif !(v_134 (wrap i64 (Int.tdiv ((v_121 ((v_122 p4 p0 p3).1)).1) 256))).1 then k (E_99_0_1.e0 p1 p2)else bif decide (Int.tmod ((v_121 ((v_122 p4 p0 p3).1)).1) (256:Int)>(24:Int))then k (E_99_0_1.e0 p1 p2)else bif decide (wrap i64 (wrap i64 (p3+Int.tmod ((v_121 ((v_122 p4 p0 p3).1)).1) 256)+2)>p1)then k (E_99_0_1.e0 p1 p2)else gd (p_103 p4 p0) (gd (sl3 (wrap i64 ((v_103 p4 p0).1+p3)) (wrap i64 (wrap i64 (wrap i64 ((v_103 p4 p0).1+p3)+Int.tmod ((v_121 ((v_122 p4 p0 p3).1)).1) 256)+1)) (↑(length (p4.1.1)):Int)) (gd (p_122 p4 p0 (wrap i64 (wrap i64 (p3+Int.tmod ((v_121 ((v_122 p4 p0 p3).1)).1) 256)+1))) (gd (p_121 ((v_122 p4 p0 (wrap i64 (wrap i64 (p3+Int.tmod ((v_121 ((v_122 p4 p0 p3).1)).1) 256)+1))).1)) (bif(v_121 ((v_122 p4 p0 (wrap i64 (wrap i64 (p3+Int.tmod ((v_121 ((v_122 p4 p0 p3).1)).1) 256)+1))).1)).2.1 then gd (p_135 (take (toNat (wrap i64 (wrap i64 (wrap i64 ((v_103 p4 p0).1+p3)+Int.tmod ((v_121 ((v_122 p4 p0 p3).1)).1) 256)+1))-toNat (wrap i64 ((v_103 p4 p0).1+p3))) (drop (toNat (wrap i64 ((v_103 p4 p0).1+p3))) (p4.1.1)))) (bif(v_121 ((v_122 p4 p0 (wrap i64 (wrap i64 (p3+Int.tmod ((v_121 ((v_122 p4 p0 p3).1)).1) 256)+1))).1)).1==(v_135 (take (toNat (wrap i64 (wrap i64 (wrap i64 ((v_103 p4 p0).1+p3)+Int.tmod ((v_121 ((v_122 p4 p0 p3).1)).1) 256)+1))-toNat (wrap i64 ((v_103 p4 p0).1+p3))) (drop (toNat (wrap i64 ((v_103 p4 p0).1+p3))) (p4.1.1)))).1 then gd (sl3 1 (↑(length (take (toNat (wrap i64 (wrap i64 (wrap i64 ((v_103 p4 p0).1+p3)+Int.tmod ((v_121 ((v_122 p4 p0 p3).1)).1) 256)+1))-toNat (wrap i64 ((v_103 p4 p0).1+p3))) (drop (toNat (wrap i64 ((v_103 p4 p0).1+p3))) (p4.1.1)))):Int) (↑(length (take (toNat (wrap i64 (wrap i64 (wrap i64 ((v_103 p4 p0).1+p3)+Int.tmod ((v_121 ((v_122 p4 p0 p3).1)).1) 256)+1))-toNat (wrap i64 ((v_103 p4 p0).1+p3))) (drop (toNat (wrap i64 ((v_103 p4 p0).1+p3))) (p4.1.1)))):Int)) (gd (p_105 p2 (wrap i64 (Int.tdiv ((v_121 ((v_122 p4 p0 p3).1)).1) 256)) (drop 1 (take (toNat (wrap i64 (wrap i64 (wrap i64 ((v_103 p4 p0).1+p3)+Int.tmod ((v_121 ((v_122 p4 p0 p3).1)).1) 256)+1))-toNat (wrap i64 ((v_103 p4 p0).1+p3))) (drop (toNat (wrap i64 ((v_103 p4 p0).1+p3))) (p4.1.1))))) (K p0 p1 ((v_105 p2 (wrap i64 (Int.tdiv ((v_121 ((v_122 p4 p0 p3).1)).1) 256)) (drop 1 (take (toNat (wrap i64 (wrap i64 (wrap i64 ((v_103 p4 p0).1+p3)+Int.tmod ((v_121 ((v_122 p4 p0 p3).1)).1) 256)+1))-toNat (wrap i64 ((v_103 p4 p0).1+p3))) (drop (toNat (wrap i64 ((v_103 p4 p0).1+p3))) (p4.1.1))))).1) (wrap i64 (wrap i64 (p3+Int.tmod ((v_121 ((v_122 p4 p0 p3).1)).1) 256)+2)) p4))else K p0 p1 p2 (wrap i64 (wrap i64 (p3+Int.tmod ((v_121 ((v_122 p4 p0 p3).1)).1) 256)+2)) p4)else K p0 p1 p2 (wrap i64 (wrap i64 (p3+Int.tmod ((v_121 ((v_122 p4 p0 p3).1)).1) 256)+2)) p4)))))))else k (E_99_0_1.e1 p0 p1 p2 p3 p4))else k (E_99_0_1.e1 p0 p1 p2 p3 p4)
noncomputable def Sp.L_99_0_1:Nat->Int->Int->(List (Int×List Int×Unit))->Int->((List Int×List Int×Int×Unit)×Int×Int×Unit)->Option E_99_0_1
 |0,_,_,_,_,_=>none
 |m+1,p0,p1,p2,p3,p4=>S_99_0_1 (L_99_0_1 m) some p0 p1 p2 p3 p4
noncomputable def l_99_0_1(m:Nat)(a:T_99_0_1.E):Option E_99_0_1:=L_99_0_1 m a.1 a.2.1 a.2.2.1 a.2.2.2.1 a.2.2.2.2.1
noncomputable def O_99_0_1{R:Type}:Orc R:=orL T_99_0_1 (l_99_0_1 FU) Y_99_0_1
noncomputable def T_99_0:PS:=⟨120,[(1,.hv (.int .i64)),(2,.kc (.ptr 0 [])),(6,.hv (.int .i64)),(7,.kc (.whole 1)),(8,.hv (.int .i64))],[.mem (.hv Zy99_1),.vec 71 Zy99_4],0⟩
inductive Sp.E_99_0 where
 |e0 (p1:Int) (p4:Zt99_0)
 |e1 (p0 p1 p2:Int) (p3:Zt99_2) (p4:Zt99_0)
 |e2 (p1:Int) (p2:Zt99_0)
 |e3 (p0 p1:Int) (p2:Zt99_0) (p3:Int) (p4:Zt99_2)
noncomputable def Sp.B_99_0{R:Type}(r:Option E_99_0)(k0:Int->Zt99_0->Option R)(k1:Int->Int->Int->Zt99_2->Zt99_0->Option R)(k2:Int->Zt99_0->Option R)(k3:Int->Int->Zt99_0->Int->Zt99_2->Option R):Option R:=match r with
 |none=>none
 |some (.e0 p1 p4)=>k0 p1 p4
 |some (.e1 p0 p1 p2 p3 p4)=>k1 p0 p1 p2 p3 p4
 |some (.e2 p1 p2)=>k2 p1 p2
 |some (.e3 p0 p1 p2 p3 p4)=>k3 p0 p1 p2 p3 p4
noncomputable def Y_99_0{R:Type}(k:Ex->St->Option R):E_99_0->Option R
 | .e0 p1 p4=>k Ex.ret (sx 120 [(4,CV.whole 0),(5,CV.int i64 p1)] [Blk.vec 71 (Ty.pair (Ty.int i64) (Ty.pair (Ty.slice (Ty.int u32)) Ty.unit)) p4])
 | .e1 p0 p1 p2 p3 p4=>k (Ex.exit 0) (sx 120 [(1,CV.int i64 p0),(2,CV.ptr 0 []),(6,CV.int i64 p1),(7,CV.whole 1),(8,CV.int i64 p2)] [Blk.mem (CV.pure (Ty.pair (Ty.pair (Ty.slice (Ty.int u32)) (Ty.pair (Ty.slice (Ty.int i64)) (Ty.pair (Ty.int i64) Ty.unit))) (Ty.pair (Ty.int i64) (Ty.pair (Ty.int i64) Ty.unit))) p3),Blk.vec 71 (Ty.pair (Ty.int i64) (Ty.pair (Ty.slice (Ty.int u32)) Ty.unit)) p4])
 | .e2 p1 p2=>k Ex.ret (sx 120 [(4,CV.pure (Ty.slice (Ty.pair (Ty.int i64) (Ty.pair (Ty.slice (Ty.int u32)) Ty.unit))) p2),(5,CV.int i64 p1)] [])
 | .e3 p0 p1 p2 p3 p4=>k (Ex.exit 0) (sx 120 [(1,CV.int i64 p0),(2,CV.ptr 0 []),(6,CV.int i64 p1),(7,CV.pure (Ty.slice (Ty.pair (Ty.int i64) (Ty.pair (Ty.slice (Ty.int u32)) Ty.unit))) p2),(8,CV.int i64 p3)] [Blk.mem (CV.pure (Ty.pair (Ty.pair (Ty.slice (Ty.int u32)) (Ty.pair (Ty.slice (Ty.int i64)) (Ty.pair (Ty.int i64) Ty.unit))) (Ty.pair (Ty.int i64) (Ty.pair (Ty.int i64) Ty.unit))) p4)])
noncomputable def Sp.S_99_0{R:Type}(K:Int->Int->Int->((List Int×List Int×Int×Unit)×Int×Int×Unit)->(List (Int×List Int×Unit))->Option R)(KB:Int->Int->(List (Int×List Int×Unit))->Int->((List Int×List Int×Int×Unit)×Int×Int×Unit)->Option R)(k:E_99_0->Option R)(p0 p1 p2:Int)(p3:(List Int×List Int×Int×Unit)×Int×Int×Unit)(p4:List (Int×List Int×Unit)):Option R:=
 bif decide (p2<p1)then gd (p_122 p3 p0 p2) (bif(v_122 p3 p0 p2).1 !=4294967295 then gd (p_122 p3 p0 p2) (gd (p_121 ((v_122 p3 p0 p2).1)) (bif !(v_121 ((v_122 p3 p0 p2).1)).2.1 then k (E_99_0.e0 p1 p4)else gd (p_134 (wrap i64 (Int.tdiv ((v_121 ((v_122 p3 p0 p2).1)).1) 256))) (bif !(v_134 (wrap i64 (Int.tdiv ((v_121 ((v_122 p3 p0 p2).1)).1) 256))).1 then k (E_99_0.e0 p1 p4)else bif decide (Int.tmod ((v_121 ((v_122 p3 p0 p2).1)).1) (256:Int)>(24:Int))then k (E_99_0.e0 p1 p4)else bif decide (wrap i64 (wrap i64 (p2+Int.tmod ((v_121 ((v_122 p3 p0 p2).1)).1) 256)+2)>p1)then k (E_99_0.e0 p1 p4)else gd (p_103 p3 p0) (gd (sl3 (wrap i64 ((v_103 p3 p0).1+p2)) (wrap i64 (wrap i64 (wrap i64 ((v_103 p3 p0).1+p2)+Int.tmod ((v_121 ((v_122 p3 p0 p2).1)).1) 256)+1)) (↑(length (p3.1.1)):Int)) (gd (p_122 p3 p0 (wrap i64 (wrap i64 (p2+Int.tmod ((v_121 ((v_122 p3 p0 p2).1)).1) 256)+1))) (gd (p_121 ((v_122 p3 p0 (wrap i64 (wrap i64 (p2+Int.tmod ((v_121 ((v_122 p3 p0 p2).1)).1) 256)+1))).1)) (bif(v_121 ((v_122 p3 p0 (wrap i64 (wrap i64 (p2+Int.tmod ((v_121 ((v_122 p3 p0 p2).1)).1) 256)+1))).1)).2.1 then gd (p_135 (take (toNat (wrap i64 (wrap i64 (wrap i64 ((v_103 p3 p0).1+p2)+Int.tmod ((v_121 ((v_122 p3 p0 p2).1)).1) 256)+1))-toNat (wrap i64 ((v_103 p3 p0).1+p2))) (drop (toNat (wrap i64 ((v_103 p3 p0).1+p2))) (p3.1.1)))) (bif(v_121 ((v_122 p3 p0 (wrap i64 (wrap i64 (p2+Int.tmod ((v_121 ((v_122 p3 p0 p2).1)).1) 256)+1))).1)).1==(v_135 (take (toNat (wrap i64 (wrap i64 (wrap i64 ((v_103 p3 p0).1+p2)+Int.tmod ((v_121 ((v_122 p3 p0 p2).1)).1) 256)+1))-toNat (wrap i64 ((v_103 p3 p0).1+p2))) (drop (toNat (wrap i64 ((v_103 p3 p0).1+p2))) (p3.1.1)))).1 then gd (sl3 1 (↑(length (take (toNat (wrap i64 (wrap i64 (wrap i64 ((v_103 p3 p0).1+p2)+Int.tmod ((v_121 ((v_122 p3 p0 p2).1)).1) 256)+1))-toNat (wrap i64 ((v_103 p3 p0).1+p2))) (drop (toNat (wrap i64 ((v_103 p3 p0).1+p2))) (p3.1.1)))):Int) (↑(length (take (toNat (wrap i64 (wrap i64 (wrap i64 ((v_103 p3 p0).1+p2)+Int.tmod ((v_121 ((v_122 p3 p0 p2).1)).1) 256)+1))-toNat (wrap i64 ((v_103 p3 p0).1+p2))) (drop (toNat (wrap i64 ((v_103 p3 p0).1+p2))) (p3.1.1)))):Int)) (gd (p_105 p4 (wrap i64 (Int.tdiv ((v_121 ((v_122 p3 p0 p2).1)).1) 256)) (drop 1 (take (toNat (wrap i64 (wrap i64 (wrap i64 ((v_103 p3 p0).1+p2)+Int.tmod ((v_121 ((v_122 p3 p0 p2).1)).1) 256)+1))-toNat (wrap i64 ((v_103 p3 p0).1+p2))) (drop (toNat (wrap i64 ((v_103 p3 p0).1+p2))) (p3.1.1))))) (KB p0 p1 ((v_105 p4 (wrap i64 (Int.tdiv ((v_121 ((v_122 p3 p0 p2).1)).1) 256)) (drop 1 (take (toNat (wrap i64 (wrap i64 (wrap i64 ((v_103 p3 p0).1+p2)+Int.tmod ((v_121 ((v_122 p3 p0 p2).1)).1) 256)+1))-toNat (wrap i64 ((v_103 p3 p0).1+p2))) (drop (toNat (wrap i64 ((v_103 p3 p0).1+p2))) (p3.1.1))))).1) (wrap i64 (wrap i64 (p2+Int.tmod ((v_121 ((v_122 p3 p0 p2).1)).1) 256)+2)) p3))else K p0 p1 (wrap i64 (wrap i64 (p2+Int.tmod ((v_121 ((v_122 p3 p0 p2).1)).1) 256)+2)) p3 p4)else K p0 p1 (wrap i64 (wrap i64 (p2+Int.tmod ((v_121 ((v_122 p3 p0 p2).1)).1) 256)+2)) p3 p4)))))))else k (E_99_0.e1 p0 p1 p2 p3 p4))else k (E_99_0.e1 p0 p1 p2 p3 p4)
noncomputable def C_99_0:E_99_0_1->E_99_0
 | .e0 p1 p2=> .e2 p1 p2
 | .e1 p0 p1 p2 p3 p4=> .e3 p0 p1 p2 p3 p4
noncomputable def Sp.L_99_0:Nat->Int->Int->Int->((List Int×List Int×Int×Unit)×Int×Int×Unit)->(List (Int×List Int×Unit))->Option E_99_0
 |0,_,_,_,_,_=>none
 |m+1,p0,p1,p2,p3,p4=>S_99_0 (L_99_0 m) (fun q0 q1 q2 q3 q4=>B_99_0_1 (L_99_0_1 m q0 q1 q2 q3 q4) (fun p1 p2=>some (E_99_0.e2 p1 p2)) (fun p0 p1 p2 p3 p4=>some (E_99_0.e3 p0 p1 p2 p3 p4))) some p0 p1 p2 p3 p4
noncomputable def l_99_0(m:Nat)(a:T_99_0.E):Option E_99_0:=L_99_0 m a.1 a.2.1 a.2.2.1 a.2.2.2.1 a.2.2.2.2.1
noncomputable def O_99_0{R:Type}:Orc R:=orL T_99_0 (l_99_0 FU) Y_99_0 O_99_0_1
noncomputable def T_99_2:PS:=⟨120,[(1,.hv (.int .i64)),(2,.kc (.ptr 0 [])),(6,.hv (.int .i64)),(7,.kc (.whole 1)),(8,.hv (.int .i64)),(16,.hv (.int .i64))],[.mem (.hv Zy99_1),.vec 71 Zy99_4],0⟩
inductive Sp.E_99_2 where
 |e0 (p1:Int) (p5:Zt99_0)
 |e1 (p2:Int) (p5:Zt99_0)
noncomputable def Sp.B_99_2{R:Type}(r:Option E_99_2)(k0 k1:Int->Zt99_0->Option R):Option R:=match r with
 |none=>none
 |some (.e0 p1 p5)=>k0 p1 p5
 |some (.e1 p2 p5)=>k1 p2 p5
noncomputable def Y_99_2{R:Type}(k:Ex->St->Option R):E_99_2->Option R
 | .e0 p1 p5=>k Ex.ret (sx 120 [(4,CV.whole 0),(5,CV.int i64 p1)] [Blk.vec 71 (Ty.pair (Ty.int i64) (Ty.pair (Ty.slice (Ty.int u32)) Ty.unit)) p5])
 | .e1 p2 p5=>k (Ex.exit 2) (sx 120 [(7,CV.whole 0),(8,CV.int i64 p2)] [Blk.vec 71 (Ty.pair (Ty.int i64) (Ty.pair (Ty.slice (Ty.int u32)) Ty.unit)) p5])
noncomputable def Sp.S_99_2{R:Type}(K:Int->Int->Int->Int->((List Int×List Int×Int×Unit)×Int×Int×Unit)->(List (Int×List Int×Unit))->Option R)(k:E_99_2->Option R)(p0 p1 p2 p3:Int)(p4:(List Int×List Int×Int×Unit)×Int×Int×Unit)(p5:List (Int×List Int×Unit)):Option R:=
 bif decide (p3<p1)then gd (p_122 p4 p0 p3) (bif(v_122 p4 p0 p3).1 !=4294967295 then k (E_99_2.e0 p1 p5)else K p0 p1 p2 (wrap i64 (p3+1)) p4 p5)else k (E_99_2.e1 p2 p5)
noncomputable def Sp.L_99_2:Nat->Int->Int->Int->Int->((List Int×List Int×Int×Unit)×Int×Int×Unit)->(List (Int×List Int×Unit))->Option E_99_2
 |0,_,_,_,_,_,_=>none
 |m+1,p0,p1,p2,p3,p4,p5=>S_99_2 (L_99_2 m) some p0 p1 p2 p3 p4 p5
noncomputable def l_99_2(m:Nat)(a:T_99_2.E):Option E_99_2:=L_99_2 m a.1 a.2.1 a.2.2.1 a.2.2.2.1 a.2.2.2.2.1 a.2.2.2.2.2.1
noncomputable def O_99_2{R:Type}:Orc R:=orL T_99_2 (l_99_2 FU) Y_99_2
noncomputable def T_99_2_1:PS:=⟨120,[(1,.hv (.int .i64)),(2,.kc (.ptr 0 [])),(6,.hv (.int .i64)),(7,.hv Zy99_3),(8,.hv (.int .i64)),(16,.hv (.int .i64))],[.mem (.hv Zy99_1)],0⟩
inductive Sp.E_99_2_1 where
 |e0 (p1:Int) (p2:Zt99_0)
 |e1 (p2:Zt99_0) (p3:Int)
noncomputable def Sp.B_99_2_1{R:Type}(r:Option E_99_2_1)(k0:Int->Zt99_0->Option R)(k1:Zt99_0->Int->Option R):Option R:=match r with
 |none=>none
 |some (.e0 p1 p2)=>k0 p1 p2
 |some (.e1 p2 p3)=>k1 p2 p3
noncomputable def Y_99_2_1{R:Type}(k:Ex->St->Option R):E_99_2_1->Option R
 | .e0 p1 p2=>k Ex.ret (sx 120 [(4,CV.pure (Ty.slice (Ty.pair (Ty.int i64) (Ty.pair (Ty.slice (Ty.int u32)) Ty.unit))) p2),(5,CV.int i64 p1)] [])
 | .e1 p2 p3=>k (Ex.exit 2) (sx 120 [(7,CV.pure (Ty.slice (Ty.pair (Ty.int i64) (Ty.pair (Ty.slice (Ty.int u32)) Ty.unit))) p2),(8,CV.int i64 p3)] [])
noncomputable def Sp.S_99_2_1{R:Type}(K:Int->Int->(List (Int×List Int×Unit))->Int->Int->((List Int×List Int×Int×Unit)×Int×Int×Unit)->Option R)(k:E_99_2_1->Option R)(p0 p1:Int)(p2:List (Int×List Int×Unit))(p3 p4:Int)(p5:(List Int×List Int×Int×Unit)×Int×Int×Unit):Option R:=
 bif decide (p4<p1)then gd (p_122 p5 p0 p4) (bif(v_122 p5 p0 p4).1 !=4294967295 then k (E_99_2_1.e0 p1 p2)else K p0 p1 p2 p3 (wrap i64 (p4+1)) p5)else k (E_99_2_1.e1 p2 p3)
noncomputable def Sp.L_99_2_1:Nat->Int->Int->(List (Int×List Int×Unit))->Int->Int->((List Int×List Int×Int×Unit)×Int×Int×Unit)->Option E_99_2_1
 |0,_,_,_,_,_,_=>none
 |m+1,p0,p1,p2,p3,p4,p5=>S_99_2_1 (L_99_2_1 m) some p0 p1 p2 p3 p4 p5
noncomputable def l_99_2_1(m:Nat)(a:T_99_2_1.E):Option E_99_2_1:=L_99_2_1 m a.1 a.2.1 a.2.2.1 a.2.2.2.1 a.2.2.2.2.1 a.2.2.2.2.2.1
noncomputable def O_99_2_1{R:Type}:Orc R:=orL T_99_2_1 (l_99_2_1 FU) Y_99_2_1 O_99_2
noncomputable def T_99_1:PS:=⟨120,[(1,.hv (.int .i64)),(2,.kc (.ptr 0 [])),(6,.hv (.int .i64)),(7,.kc (.whole 1)),(8,.hv (.int .i64))],[.mem (.hv Zy99_1),.vec 71 Zy99_4],0⟩
inductive Sp.E_99_1 where
 |e0 (y4:Int) (y5:Zt99_0)
noncomputable def Sp.B_99_1{R:Type}(r:Option E_99_1)(k0:Int->Zt99_0->Option R):Option R:=match r with
 |none=>none
 |some (.e0 y4 y5)=>k0 y4 y5
noncomputable def Y_99_1{R:Type}(k:Ex->St->Option R):E_99_1->Option R
 | .e0 y4 y5=>k Ex.ret (sx 120 [(4,CV.whole 0),(5,CV.int i64 y4)] [Blk.vec 71 (Ty.pair (Ty.int i64) (Ty.pair (Ty.slice (Ty.int u32)) Ty.unit)) y5])
noncomputable def Sp.S_99_1{R:Type}(k:E_99_1->Option R)(p0 p1 p2:Int)(p3:(List Int×List Int×Int×Unit)×Int×Int×Unit)(p4:List (Int×List Int×Unit)):Option R:=
 B_99_2 (L_99_2 4611686018427387904 p0 p1 p2 p2 p3 p4) (fun y4 y5=>k (E_99_1.e0 y4 y5)) fun y6 y7=>k (E_99_1.e0 y6 y7)
noncomputable def Sp.J_99_1(p0 p1 p2:Int)(p3:(List Int×List Int×Int×Unit)×Int×Int×Unit)(p4:List (Int×List Int×Unit)):Option E_99_1:=S_99_1 some p0 p1 p2 p3 p4
noncomputable def O_99_1{R:Type}:Orc R:=orL T_99_1 (fun a=>J_99_1 a.1 a.2.1 a.2.2.1 a.2.2.2.1 a.2.2.2.2.1) Y_99_1
noncomputable def T_99_1_1:PS:=⟨120,[(1,.hv (.int .i64)),(2,.kc (.ptr 0 [])),(6,.hv (.int .i64)),(7,.hv Zy99_3),(8,.hv (.int .i64))],[.mem (.hv Zy99_1)],0⟩
inductive Sp.E_99_1_1 where
 |e0 (y4:Int) (y5:Zt99_0)
 |e1 (y6:Zt99_0) (y7:Int)
noncomputable def Sp.B_99_1_1{R:Type}(r:Option E_99_1_1)(k0:Int->Zt99_0->Option R)(k1:Zt99_0->Int->Option R):Option R:=match r with
 |none=>none
 |some (.e0 y4 y5)=>k0 y4 y5
 |some (.e1 y6 y7)=>k1 y6 y7
noncomputable def Y_99_1_1{R:Type}(k:Ex->St->Option R):E_99_1_1->Option R
 | .e0 y4 y5=>k Ex.ret (sx 120 [(4,CV.pure (Ty.slice (Ty.pair (Ty.int i64) (Ty.pair (Ty.slice (Ty.int u32)) Ty.unit))) y5),(5,CV.int i64 y4)] [])
 | .e1 y6 y7=>k Ex.ret (sx 120 [(4,CV.pure (Ty.slice (Ty.pair (Ty.int i64) (Ty.pair (Ty.slice (Ty.int u32)) Ty.unit))) y6),(5,CV.int i64 y7)] [])
noncomputable def Sp.S_99_1_1{R:Type}(k:E_99_1_1->Option R)(p0 p1:Int)(p2:List (Int×List Int×Unit))(p3:Int)(p4:(List Int×List Int×Int×Unit)×Int×Int×Unit):Option R:=
 B_99_2_1 (L_99_2_1 4611686018427387904 p0 p1 p2 p3 p3 p4) (fun y4 y5=>k (E_99_1_1.e0 y4 y5)) fun y6 y7=>k (E_99_1_1.e1 y6 y7)
noncomputable def Sp.J_99_1_1(p0 p1:Int)(p2:List (Int×List Int×Unit))(p3:Int)(p4:(List Int×List Int×Int×Unit)×Int×Int×Unit):Option E_99_1_1:=S_99_1_1 some p0 p1 p2 p3 p4
noncomputable def O_99_1_1{R:Type}:Orc R:=orL T_99_1_1 (fun a=>J_99_1_1 a.1 a.2.1 a.2.2.1 a.2.2.2.1 a.2.2.2.2.1) Y_99_1_1 O_99_1
noncomputable def F_99(a0:(((List Int)×((List Int)×(Int×Unit)))×(Int×(Int×Unit))))(a1:Int):Option ((List (Int×((List Int)×Unit)))×Int×Unit) :=
 gd (p_101 a0) (B_99_0 (L_99_0 4611686018427387904 a1 ((v_101 a0).1) 1 a0 []) (fun y20 y21=>some (y21,y20,PUnit.unit)) (fun y22 y23 y24 y25 y26=>B_99_1 (J_99_1 y22 y23 y24 y25 y26) fun y27 y28=>some (y28,y27,PUnit.unit)) (fun y29 y30=>some (y30,y29,PUnit.unit)) fun y31 y32 y33 y34 y35=>B_99_1_1 (J_99_1_1 y31 y32 y33 y34 y35) (fun y36 y37=>some (y37,y36,PUnit.unit)) fun y38 y39=>some (y38,y39,PUnit.unit))
noncomputable def Sp.p_99(a0:(((List Int)×((List Int)×(Int×Unit)))×(Int×(Int×Unit))))(a1:Int):Bool:=(F_99 a0 a1).isSome
noncomputable def Sp.v_99(a0:(((List Int)×((List Int)×(Int×Unit)))×(Int×(Int×Unit))))(a1:Int):(List (Int×((List Int)×Unit)))×Int×Unit:=(F_99 a0 a1).getD (dfH R_99)
noncomputable def s_99:Summ:=shS A_99 R_99 (fun x=>p_99 x.1 x.2.1) (fun x=>v_99 x.1 x.2.1)
theorem pv_99(a0:(((List Int)×((List Int)×(Int×Unit)))×(Int×(Int×Unit))))(a1:Int){y:(List (Int×((List Int)×Unit)))×Int×Unit}(h:F_99 a0 a1=some y):p_99 a0 a1=true/\v_99 a0 a1=y:=pvG h
end
theorem hwr_sub{m:MeT}{k i n:Nat}(h:i+n<=Sp.hsz m):take n (drop (Sp.hbs m k+i) m.1.1)=take n (drop i (Sp.hwr m k)):=by
 unfold Sp.hwr
 rw[List.drop_take,List.take_take,List.drop_drop,Nat.min_eq_left (by omega)]
theorem nmb_blank:Sp.nmb 4294967295=(65535,false):=by decide
theorem lg1{m:MeT}(hw:W32f m.1)(hv:Sp.fv m.1=true)(hp:Sp.plc m=true){k:Nat}(hk:k<2)(l:List Int)(hl:l=Sp.hwr m k):∀(f q i:Nat)(es:List EnT),Asc es->es.length<=i->i<=l.length->l.length-i<=f->f<q->∀R,R=Sp.rdl l f i es->
 L_99_0_1 q k l.length es i m=some (if R.1<l.length/\l.getD R.1 0≠4294967295 then .e0 l.length R.2 else .e1 k l.length R.2 (R.1:Nat) m)/\Asc R.2:=by
 have b:=pl_b hv hp
 have bk:=pl_k hv hp hk
 have hln:l.length=Sp.hsz m:=by rw[hl];exact hwr_len hv hp hk
 have hW:W32l l:=by rw[hl];exact hw.half k
 have bs:=rbs_pv hv hp hk
 intro f
 induction f with
 |zero=>
  intro q i es ha hn hi hf hq R hR
  obtain⟨q,rfl⟩:∃k,q=k+1:=⟨q-1,by omega⟩
  rw[Sp.rdl]at hR
  subst hR
  refine⟨?_,ha⟩
  rw[if_neg (fun z=>by have:=z.1;dsimp only at this;omega),L_99_0_1,S_99_0_1,cond_dff (by omega)]
 |succ f ih=>
  intro q i es ha hn hi hf hq R hR
  obtain⟨q,rfl⟩:∃k,q=k+1:=⟨q-1,by omega⟩
  obtain⟨n,key,ok,h⟩:=hd_at hW i
  have hn2:=h.n
  have hk0:=h.k0
  have hk1:=h.k1
  rw[rdl_s h]at hR
  by_cases c1:i<l.length
  rotate_left
  ·rw[if_neg (fun a=>c1 a.1)]at hR
   subst hR
   refine⟨?_,ha⟩
   rw[if_neg (fun z=>c1 z.1),L_99_0_1,S_99_0_1,cond_dff (by omega)]
  have wi:=rwd_pv hv hp hk (i:=i) (by omega)
  rw[<-hl]at wi
  have hx:=hW.at i
  have nv:=rnum_pv hx.1 hx.2
  rw[L_99_0_1,S_99_0_1,cond_dtt (by omega),wi.1,wi.2,gd_tt]
  by_cases c0:l.getD i 0=4294967295
  ·have eo:ok=false:=by
    have:=h.e
    rw[c0,nmb_blank]at this
    exact(congrArg Prod.snd this).symm
   rw[if_neg (fun a=>by rw[eo]at a;exact Bool.noConfusion a.2.1)]at hR
   subst hR
   rw[cond_nff c0]
   exact⟨by rw[if_neg (fun z=>z.2 c0)],ha⟩
  rw[cond_ntt c0,gd_tt,nv.1,nv.2,gd_tt,h.e]
  dsimp only
  have stop:some (E_99_0_1.e0 l.length es)=some (if i<l.length/\l.getD i 0≠4294967295 then .e0 l.length es else .e1 k l.length es (i:Nat) m):=by rw[if_pos ⟨c1,c0⟩]
  cases ok with
  |false=>
   rw[if_neg (fun a=>Bool.noConfusion a.2.1)]at hR
   subst hR
   rw[Bool.not_false,cond_t]
   exact⟨stop,ha⟩
  |true=>
  have e1:Int.tdiv (key*256+(n:Int)) 256=key:=by rw[Int.tdiv_eq_ediv_of_nonneg (by omega)];omega
  have e2:Int.tmod (key*256+(n:Int)) 256=(n:Int):=by rw[Int.tmod_eq_emod_of_nonneg (by omega)];omega
  have ky:=rky_pv key
  rw[Bool.not_true,cond_f,e1,e2,wi64 (n:=key) (by omega) (by omega),ky.1,ky.2,gd_tt,decide_eq_true hk0,Bool.true_and]
  by_cases c2:key<=254
  rotate_left
  ·rw[if_neg (fun a=>c2 a.2.2.1)]at hR
   subst hR
   rw[decide_eq_false c2]
   exact⟨stop,ha⟩
  rw[decide_eq_true c2,Bool.not_true,cond_f]
  by_cases c3:(n:Int)>24
  ·rw[if_neg (fun a=>by omega)]at hR
   subst hR
   rw[cond_dtt c3]
   exact⟨stop,ha⟩
  rw[cond_dff c3,wi64 (n:=(i:Int)+(n:Int)) (by omega) (by omega),wi64 (n:=(i:Int)+(n:Int)+2) (by omega) (by omega),wi64 (n:=(i:Int)+(n:Int)+1) (by omega) (by omega)]
  by_cases c4:(i:Int)+(n:Int)+2>(l.length:Int)
  ·rw[if_neg (fun a=>by omega)]at hR
   subst hR
   rw[cond_dtt c4]
   exact⟨stop,ha⟩
  have wy:=rwd_pv hv hp hk (i:=i+n+1) (by omega)
  rw[<-hl]at wy
  have hy:=hW.at (i+n+1)
  have ny:=rnum_pv hy.1 hy.2
  rw[if_pos (show i<l.length/\true=true/\key<=254/\n<=24/\i+n+2<=l.length from⟨c1,rfl,c2,by omega,by omega⟩)]at hR
  rw[cond_dff c4,bs.1,bs.2,gd_tt]
  dsimp only
  rw[wi64 (n:=(Sp.hbs m k:Int)+(i:Int)) (by omega) (by omega),wi64 (n:=(Sp.hbs m k:Int)+(i:Int)+(n:Int)) (by omega) (by omega),wi64 (n:=(Sp.hbs m k:Int)+(i:Int)+(n:Int)+1) (by omega) (by omega),gd_sl3 (by omega) (by omega) (by omega),
   show(i:Int)+(n:Int)+1=((i+n+1:Nat):Int) by push_cast;rfl,show(i:Int)+(n:Int)+2=((i+n+2:Nat):Int) by push_cast;rfl,wy.1,wy.2,gd_tt,ny.1,ny.2,gd_tt,
   show((Sp.hbs m k:Int)+(i:Int)+(n:Int)+1).toNat-((Sp.hbs m k:Int)+(i:Int)).toNat=n+1 by omega,show((Sp.hbs m k:Int)+(i:Int)).toNat=Sp.hbs m k+i by omega,hwr_sub (by omega),<-hl]
  dsimp only
  have next:∀es',Asc es'->es'.length<=es.length+1->_:=fun es' g1 g2=>ih q (i+n+2) es' g1 (by omega) (by omega) (by omega) (by omega) R
  cases hb:(Sp.nmb (l.getD (i+n+1) 0)).2 with
  |false=>
   rw[hb,if_neg (fun a=>Bool.noConfusion a.1)]at hR
   rw[cond_f]
   exact next es ha (by omega) hR
  |true=>
  have tl:(take (n+1) (drop i l)).length=n+1:=by rw[List.length_take,List.length_drop];omega
  have s:=rsum_pv (W32l.td hW (n+1) i) (by omega)
  rw[cond_t,s.1,s.2,gd_tt]
  dsimp only
  by_cases c5:(Sp.nmb (l.getD (i+n+1) 0)).1=Sp.smw (take (n+1) (drop i l))
  rotate_left
  ·rw[if_neg (fun a=>c5 a.2)]at hR
   rw[cond_eff c5]
   exact next es ha (by omega) hR
  have dl:(take n (drop (i+1) l)).length<=24:=by rw[List.length_take];omega
  have pt:=rput_pv ha key (data:=take n (drop (i+1) l)) (by omega) (by omega)
  rw[if_pos ⟨hb,c5⟩]at hR
  rw[cond_ett c5,tl,gd_sl3 (by omega) (by omega) (by omega),List.drop_take,List.drop_drop,show n+1-1=n from rfl,pt.1,pt.2,gd_tt]
  exact next _ (ha.put key _) (putE_len _ _ _) hR
theorem lg0{m:MeT}(hw:W32f m.1)(hv:Sp.fv m.1=true)(hp:Sp.plc m=true){k:Nat}(hk:k<2)(l:List Int)(hl:l=Sp.hwr m k):∀(f q i:Nat),i<=l.length->l.length-i<=f->f<q->∀R,R=Sp.rdl l f i [] ->
 ((L_99_0 q k l.length i m []=some (if R.1<l.length/\l.getD R.1 0≠4294967295 then .e0 l.length []else .e1 k l.length (R.1:Nat) m [])/\R.2=[]) \/
  L_99_0 q k l.length i m []=some (if R.1<l.length/\l.getD R.1 0≠4294967295 then .e2 l.length R.2 else .e3 k l.length R.2 (R.1:Nat) m))/\Asc R.2:=by
 have b:=pl_b hv hp
 have bk:=pl_k hv hp hk
 have hln:l.length=Sp.hsz m:=by rw[hl];exact hwr_len hv hp hk
 have hW:W32l l:=by rw[hl];exact hw.half k
 have bs:=rbs_pv hv hp hk
 have ha:Asc []:=fun i j _ h=>absurd h (Nat.not_lt_zero _)
 intro f
 induction f with
 |zero=>
  intro q i hi hf hq R hR
  obtain⟨q,rfl⟩:∃k,q=k+1:=⟨q-1,by omega⟩
  rw[Sp.rdl]at hR
  subst hR
  refine⟨.inl ⟨?_,rfl⟩,ha⟩
  rw[if_neg (fun z=>by have:=z.1;dsimp only at this;omega),L_99_0,S_99_0,cond_dff (by omega)]
 |succ f ih=>
  intro q i hi hf hq R hR
  obtain⟨q,rfl⟩:∃k,q=k+1:=⟨q-1,by omega⟩
  obtain⟨n,key,ok,h⟩:=hd_at hW i
  have hn2:=h.n
  have hk0:=h.k0
  have hk1:=h.k1
  rw[rdl_s h]at hR
  by_cases c1:i<l.length
  rotate_left
  ·rw[if_neg (fun a=>c1 a.1)]at hR
   subst hR
   refine⟨.inl ⟨?_,rfl⟩,ha⟩
   rw[if_neg (fun z=>c1 z.1),L_99_0,S_99_0,cond_dff (by omega)]
  have wi:=rwd_pv hv hp hk (i:=i) (by omega)
  rw[<-hl]at wi
  have hx:=hW.at i
  have nv:=rnum_pv hx.1 hx.2
  rw[L_99_0,S_99_0,cond_dtt (by omega),wi.1,wi.2,gd_tt]
  by_cases c0:l.getD i 0=4294967295
  ·have eo:ok=false:=by
    have:=h.e
    rw[c0,nmb_blank]at this
    exact(congrArg Prod.snd this).symm
   rw[if_neg (fun a=>by rw[eo]at a;exact Bool.noConfusion a.2.1)]at hR
   subst hR
   rw[cond_nff c0]
   exact⟨.inl ⟨by rw[if_neg (fun z=>z.2 c0)],rfl⟩,ha⟩
  rw[cond_ntt c0,gd_tt,nv.1,nv.2,gd_tt,h.e]
  dsimp only
  have stop:some (E_99_0.e0 l.length [])=some (if i<l.length/\l.getD i 0≠4294967295 then .e0 l.length []else .e1 k l.length (i:Nat) m []):=by rw[if_pos ⟨c1,c0⟩]
  cases ok with
  |false=>
   rw[if_neg (fun a=>Bool.noConfusion a.2.1)]at hR
   subst hR
   rw[Bool.not_false,cond_t]
   exact⟨.inl ⟨stop,rfl⟩,ha⟩
  |true=>
  have e1:Int.tdiv (key*256+(n:Int)) 256=key:=by rw[Int.tdiv_eq_ediv_of_nonneg (by omega)];omega
  have e2:Int.tmod (key*256+(n:Int)) 256=(n:Int):=by rw[Int.tmod_eq_emod_of_nonneg (by omega)];omega
  have ky:=rky_pv key
  rw[Bool.not_true,cond_f,e1,e2,wi64 (n:=key) (by omega) (by omega),ky.1,ky.2,gd_tt,decide_eq_true hk0,Bool.true_and]
  by_cases c2:key<=254
  rotate_left
  ·rw[if_neg (fun a=>c2 a.2.2.1)]at hR
   subst hR
   rw[decide_eq_false c2]
   exact⟨.inl ⟨stop,rfl⟩,ha⟩
  rw[decide_eq_true c2,Bool.not_true,cond_f]
  by_cases c3:(n:Int)>24
  ·rw[if_neg (fun a=>by omega)]at hR
   subst hR
   rw[cond_dtt c3]
   exact⟨.inl ⟨stop,rfl⟩,ha⟩
  rw[cond_dff c3,wi64 (n:=(i:Int)+(n:Int)) (by omega) (by omega),wi64 (n:=(i:Int)+(n:Int)+2) (by omega) (by omega),wi64 (n:=(i:Int)+(n:Int)+1) (by omega) (by omega)]
  by_cases c4:(i:Int)+(n:Int)+2>(l.length:Int)
  ·rw[if_neg (fun a=>by omega)]at hR
   subst hR
   rw[cond_dtt c4]
   exact⟨.inl ⟨stop,rfl⟩,ha⟩
  have wy:=rwd_pv hv hp hk (i:=i+n+1) (by omega)
  rw[<-hl]at wy
  have hy:=hW.at (i+n+1)
  have ny:=rnum_pv hy.1 hy.2
  rw[if_pos (show i<l.length/\true=true/\key<=254/\n<=24/\i+n+2<=l.length from⟨c1,rfl,c2,by omega,by omega⟩)]at hR
  rw[cond_dff c4,bs.1,bs.2,gd_tt]
  dsimp only
  rw[wi64 (n:=(Sp.hbs m k:Int)+(i:Int)) (by omega) (by omega),wi64 (n:=(Sp.hbs m k:Int)+(i:Int)+(n:Int)) (by omega) (by omega),wi64 (n:=(Sp.hbs m k:Int)+(i:Int)+(n:Int)+1) (by omega) (by omega),gd_sl3 (by omega) (by omega) (by omega),
   show(i:Int)+(n:Int)+1=((i+n+1:Nat):Int) by push_cast;rfl,show(i:Int)+(n:Int)+2=((i+n+2:Nat):Int) by push_cast;rfl,wy.1,wy.2,gd_tt,ny.1,ny.2,gd_tt,
   show((Sp.hbs m k:Int)+(i:Int)+(n:Int)+1).toNat-((Sp.hbs m k:Int)+(i:Int)).toNat=n+1 by omega,show((Sp.hbs m k:Int)+(i:Int)).toNat=Sp.hbs m k+i by omega,hwr_sub (by omega),<-hl]
  dsimp only
  have next:=ih q (i+n+2) (by omega) (by omega) (by omega) R
  cases hb:(Sp.nmb (l.getD (i+n+1) 0)).2 with
  |false=>
   rw[hb,if_neg (fun a=>Bool.noConfusion a.1)]at hR
   rw[cond_f]
   exact next hR
  |true=>
  have tl:(take (n+1) (drop i l)).length=n+1:=by rw[List.length_take,List.length_drop];omega
  have s:=rsum_pv (W32l.td hW (n+1) i) (by omega)
  rw[cond_t,s.1,s.2,gd_tt]
  dsimp only
  by_cases c5:(Sp.nmb (l.getD (i+n+1) 0)).1=Sp.smw (take (n+1) (drop i l))
  rotate_left
  ·rw[if_neg (fun a=>c5 a.2)]at hR
   rw[cond_eff c5]
   exact next hR
  have dl:(take n (drop (i+1) l)).length<=24:=by rw[List.length_take];omega
  have pt:=rput_pv ha key (data:=take n (drop (i+1) l)) (by omega) (by decide)
  rw[if_pos ⟨hb,c5⟩]at hR
  rw[cond_ett c5,tl,gd_sl3 (by omega) (by omega) (by omega),List.drop_take,List.drop_drop,show n+1-1=n from rfl,pt.1,pt.2,gd_tt]
  have r:=lg1 hw hv hp hk l hl f q (i+n+2) (Sp.putE [] key (take n (drop (i+1) l))) (ha.put key _) (by have:=putE_len [] key (take n (drop (i+1) l));rw[List.length_nil]at this;omega) (by omega) (by omega) (by omega) R hR
  refine⟨.inr ?_,r.2⟩
  refine(congrArg (fun z=>B_99_0_1 z _ _) r.1).trans ?_
  split<;>rfl
theorem blk_s{l:List Int}{j:Nat}(h:j<l.length):Sp.blk l j=((l.getD j 0==4294967295)&&Sp.blk l (j+1)):=by
 unfold Sp.blk
 have dr:l.drop j=l.getD j 0::l.drop (j+1):=by
  rw[List.drop_eq_getElem_cons h,List.getD_eq_getElem?_getD,List.getElem?_eq_getElem h];rfl
 rw[dr,List.all_cons]
theorem blk_e{l:List Int}{j:Nat}(h:l.length<=j):Sp.blk l j=true:=by
 unfold Sp.blk
 rw[List.drop_of_length_le h];rfl
theorem tb0{m:MeT}(hv:Sp.fv m.1=true)(hp:Sp.plc m=true){k:Nat}(hk:k<2)(l:List Int)(hl:l=Sp.hwr m k)(e:Int)(es:List EnT):∀(d q j:Nat),j+d=l.length->d<q->L_99_2 q k l.length e j m es=some (if Sp.blk l j=true then .e1 e es else .e0 l.length es):=by
 have b:=pl_b hv hp
 have hln:l.length=Sp.hsz m:=by rw[hl];exact hwr_len hv hp hk
 intro d
 induction d with
 |zero=>
  intro q j hj hq
  obtain⟨q,rfl⟩:∃k,q=k+1:=⟨q-1,by omega⟩
  rw[L_99_2,S_99_2,cond_dff (by omega),blk_e (by omega),if_pos rfl]
 |succ d ih=>
  intro q j hj hq
  obtain⟨q,rfl⟩:∃k,q=k+1:=⟨q-1,by omega⟩
  have wi:=rwd_pv hv hp hk (i:=j) (by omega)
  rw[<-hl]at wi
  rw[L_99_2,S_99_2,cond_dtt (by omega),wi.1,wi.2,gd_tt,blk_s (by omega)]
  by_cases c:l.getD j 0=4294967295
  ·rw[cond_nff c,beq_iff_eq.2 c,Bool.true_and,wi64 (by omega) (by omega),show(j:Int)+1=((j+1:Nat):Int) by push_cast;rfl]
   exact ih q (j+1) (by omega) (by omega)
  ·rw[cond_ntt c,beq_eq_false_iff_ne.2 c,Bool.false_and,if_neg Bool.false_ne_true]
theorem tb1{m:MeT}(hv:Sp.fv m.1=true)(hp:Sp.plc m=true){k:Nat}(hk:k<2)(l:List Int)(hl:l=Sp.hwr m k)(e:Int)(es:List EnT):∀(d q j:Nat),j+d=l.length->d<q->L_99_2_1 q k l.length es e j m=some (if Sp.blk l j=true then .e1 es e else .e0 l.length es):=by
 have b:=pl_b hv hp
 have hln:l.length=Sp.hsz m:=by rw[hl];exact hwr_len hv hp hk
 intro d
 induction d with
 |zero=>
  intro q j hj hq
  obtain⟨q,rfl⟩:∃k,q=k+1:=⟨q-1,by omega⟩
  rw[L_99_2_1,S_99_2_1,cond_dff (by omega),blk_e (by omega),if_pos rfl]
 |succ d ih=>
  intro q j hj hq
  obtain⟨q,rfl⟩:∃k,q=k+1:=⟨q-1,by omega⟩
  have wi:=rwd_pv hv hp hk (i:=j) (by omega)
  rw[<-hl]at wi
  rw[L_99_2_1,S_99_2_1,cond_dtt (by omega),wi.1,wi.2,gd_tt,blk_s (by omega)]
  by_cases c:l.getD j 0=4294967295
  ·rw[cond_nff c,beq_iff_eq.2 c,Bool.true_and,wi64 (by omega) (by omega),show(j:Int)+1=((j+1:Nat):Int) by push_cast;rfl]
   exact ih q (j+1) (by omega) (by omega)
  ·rw[cond_ntt c,beq_eq_false_iff_ne.2 c,Bool.false_and,if_neg Bool.false_ne_true]
namespace Sp
noncomputable def lgv(l:List Int):List EnT×Int×Unit:=((rdl l l.length 1 []).2,(if blk l (rdl l l.length 1 []).1=true then((rdl l l.length 1 []).1:Int)else(l.length:Int)),())
end Sp
theorem rlog_pv{m:MeT}(hw:W32f m.1)(hv:Sp.fv m.1=true)(hp:Sp.plc m=true){k:Nat}(hk:k<2):(p_99 m k=true/\v_99 m k=Sp.lgv (Sp.hwr m k))/\Asc (Sp.rdv (Sp.hwr m k)).1:=by
 have b:=pl_b hv hp
 have hln:(Sp.hwr m k).length=Sp.hsz m:=hwr_len hv hp hk
 have sz:=rsz_pv hv hp
 have rb:=rdv_b (hw.half k) (by omega) (by omega)
 generalize hl:Sp.hwr m k=l at *
 have g:=lg0 hw hv hp hk l hl.symm l.length 4611686018427387904 1 (by omega) (by omega) (by omega) _ rfl
 refine⟨pv_99 m k ?_,g.2⟩
 unfold F_99 Sp.lgv
 unfold Sp.rdv at rb
 dsimp only at rb
 generalize Sp.rdl l l.length 1 []=R at *
 obtain⟨e,es⟩:=R
 dsimp only at *
 rw[sz.1,sz.2,gd_tt]
 dsimp only
 rw[<-hln]
 rcases g.1 with⟨g1,rfl⟩|g1
 ·refine(congrArg (fun z=>B_99_0 z _ _ _ _) g1).trans ?_
  split
  ·rename_i c
   rw[blk_s c.1,beq_eq_false_iff_ne.2 c.2,Bool.false_and,if_neg Bool.false_ne_true]
   rfl
  ·have t:=tb0 hv hp hk l hl.symm (e:Nat) [] (l.length-e) 4611686018427387904 e (by omega) (by omega)
   unfold B_99_0
   dsimp only
   unfold J_99_1 S_99_1
   rw[t]
   split<;>rfl
 ·refine(congrArg (fun z=>B_99_0 z _ _ _ _) g1).trans ?_
  split
  ·rename_i c
   rw[blk_s c.1,beq_eq_false_iff_ne.2 c.2,Bool.false_and,if_neg Bool.false_ne_true]
   rfl
  ·have t:=tb1 hv hp hk l hl.symm (e:Nat) es (l.length-e) 4611686018427387904 e (by omega) (by omega)
   unfold B_99_0
   dsimp only
   unfold J_99_1_1 S_99_1_1
   rw[t]
   split<;>rfl
set_option maxRecDepth 100000
set_option maxHeartbeats 4000000
theorem u32_b{n:Int}(h:(Lit.int .u32 n).wf=true):0<=n/\n<4294967296:=by
 simp[Lit.wf,IntKind.min,IntKind.max,IntKind.signed,IntKind.bits]at h;omega
theorem swrd_pv(l:List Int)(h:l.length<=1000000):p_63 l l=true/\v_63 l l=(true,()):=by
 refine pv_63 l l ?_
 unfold F_63
 rw[cond_nff rfl]
 have t:=run0 (fun m i(_:Unit)=>L_63_0 m l l i) (n:=l.length) (fun _=>()) (r:=some .e1) (by omega) (fun m j hj=>by
  show L_63_0 (m+1) l l (j:Int)=L_63_0 m l l ((j+1:Nat):Int)
  rw[L_63_0,S_63_0,cond_dtt (by omega),gd_inB (by omega) (by omega),gd_inB (by omega) (by omega),cond_nff rfl,wi64 (by omega) (by omega)]
  push_cast
  rfl) (fun m=>by
  show L_63_0 (m+1) l l l.length=_
  rw[L_63_0,S_63_0,cond_dff (by omega)])
 exact(congrArg (fun z=>B_63_0 z _ _) t).trans rfl
theorem smem_pv(m:MeT)(h:m.1.1.length<=1000000)(h2:m.1.2.1.length<=1000000):p_23 m m=true/\v_23 m m=(true,()):=by
 refine pv_23 m m ?_
 unfold F_23
 rw[cond_nff rfl,cond_nff rfl,cond_nff rfl,cond_nff rfl]
 have t:=run0 (fun q i(_:Unit)=>L_23_0 q i m m) (n:=m.1.2.1.length) (fun _=>()) (r:=some (.e1 m m)) (by omega) (fun q j hj=>by
  show L_23_0 (q+1) (j:Int) m m=L_23_0 q ((j+1:Nat):Int) m m
  rw[L_23_0,S_23_0,cond_dtt (by omega),gd_inB (by omega) (by omega),gd_inB (by omega) (by omega),cond_nff rfl,wi64 (by omega) (by omega)]
  push_cast
  rfl) (fun q=>by
  show L_23_0 (q+1) m.1.2.1.length m m=_
  rw[L_23_0,S_23_0,cond_dff (by omega)])
 have w:=swrd_pv m.1.1 h
 refine(congrArg (fun z=>B_23_0 z _ _) t).trans ?_
 unfold B_23_0
 dsimp only
 rw[w.1,w.2,gd_tt]
theorem rpok_pv(p:PwT):p_62 p=true/\v_62 p=(Sp.pok p,()):=by
 refine pv_62 p ?_
 unfold F_62 Sp.pok
 by_cases h:p.1>=0
 ·rw[cond_dtt h,decide_eq_true (p:=0<=p.1) h,Bool.true_and]
 ·rw[cond_dff h,decide_eq_false (p:=0<=p.1) h,Bool.false_and]
theorem beq_pw(p:PwT):Ty.beq (.pair (.int .i64) (.pair (.int .u32) .unit)) p p=true:=by
 simp[Ty.beq]
set_option linter.unusedVariables false
noncomputable section
abbrev A_65:List Ty:=[(.pair (.pair (.slice (.int .u32)) (.pair (.slice (.int .i64)) (.pair (.int .i64) .unit))) (.pair (.int .i64) (.pair (.int .i64) .unit))),(.int .i64),(.slice (.int .u32))]
abbrev R_65:List Ty:=[(.slice (.pair .bool (.pair (.int .i64) (.pair (.int .u32) .unit)))),(.int .i64)]
noncomputable def sm_65:Nat->Option Summ:=smL [(50,s_50),(99,s_99),(100,s_100),(101,s_101),(102,s_102),(103,s_103),(104,s_104),(105,s_105)]
noncomputable def F_65(a0:(((List Int)×((List Int)×(Int×Unit)))×(Int×(Int×Unit))))(a1:Int)(a2:(List Int)):Option ((List (Bool×(Int×(Int×Unit))))×Int×Unit) :=
 gd (p_50 a0) (gd (p_99 a0 ((v_50 a0).1)) (gd (p_100 a1 a2) (gd (p_101 a0) (bif decide (wrap i64 ((v_99 a0 ((v_50 a0).1)).2.1+(↑(length ((v_100 a1 a2).1)):Int))<=(v_101 a0).1)then gd (p_50 a0) (gd (p_103 a0 ((v_50 a0).1)) (gd (p_102 (wrap i64 ((v_103 a0 ((v_50 a0).1)).1+(v_99 a0 ((v_50 a0).1)).2.1)) ((v_100 a1 a2).1)) (some ((v_102 (wrap i64 ((v_103 a0 ((v_50 a0).1)).1+(v_99 a0 ((v_50 a0).1)).2.1)) ((v_100 a1 a2).1)).1,0,PUnit.unit))))else gd (p_105 ((v_99 a0 ((v_50 a0).1)).1) a1 a2) (gd (p_104 a0 ((v_105 ((v_99 a0 ((v_50 a0).1)).1) a1 a2).1)) (some ((v_104 a0 ((v_105 ((v_99 a0 ((v_50 a0).1)).1) a1 a2).1)).1,(v_104 a0 ((v_105 ((v_99 a0 ((v_50 a0).1)).1) a1 a2).1)).2.1,PUnit.unit)))))))
noncomputable def Sp.p_65(a0:(((List Int)×((List Int)×(Int×Unit)))×(Int×(Int×Unit))))(a1:Int)(a2:(List Int)):Bool:=(F_65 a0 a1 a2).isSome
noncomputable def Sp.v_65(a0:(((List Int)×((List Int)×(Int×Unit)))×(Int×(Int×Unit))))(a1:Int)(a2:(List Int)):(List (Bool×(Int×(Int×Unit))))×Int×Unit:=(F_65 a0 a1 a2).getD (dfH R_65)
noncomputable def s_65:Summ:=shS A_65 R_65 (fun x=>p_65 x.1 x.2.1 x.2.2.1) (fun x=>v_65 x.1 x.2.1 x.2.2.1)
end
namespace Sp
noncomputable def frl(m:MeT):Int:=(rdv (hwr m (acv m))).2.2.1
noncomputable def wrs(m:MeT)(key:Int)(d:List Int):List StT×Int×Unit:=if((rcd key d).length:Int)<=frl m then(pgl (rcd key d) ((hbs m (acv m):Int)+(rdv (hwr m (acv m))).2.1),0,())else cov m (putE (ent m) key d)
noncomputable def wrv(m:MeT)(key:Int)(d:List Int)(p:PwT):OuM:=if mvl m=true/\pok p=true then(if 0<=key/\key<=254/\d.length<=24 then(if(wrs m key d).2.1=0 then dov m (wrs m key d).1 p else(zM,(0,0,()),(wrs m key d).2.1,()))else(zM,(0,0,()),2,()))else(zM,(0,0,()),1,())
end Sp
theorem ent_l{m:MeT}(hw:W32f m.1)(h:Sp.mvl m=true):(Sp.ent m).length<=512:=by
 obtain⟨hv,hp,_⟩:=mvl_d h
 have l:=hwr_len hv hp (acv_lt m)
 have b:=pl_b hv hp
 have r:=rdv_b (hw.half (Sp.acv m)) (by omega) (by omega)
 have:=r.2.1
 unfold Sp.ent
 omega
theorem frl_b{m:MeT}(hw:W32f m.1)(h:Sp.mvl m=true):1<=(Sp.rdv (Sp.hwr m (Sp.acv m))).2.1/\(Sp.rdv (Sp.hwr m (Sp.acv m))).2.1<=(Sp.hsz m:Int)/\(Sp.frl m=(Sp.hsz m:Int)-(Sp.rdv (Sp.hwr m (Sp.acv m))).2.1/\Sp.blk (Sp.hwr m (Sp.acv m)) (Sp.rdl (Sp.hwr m (Sp.acv m)) (Sp.hwr m (Sp.acv m)).length 1 []).1=true\/Sp.frl m=0/\Sp.blk (Sp.hwr m (Sp.acv m)) (Sp.rdl (Sp.hwr m (Sp.acv m)) (Sp.hwr m (Sp.acv m)).length 1 []).1=false):=by
 obtain⟨hv,hp,_⟩:=mvl_d h
 have l:=hwr_len hv hp (acv_lt m)
 have b:=pl_b hv hp
 have r:=rdv_b (hw.half (Sp.acv m)) (by omega) (by omega)
 refine⟨r.2.2.1,by have:=r.2.2.2;omega,?_⟩
 unfold Sp.frl Sp.rdv
 dsimp only
 cases hb:Sp.blk (Sp.hwr m (Sp.acv m)) (Sp.rdl (Sp.hwr m (Sp.acv m)) (Sp.hwr m (Sp.acv m)).length 1 []).1
 ·rw[if_neg Bool.false_ne_true]
  exact .inr ⟨rfl,rfl⟩
 ·rw[if_pos rfl,l]
  exact .inl ⟨rfl,rfl⟩
theorem cov_sv{m:MeT}(hv:Sp.fv m.1=true)(hp:Sp.plc m=true){es:List EnT}(c:(Sp.cov m es).2.1=0):(Sp.cov m es).1=Sp.cst m es/\Sp.wor m.1 (Sp.hc m) (Sp.frs m)=false/\(∀x∈(Sp.cov m es).1,SV m.1 x)/\(Sp.cov m es).1.length<=1000000:=by
 revert c
 unfold Sp.cov
 split
 ·intro c;cases c
 split
 ·intro c;cases c
 split
 ·intro c;cases c
 ·rename_i h1 h2 h3
  intro _
  have:=cst_sv hv hp (es:=es) (by omega)
  exact⟨rfl,Bool.eq_false_iff.2 h2,this.1,this.2⟩
theorem wrs_sv{m:MeT}(hw:W32f m.1)(hm:Sp.mvl m=true){key:Int}{d:List Int}(c:(Sp.wrs m key d).2.1=0):((∀x∈(Sp.wrs m key d).1,SV m.1 x)/\(Sp.wrs m key d).1.length<=1000000)/\∀p:PwT,0<=p.1->p.1<=1099511627776->SG m.1 (Sp.dol (Sp.wrs m key d).1 (m.1,p,0,())):=by
 obtain⟨hv,hp,_⟩:=mvl_d hm
 have b:=pl_b hv hp
 have bk:=pl_k hv hp (acv_lt m)
 have fb:=frl_b hw hm
 revert c
 unfold Sp.wrs
 split
 ·rename_i h
  intro _
  have hl:((Sp.rcd key d).length:Int)<=(Sp.hsz m:Int)-(Sp.rdv (Sp.hwr m (Sp.acv m))).2.1:=by
   rcases fb.2.2 with q|q
   ·omega
   ·have:=rcd_len key d
    omega
  refine⟨⟨pgl_sv _ _ (by omega) (by omega),by rw[pgl_len];omega⟩,fun p h0 h1=> ?_⟩
  exact dol_pg _ (pgl_f _ _) (SG.init hv hw h0 h1)
 ·intro c
  have s:=cov_sv hv hp c
  refine⟨s.2.2,fun p h0 h1=> ?_⟩
  rw[s.1]
  exact cst_sg hw hv hp h0 h1 _ s.2.1
theorem wrv_pv{m:MeT}(hw:W32f m.1){key:Int}{d:List Int}(hd:W32l d)(p:PwT):p_61 m key d p=true/\v_61 m key d p=Sp.wrv m key d p:=by
 have v:=mvl_pv hw
 have pw:=pow_pv p
 refine pv_61 m key d p ?_
 unfold F_61 Sp.wrv
 rw[v.1,v.2,gd_tt]
 dsimp only
 by_cases hm:Sp.mvl m=true
 rotate_left
 ·rw[Bool.eq_false_iff.2 hm,if_neg (fun z=>Bool.noConfusion z.1)];rfl
 rw[hm,Bool.not_true,cond_f,pw.1,pw.2,gd_tt]
 dsimp only
 cases hp:Sp.pok p
 ·rw[if_neg (fun z=>Bool.noConfusion z.2)];rfl
 have hpb:0<=p.1/\p.1<=1099511627776:=by unfold Sp.pok at hp;simpa using hp
 rw[Bool.not_true,cond_f,if_pos ⟨rfl,rfl⟩]
 by_cases k0:key<0
 ·rw[cond_dtt k0,if_neg (fun z=>by omega)];rfl
 by_cases k1:key>254
 ·rw[cond_dff k0,cond_dtt k1,if_neg (fun z=>by omega)];rfl
 by_cases k2:(d.length:Int)>24
 ·rw[cond_dff k0,cond_dff k1,cond_dtt k2,if_neg (fun z=>by omega)];rfl
 obtain⟨hv,hpl,_⟩:=mvl_d hm
 have b:=pl_b hv hpl
 have bk:=pl_k hv hpl (acv_lt m)
 have fb:=frl_b hw hm
 have a:=acv_pv hw hv hpl
 have r:=read_pv hw hv hpl (acv_lt m)
 have rc:=rcd_pv (key:=key) (d:=d) (by omega) (by omega) (by omega) hd
 have rl:=rcd_len key d
 have eb:=ent_b hw hm
 have el:=ent_l hw hm
 have sv:=wrs_sv (key:=key) (d:=d) hw hm
 rw[cond_dff k0,cond_dff k1,cond_dff k2,if_pos ⟨by omega,by omega,by omega⟩,a.1,a.2,gd_tt]
 dsimp only
 rw[r.1,r.2,gd_tt,rc.1,rc.2,gd_tt]
 dsimp only
 rw[show(Sp.rdv (Sp.hwr m (Sp.acv m))).2.2.1=Sp.frl m from rfl,show(Sp.rdv (Sp.hwr m (Sp.acv m))).1=Sp.ent m from rfl]
 revert sv
 unfold Sp.wrs
 by_cases c:((Sp.rcd key d).length:Int)<=Sp.frl m
 ·intro sv
  rw[if_pos c]at sv⊢
  have sv:=sv rfl
  have ad:=adr_pv hv hpl (acv_lt m) (i:=(Sp.rdv (Sp.hwr m (Sp.acv m))).2.1) (by omega) (by omega)
  have pg:=pgl_pv (l:=Sp.rcd key d) (by omega) (a:=(Sp.hbs m (Sp.acv m):Int)+(Sp.rdv (Sp.hwr m (Sp.acv m))).2.1) (by omega) (by omega)
  have dd:=do_pv hv hw hpb.1 hpb.2 sv.1.1 sv.1.2
  rw[cond_dtt c,ad.1,ad.2,gd_tt]
  dsimp only
  rw[pg.1,pg.2,gd_tt]
  dsimp only at dd⊢
  rw[dd.1,dd.2,gd_tt,if_pos rfl]
 ·intro sv
  rw[if_neg c]at sv⊢
  have pt:=put_pv eb.1 (key:=key) (by omega) (by omega) (by omega) (data:=d) (by omega)
  have kp:=eb.1.put (key:=key) (by omega) (by omega) (data:=d) (by omega) hd
  have pl:=putE_len (Sp.ent m) key d
  have cv:=cov_pv hw hv hpl kp (by omega)
  rw[cond_dff c,pt.1,pt.2,gd_tt]
  dsimp only
  rw[cv.1,cv.2,gd_tt]
  by_cases e:(Sp.cov m (Sp.putE (Sp.ent m) key d)).2.1=0
  ·have sv:=sv e
   have dd:=do_pv hv hw hpb.1 hpb.2 sv.1.1 sv.1.2
   rw[cond_nff e,if_pos e,dd.1,dd.2,gd_tt]
  ·rw[cond_ntt e,if_neg e]
   rfl
set_option maxRecDepth 100000
set_option maxHeartbeats 4000000
namespace Sp
noncomputable def rom(m:MeT):Int:=(rdv (hwr m (acv m))).2.2.1
noncomputable def romv(m:MeT):Int×Int×Unit:=if mvl m=true then(rom m,0,())else(0,1,())
end Sp
end Go.Ev
