/- Helpers: functions of the program as Lean functions, and what they compute. No condition. -/
import Derived.Test.YtnmiibgmjfiknaaGreatE4P4
import Derived.Test.YtnmiibgmjfiknaaGreatG4P1
import Derived.Test.YtnmiibgmjfiknaaGreatG4P2
import Derived.Test.YtnmiibgmjfiknaaGreatG4P3
import Derived.Test.YtnmiibgmjfiknaaGreatE4P2
set_option maxRecDepth 10000
set_option linter.unusedVariables false
set_option linter.unusedSimpArgs false
open Go.IntKind (wrap i64 i32 i16 i8 u64 u32 u16 u8)
open List (getD length take drop replicate)
open Int (toNat)
open Go.Ev.Sp
set_option linter.unusedSimpArgs false
set_option linter.unusedVariables false
namespace Go.Ev
open Go
set_option maxRecDepth 100000
set_option maxHeartbeats 4000000
abbrev FlT:=List Int×List Int×Int×Unit
abbrev PwT:=Int×Int×Unit
abbrev OpT:=Bool×Int×Int×Unit
abbrev RsT:=FlT×PwT×Int×Unit
namespace Sp
noncomputable def wb(f:FlT)(j:Nat):Bool:=decide (f.2.1.getD j 0<0)||decide (f.2.1.getD j 0>f.2.2.1)
noncomputable def fv(f:FlT):Bool:=decide (1<=f.2.1.length)&&(decide (f.2.1.length<=64)&&(decide (f.1.length=f.2.1.length*64)&&(decide (1<=f.2.2.1)&&(decide (f.2.2.1<=1000000)&&(fnd (wb f) f.2.1.length 0).isNone))))
noncomputable def pw(f:FlT)(k:Nat)(w bits:Int):FlT:=(f.1.set k (andnI .u32 (f.1.getD k 0) (andnI .u32 bits w)),f.2.1,f.2.2.1,())
noncomputable def prg(f:FlT)(k:Nat)(w:Int)(p:PwT):RsT:=if p.1=0 then(f,p,18,())else if p.1=1 then(pw f k w p.2.1,(0,p.2),18,())else(pw f k w 4294967295,(p.1-1,p.2),0,())
noncomputable def orW(ws:List Int)(o:Nat)(bits:Int)(n:Nat):List Int:=ws.mapIdx (fun i x=>if o<=i/\i<o+n then orI .u32 x bits else x)
noncomputable def ew(f:FlT)(s:Nat)(bits:Int):FlT:=(orW f.1 (s*64) bits 64,f.2.1.set s (f.2.1.getD s 0+1),f.2.2.1,())
noncomputable def ers(f:FlT)(s:Nat)(p:PwT):RsT:=if f.2.1.getD s 0=f.2.2.1 then(([],[],0,()),(0,0,()),19,())else if p.1=0 then(f,p,18,())else if p.1=1 then(ew f s p.2.1,(0,p.2),18,())else(ew f s 4294967295,(p.1-1,p.2),0,())
end Sp
theorem fv_iff{f:FlT}:Sp.fv f=true↔1<=f.2.1.length/\f.2.1.length<=64/\f.1.length=f.2.1.length*64/\1<=f.2.2.1/\f.2.2.1<=1000000/\∀j,j<f.2.1.length->0<=f.2.1.getD j 0/\f.2.1.getD j 0<=f.2.2.1:=by
 simp only[Sp.fv,Bool.and_eq_true,decide_eq_true_eq,Option.isNone_iff_eq_none,fnd_none,Sp.wb,Bool.or_eq_false_iff,decide_eq_false_iff_not]
 constructor
 ·rintro⟨a,b,c,d,e,g⟩
  refine⟨a,b,c,d,e,fun j hj=> ?_⟩
  have:=g j (by omega) (by omega)
  omega
 ·rintro⟨a,b,c,d,e,g⟩
  refine⟨a,b,c,d,e,fun j _ hj=> ?_⟩
  have:=g j (by omega)
  omega
theorem fv_ok(f:FlT):F_78 f=some (Sp.fv f,()):=by
 unfold F_78 Sp.fv
 by_cases h1:(f.2.1.length:Int)<1
 ·rw[cond_dtt h1,decide_eq_false (by omega)];rfl
 rw[cond_dff h1,decide_eq_true (p:=1<=f.2.1.length) (by omega),Bool.true_and]
 by_cases h2:(f.2.1.length:Int)>64
 ·rw[cond_dtt h2,decide_eq_false (by omega)];rfl
 rw[cond_dff h2,decide_eq_true (p:=f.2.1.length<=64) (by omega),Bool.true_and,wi64 (by omega) (by omega)]
 by_cases h3:(f.1.length:Int)=(f.2.1.length:Int)*64
 rotate_left
 ·rw[cond_ntt h3,decide_eq_false (p:=f.1.length=_) (by omega)];rfl
 rw[cond_nff h3,decide_eq_true (p:=f.1.length=_) (by omega),Bool.true_and]
 by_cases h4:f.2.2.1<1
 ·rw[cond_dtt h4,decide_eq_false (by omega)];rfl
 rw[cond_dff h4,decide_eq_true (p:=1<=f.2.2.1) (by omega),Bool.true_and]
 by_cases h5:f.2.2.1>1000000
 ·rw[cond_dtt h5,decide_eq_false (by omega)];rfl
 rw[cond_dff h5,decide_eq_true (p:=f.2.2.1<=1000000) (by omega),Bool.true_and]
 have hf:=find0 (fun m i=>L_78_114_0_0 m f.2.1 f.2.1.length i f) (n:=f.2.1.length) (Sp.wb f) (ex:=fun j=>some (.e0 (j:Int) f)) (e1:=some (.e1 f)) (by omega) (fun m j hj=>by
  show L_78_114_0_0 (m+1) f.2.1 f.2.1.length j f=bif Sp.wb f j then some (.e0 (j:Int) f)else L_78_114_0_0 m f.2.1 f.2.1.length ((j+1:Nat):Int) f
  rw[L_78_114_0_0,S_78_114_0_0,cond_dtt (by omega),gd_inB (by omega) (by omega),Int.toNat_natCast,wi64 (by omega) (by omega)]
  unfold Sp.wb
  push_cast
  grind) (fun m=>by
  show L_78_114_0_0 (m+1) f.2.1 f.2.1.length f.2.1.length f=_
  rw[L_78_114_0_0,S_78_114_0_0,cond_dff (by omega)])
 rw[hf]
 cases fnd (Sp.wb f) f.2.1.length 0 with
 |none=>rfl
 |some k=>
  simp only[B_78_114_0_0,Option.isNone]
  rw[decide_eq_true (by omega)]
  rfl
theorem fv_pv(f:FlT):p_78 f=true/\v_78 f=(Sp.fv f,()):=pv_78 f (fv_ok f)
theorem chk_pv{f:FlT}{p:PwT}{a n:Int}(h:Sp.fv f=true)(h0:0<=p.1)(h1:p.1<=1099511627776)(h2:0<=a)(h3:a<n):p_146 f p a n=true/\v_146 f p a n=(0,()):=by
 refine pv_146 f p a n ?_
 unfold F_146
 rw[(fv_pv f).1,(fv_pv f).2,gd_tt,h,Bool.not_true,cond_f,cond_dff (by omega),cond_dff (by omega),cond_dff (by omega),cond_dff (by omega)]
theorem prg_ok{f:FlT}{p:PwT}{k:Nat}{w:Int}(h:Sp.fv f=true)(h0:0<=p.1)(h1:p.1<=1099511627776)(h2:k<f.1.length):F_128 f k w p=some (Sp.prg f k w p):=by
 have hv:=fv_iff.1 h
 unfold F_128 Sp.prg Sp.pw
 rw[(chk_pv h h0 h1 (by omega) (by omega)).1,(chk_pv h h0 h1 (by omega) (by omega)).2,gd_tt,cond_nff rfl,gd_room (by omega) (by omega),gd_room (by omega) (by omega)]
 simp only[gd_inB (show(0:Int)<=(k:Int) by omega) (show(k:Int)<((f.1.length:Nat):Int) by omega),Int.toNat_natCast,Bool.and_true,gd_dec h2]
 by_cases e0:p.1=0
 ·rw[cond_ett e0,if_pos e0]
 rw[cond_eff e0,if_neg e0]
 by_cases e1:p.1=1
 ·rw[cond_ett e1,if_pos e1]
 rw[cond_eff e1,if_neg e1,wi64 (by omega) (by omega)]
theorem prg_pv{f:FlT}{p:PwT}{k:Nat}{w:Int}(h:Sp.fv f=true)(h0:0<=p.1)(h1:p.1<=1099511627776)(h2:k<f.1.length):p_128 f k w p=true/\v_128 f k w p=Sp.prg f k w p:=pv_128 f k w p (prg_ok h h0 h1 h2)
theorem getD_set{α:Type}(l:List α)(i j:Nat)(x d:α)(h:i<l.length):(l.set i x).getD j d=if i=j then x else l.getD j d:=by
 simp only[List.getD_eq_getElem?_getD,List.getElem?_set]
 split
 ·simp[h]
 ·rfl
set_option maxRecDepth 100000
set_option maxHeartbeats 4000000
abbrev MeT:=FlT×Int×Int×Unit
abbrev EnT:=Int×List Int×Unit
abbrev W32f(f:FlT):Prop:=∀x∈f.1,0<=x/\x<4294967296
theorem W32f.at{f:FlT}(h:W32f f)(k:Nat):0<=f.1.getD k 0/\f.1.getD k 0<4294967296:=by
 rw[List.getD_eq_getElem?_getD]
 cases e:f.1[k]? with
 |none=>decide
 |some x=>exact h x (List.mem_of_getElem? e)
namespace Sp
noncomputable def prw(n:Int):Int:=n*65536+(65535-n)
noncomputable def nmb(w:Int):Int×Bool:=(w/65536,prw (w/65536)==w)
noncomputable def plc(m:MeT):Bool:=decide (2<=m.2.2.1)&&(decide (m.2.2.1<=16)&&((m.2.2.1%2==0)&&(decide (0<=m.2.1)&&decide (m.2.1<=(m.1.2.1.length:Int)-m.2.2.1))))
noncomputable def hsz(m:MeT):Nat:=32*m.2.2.1.toNat
noncomputable def hbs(m:MeT)(k:Nat):Nat:=64*m.2.1.toNat+k*hsz m
noncomputable def hwr(m:MeT)(k:Nat):List Int:=take (hsz m) (drop (hbs m k) m.1.1)
noncomputable def gnr(m:MeT)(k:Nat):Int:=bif(nmb ((hwr m k).getD 0 0)).2 then(nmb ((hwr m k).getD 0 0)).1 else 0
noncomputable def acv(m:MeT):Nat:=bif decide (gnr m 1>gnr m 0)then 1 else 0
noncomputable def acb(m:MeT):Bool:=decide (gnr m 1>gnr m 0)||decide (gnr m 0>0)
noncomputable def mvl(m:MeT):Bool:=fv m.1&&(plc m&&acb m)
noncomputable def stp(s w:Int):Int:=(31*s+w/65536+7*(w%65536))%65536
noncomputable def smw(l:List Int):Int:=l.foldl stp 0
end Sp
theorem xor_n{n:Nat}(h:n<65536):Sp.andI .i64 (Sp.xorI .i64 (-1) (n:Int)) 65535=65535-(n:Int):=by
 have e0:(BitVec.ofInt 64 (-1) ^^^ BitVec.ofInt 64 (n:Int)).toNat=18446744073709551615-n:=by
  have:BitVec.ofInt 64 (-1) ^^^ BitVec.ofInt 64 (n:Int)= ~~~ BitVec.ofInt 64 (n:Int):=by
   rw[show BitVec.ofInt 64 (-1)=BitVec.allOnes 64 from rfl,BitVec.allOnes_xor]
  rw[this,BitVec.toNat_not]
  have:(BitVec.ofInt 64 (n:Int)).toNat=n:=by
   rw[BitVec.ofInt_natCast,BitVec.toNat_ofNat];omega
  omega
 have e1:Sp.xorI .i64 (-1) (n:Int)= -1-(n:Int):=by
  unfold Sp.xorI
  show wrap .i64 ((BitVec.ofInt 64 (-1) ^^^ BitVec.ofInt 64 (n:Int)).toNat:Int)=_
  rw[e0,IntKind.wrap_i64]
  omega
 rw[e1]
 unfold Sp.andI
 show wrap .i64 ((BitVec.ofInt 64 (-1-(n:Int))&&&BitVec.ofInt 64 65535).toNat:Int)=_
 have e2:(BitVec.ofInt 64 (-1-(n:Int))).toNat=18446744073709551615-n:=by
  rw[BitVec.toNat_ofInt];omega
 rw[BitVec.toNat_and,e2,show(BitVec.ofInt 64 65535).toNat=2^16-1 from rfl,Nat.and_two_pow_sub_one_eq_mod,wi64 (by omega) (by omega)]
 omega
theorem pair_pv{n:Int}(h0:0<=n)(h1:n<65536):p_124 n=true/\v_124 n=(Sp.prw n,()):=by
 refine pv_124 n ?_
 obtain⟨k,rfl⟩:=Int.eq_ofNat_of_zero_le h0
 unfold F_124 Sp.prw
 have h1':k<65536:=by omega
 rw[xor_n h1',u32_wrap_nat (by omega),show(k:Int)*65536=((k*65536:Nat):Int)from(Int.natCast_mul k 65536).symm,u32_wrap_nat (by omega),show 65535-(k:Int)=((65535-k:Nat):Int) by omega,u32_wrap_nat (by omega),orU_nat (by omega) (by omega),show k*65536=k*2^16 from rfl,or_add 16 (by omega)]
 congr 2
theorem prw_b{n:Int}(h0:0<=n)(h1:n<65536):0<=Sp.prw n/\Sp.prw n<4294967296/\Sp.nmb (Sp.prw n)=(n,true):=by
 have e:Sp.prw n/65536=n:=by unfold Sp.prw;omega
 refine⟨by unfold Sp.prw;omega,by unfold Sp.prw;omega,?_⟩
 unfold Sp.nmb
 rw[e,beq_self_eq_true]
theorem num_pv{w:Int}(h0:0<=w)(h1:w<4294967296):p_141 w=true/\v_141 w=((Sp.nmb w).1,(Sp.nmb w).2,()):=by
 refine pv_141 w ?_
 unfold F_141
 have e:Int.fdiv w 65536=w/65536:=Int.fdiv_eq_ediv_of_nonneg _ (by decide)
 rw[e,wi64 (by omega) (by omega),(pair_pv (n:=w/65536) (by omega) (by omega)).1,(pair_pv (n:=w/65536) (by omega) (by omega)).2,gd_tt]
 rfl
theorem nmb_b{w:Int}(h0:0<=w)(h1:w<4294967296):0<=(Sp.nmb w).1/\(Sp.nmb w).1<65536:=by
 unfold Sp.nmb
 dsimp only
 omega
theorem plc_pv(m:MeT)(h:m.1.2.1.length<=1000000):p_79 m=true/\v_79 m=(Sp.plc m,()):=by
 refine pv_79 m ?_
 unfold F_79 Sp.plc
 by_cases h1:2<=m.2.2.1
 rotate_left
 ·rw[cond_dff (by omega),decide_eq_false h1];rfl
 rw[cond_dtt (by omega),decide_eq_true h1,Bool.true_and]
 by_cases h2:m.2.2.1<=16
 rotate_left
 ·rw[cond_dff h2,decide_eq_false h2];rfl
 rw[cond_dtt h2,decide_eq_true h2,Bool.true_and,Int.tmod_eq_emod_of_nonneg (by omega),wi64 (by omega) (by omega)]
 by_cases h3:m.2.2.1%2=0
 rotate_left
 ·rw[cond_eff h3,beq_eq_false_iff_ne.2 h3];rfl
 rw[cond_ett h3,beq_iff_eq.2 h3,Bool.true_and]
 by_cases h4:0<=m.2.1
 ·rw[cond_dtt (by omega),decide_eq_true h4,Bool.true_and]
 ·rw[cond_dff (by omega),decide_eq_false h4];rfl
theorem plc_iff{m:MeT}:Sp.plc m=true↔2<=m.2.2.1/\m.2.2.1<=16/\m.2.2.1%2=0/\0<=m.2.1/\m.2.1<=(m.1.2.1.length:Int)-m.2.2.1:=by
 unfold Sp.plc
 simp only[Bool.and_eq_true,decide_eq_true_eq,beq_iff_eq]
theorem pl_b{m:MeT}(hv:Sp.fv m.1=true)(hp:Sp.plc m=true):64<=Sp.hsz m/\Sp.hsz m<=512/\Sp.hbs m 1+Sp.hsz m<=m.1.1.length/\Sp.hbs m 0+Sp.hsz m<=m.1.1.length/\m.1.1.length<=4096/\(Sp.hsz m:Int)=32*m.2.2.1/\(Sp.hbs m 0:Int)=64*m.2.1/\(Sp.hbs m 1:Int)=64*m.2.1+32*m.2.2.1:=by
 obtain⟨p1,p2,p3,p4,p5⟩:=plc_iff.1 hp
 have v:=fv_iff.1 hv
 unfold Sp.hbs Sp.hsz
 omega
theorem pl_k{m:MeT}(hv:Sp.fv m.1=true)(hp:Sp.plc m=true){k:Nat}(hk:k<2):Sp.hbs m k+Sp.hsz m<=m.1.1.length/\(Sp.hbs m k:Int)=64*m.2.1+(k:Int)*(32*m.2.2.1):=by
 have:=pl_b hv hp
 match k,hk with
 |0,_=>exact⟨this.2.2.2.1,by rw[this.2.2.2.2.2.2.1];simp⟩
 |1,_=>exact⟨this.2.2.1,by rw[this.2.2.2.2.2.2.2];simp⟩
theorem msz_pv{m:MeT}(hv:Sp.fv m.1=true)(hp:Sp.plc m=true):p_129 m=true/\v_129 m=((Sp.hsz m:Int),()):=by
 obtain⟨p1,p2,p3,p4,p5⟩:=plc_iff.1 hp
 have b:=pl_b hv hp
 refine pv_129 m ?_
 unfold F_129
 rw[wi64 (n:=64*m.2.2.1) (by omega) (by omega),Int.tdiv_eq_ediv_of_nonneg (by omega),wi64 (by omega) (by omega),b.2.2.2.2.2.1]
 congr 2
 omega
theorem adr_pv{m:MeT}(hv:Sp.fv m.1=true)(hp:Sp.plc m=true){k:Nat}(hk:k<2){i:Int}(h0:0<=i)(h1:i<=1000000):p_96 m k i=true/\v_96 m k i=((Sp.hbs m k:Int)+i,()):=by
 obtain⟨p1,p2,p3,p4,p5⟩:=plc_iff.1 hp
 have v:=fv_iff.1 hv
 have b:=pl_b hv hp
 have bk:=pl_k hv hp hk
 refine pv_96 m k i ?_
 unfold F_96
 have e:Int.tdiv (wrap .i64 ((k:Int)*m.2.2.1)) 2=(k:Int)*(m.2.2.1/2):=by
  match k,hk with
  |0,_=>simp;rfl
  |1,_=>rw[show((1:Nat):Int)=1 from rfl,Int.one_mul,wi64 (by omega) (by omega),Int.tdiv_eq_ediv_of_nonneg (by omega),Int.one_mul]
 have e2:0<=(k:Int)*(m.2.2.1/2)/\(k:Int)*(m.2.2.1/2)<=8/\64*((k:Int)*(m.2.2.1/2))=(k:Int)*(32*m.2.2.1):=by
  match k,hk with
  |0,_=>simp
  |1,_=>simp;omega
 rw[e,wi64 (n:=(k:Int)*(m.2.2.1/2)) (by omega) (by omega),wi64 (n:=m.2.1+(k:Int)*(m.2.2.1/2)) (by omega) (by omega),wi64 (n:=64*(m.2.1+(k:Int)*(m.2.2.1/2))) (by omega) (by omega),bk.2,wi64 (by omega) (by omega)]
 congr 2
 omega
theorem wrd_pv{m:MeT}(hv:Sp.fv m.1=true)(hp:Sp.plc m=true){k:Nat}(hk:k<2):p_110 m k=true/\v_110 m k=(Sp.hwr m k,()):=by
 have b:=pl_b hv hp
 have bk:=pl_k hv hp hk
 have s:=msz_pv hv hp
 have a:=adr_pv hv hp hk (i:=0) (by omega) (by omega)
 have a2:=adr_pv hv hp hk (i:=(Sp.hsz m:Int)) (by omega) (by omega)
 refine pv_110 m k ?_
 unfold F_110
 rw[a.1,a.2,gd_tt,s.1,s.2,gd_tt]
 dsimp only
 rw[a2.1,a2.2,gd_tt]
 dsimp only
 rw[gd_sl3 (by omega) (by omega) (by omega)]
 unfold Sp.hwr
 rw[show((Sp.hbs m k:Int)+(Sp.hsz m:Int)).toNat-((Sp.hbs m k:Int)+0).toNat=Sp.hsz m by omega,show((Sp.hbs m k:Int)+0).toNat=Sp.hbs m k by omega]
theorem hwr_len{m:MeT}(hv:Sp.fv m.1=true)(hp:Sp.plc m=true){k:Nat}(hk:k<2):(Sp.hwr m k).length=Sp.hsz m:=by
 have bk:=pl_k hv hp hk
 unfold Sp.hwr
 rw[List.length_take,List.length_drop]
 omega
abbrev W32l(l:List Int):Prop:=∀x∈l,0<=x/\x<4294967296
theorem W32l.at{l:List Int}(h:W32l l)(k:Nat):0<=l.getD k 0/\l.getD k 0<4294967296:=by
 rw[List.getD_eq_getElem?_getD]
 cases e:l[k]? with
 |none=>decide
 |some x=>exact h x (List.mem_of_getElem? e)
theorem W32l.td{l:List Int}(h:W32l l)(a b:Nat):W32l (take a (drop b l)):=fun x hx=>h x (List.mem_of_mem_drop (List.mem_of_mem_take hx))
theorem W32f.half{m:MeT}(h:W32f m.1)(k:Nat):W32l (Sp.hwr m k):=W32l.td (l:=m.1.1) h _ _
theorem gnr_pv{m:MeT}(hw:W32f m.1)(hv:Sp.fv m.1=true)(hp:Sp.plc m=true){k:Nat}(hk:k<2):p_109 m k=true/\v_109 m k=(Sp.gnr m k,()):=by
 have w:=wrd_pv hv hp hk
 have l:=hwr_len hv hp hk
 have b:=pl_b hv hp
 have h0:=(hw.half k).at 0
 have n:=num_pv h0.1 h0.2
 refine pv_109 m k ?_
 unfold F_109 Sp.gnr
 rw[w.1,w.2,gd_tt]
 dsimp only
 rw[gd_inB (by omega) (by omega),n.1,n.2,gd_tt]
 dsimp only
 cases (Sp.nmb ((Sp.hwr m k).getD 0 0)).2<;>rfl
theorem gnr_b{m:MeT}(hw:W32f m.1)(k:Nat):0<=Sp.gnr m k/\Sp.gnr m k<65536:=by
 have h0:=(hw.half k).at 0
 have:=nmb_b h0.1 h0.2
 unfold Sp.gnr
 cases (Sp.nmb ((Sp.hwr m k).getD 0 0)).2
 ·exact⟨Int.le_refl 0,(by decide:(0:Int)<65536)⟩
 ·exact this
theorem acv_pv{m:MeT}(hw:W32f m.1)(hv:Sp.fv m.1=true)(hp:Sp.plc m=true):p_69 m=true/\v_69 m=((Sp.acv m:Int),Sp.acb m,()):=by
 have g0:=gnr_pv hw hv hp (k:=0) (by decide)
 have g1:=gnr_pv hw hv hp (k:=1) (by decide)
 refine pv_69 m ?_
 unfold F_69 Sp.acv Sp.acb
 rw[show(0:Int)=((0:Nat):Int)from rfl,show(1:Int)=((1:Nat):Int)from rfl,g0.1,g0.2,gd_tt,g1.1,g1.2,gd_tt]
 dsimp only
 cases decide (Sp.gnr m 1>Sp.gnr m 0)<;>rfl
theorem acv_lt(m:MeT):Sp.acv m<2:=by
 unfold Sp.acv
 cases decide (Sp.gnr m 1>Sp.gnr m 0)<;>decide
theorem mvl_pv{m:MeT}(hw:W32f m.1):p_38 m=true/\v_38 m=(Sp.mvl m,()):=by
 have v:=fv_pv m.1
 refine pv_38 m ?_
 unfold F_38 Sp.mvl
 rw[v.1,v.2,gd_tt]
 dsimp only
 cases hv:Sp.fv m.1
 ·rfl
 have hl:=fv_iff.1 hv
 have p:=plc_pv m (by omega)
 rw[Bool.not_true,cond_f,p.1,p.2,gd_tt]
 dsimp only
 cases hp:Sp.plc m
 ·rfl
 have a:=acv_pv hw hv hp
 rw[Bool.not_true,cond_f,a.1,a.2,gd_tt]
 rfl
theorem mvl_d{m:MeT}(h:Sp.mvl m=true):Sp.fv m.1=true/\Sp.plc m=true/\Sp.acb m=true:=by
 unfold Sp.mvl at h
 simpa only[Bool.and_eq_true]using h
theorem andU_mod{w:Int}(h0:0<=w)(h1:w<4294967296):Sp.andI .u32 w 65535=w%65536:=by
 obtain⟨k,rfl⟩:=Int.eq_ofNat_of_zero_le h0
 have e:Sp.andI .u32 (k:Int) ((65535:Nat):Int)=((k&&&65535:Nat):Int):=andU_nat (by omega) (by decide)
 rw[show(65535:Int)=((65535:Nat):Int)from rfl,e,show 65535=2^16-1 from rfl,Nat.and_two_pow_sub_one_eq_mod,Int.natCast_emod]
 rfl
theorem smw_b(l:List Int):∀s,0<=s->s<65536->0<=l.foldl Sp.stp s/\l.foldl Sp.stp s<65536:=by
 induction l with
 |nil=>intro s h0 h1;exact⟨h0,h1⟩
 |cons x l ih=>intro s h0 h1;exact ih _ (by unfold Sp.stp;omega) (by unfold Sp.stp;omega)
theorem sum_l{l:List Int}(hw:W32l l)(hl:l.length<1000000):∀(d m j:Nat)(s:Int),0<=s->s<65536->j+d=l.length->d<m->L_125_0 m s l l.length j=some (.e0 ((l.drop j).foldl Sp.stp s)):=by
 intro d
 induction d with
 |zero=>
  intro m j s _ _ hj hm
  obtain⟨m,rfl⟩:∃k,m=k+1:=⟨m-1,by omega⟩
  rw[L_125_0,S_125_0,cond_dff (by omega),List.drop_of_length_le (by omega)]
  rfl
 |succ d ih=>
  intro m j s h0 h1 hj hm
  obtain⟨m,rfl⟩:∃k,m=k+1:=⟨m-1,by omega⟩
  have hx:=hw.at j
  have e:Int.fdiv (l.getD j 0) 65536=l.getD j 0/65536:=Int.fdiv_eq_ediv_of_nonneg _ (by decide)
  have e3:l.drop j=l.getD j 0::l.drop (j+1):=by
   have hj':j<l.length:=by omega
   rw[List.drop_eq_getElem_cons hj',List.getD_eq_getElem?_getD,List.getElem?_eq_getElem hj'];rfl
  have r:=ih m (j+1) (Sp.stp s (l.getD j 0)) (by unfold Sp.stp;omega) (by unfold Sp.stp;omega) (by omega) (by omega)
  rw[L_125_0,S_125_0,cond_dtt (by omega),gd_inB (by omega) (by omega),Int.toNat_natCast,e,andU_mod hx.1 hx.2,e3,List.foldl_cons]
  generalize l.getD j 0=x at *
  rw[wi64 (n:=31*s) (by omega) (by omega),wi64 (n:=x/65536) (by omega) (by omega),wi64 (n:=31*s+x/65536) (by omega) (by omega),wi64 (n:=x%65536) (by omega) (by omega),wi64 (n:=7*(x%65536)) (by omega) (by omega),wi64 (n:=31*s+x/65536+7*(x%65536)) (by omega) (by omega),Int.tmod_eq_emod_of_nonneg (by omega),wi64 (by omega) (by omega),show(j:Int)+1=((j+1:Nat):Int) by push_cast;rfl]
  exact r
theorem sum_pv{l:List Int}(hw:W32l l)(hl:l.length<1000000):p_125 l=true/\v_125 l=(Sp.smw l,()):=by
 refine pv_125 l ?_
 unfold F_125
 have:=sum_l hw hl l.length 4611686018427387904 0 0 (by decide) (by decide) (by omega) (by omega)
 rw[List.drop_zero]at this
 exact(congrArg (fun z=>B_125_0 z _) this).trans rfl
set_option maxRecDepth 100000
set_option maxHeartbeats 4000000
namespace Sp
noncomputable def dE:EnT:=Ty.dflt (.pair (.int .i64) (.pair (.slice (.int .u32)) .unit))
noncomputable def bsl(es:List EnT)(key:Int):Nat->Nat->Nat->Nat
 |0,lo,_=>lo
 |f+1,lo,hi=>if lo<hi then(if(es.getD ((lo+hi)/2) dE).1<key then bsl es key f ((lo+hi)/2+1) hi else bsl es key f lo ((lo+hi)/2))else lo
noncomputable def plE(es:List EnT)(key:Int):Nat:=bsl es key es.length 0 es.length
noncomputable def putE(es:List EnT)(key:Int)(data:List Int):List EnT:=
 if plE es key<es.length/\(es.getD (plE es key) dE).1=key then es.set (plE es key) (key,data,())else es.take (plE es key)++([(key,data,())]++es.drop (plE es key))
noncomputable def rdl(l:List Int):Nat->Nat->List EnT->Nat×List EnT
 |0,i,es=>(i,es)
 |f+1,i,es=>if i<l.length/\(nmb (l.getD i 0)).2=true/\(nmb (l.getD i 0)).1/256<=254/\(nmb (l.getD i 0)).1%256<=24/\i+((nmb (l.getD i 0)).1%256).toNat+2<=l.length then
  rdl l f (i+((nmb (l.getD i 0)).1%256).toNat+2)
   (if(nmb (l.getD (i+((nmb (l.getD i 0)).1%256).toNat+1) 0)).2=true/\(nmb (l.getD (i+((nmb (l.getD i 0)).1%256).toNat+1) 0)).1=smw (take (((nmb (l.getD i 0)).1%256).toNat+1) (drop i l))then putE es ((nmb (l.getD i 0)).1/256) (take ((nmb (l.getD i 0)).1%256).toNat (drop (i+1) l))else es)
  else(i,es)
noncomputable def blk(l:List Int)(e:Nat):Bool:=(drop e l).all (fun w=>w==4294967295)
noncomputable def rdv(l:List Int):List EnT×Int×Int×Unit:=((rdl l l.length 1 []).2,((rdl l l.length 1 []).1:Int),(if blk l (rdl l l.length 1 []).1=true then(l.length:Int)-((rdl l l.length 1 []).1:Int)else 0),())
end Sp
noncomputable def KOK(es:List EnT):Prop:=∀e∈es,(0<=e.1/\e.1<=254)/\e.2.1.length<=24/\W32l e.2.1
theorem KOK.at{es:List EnT}(h:KOK es)(j:Nat):0<=(es.getD j Sp.dE).1/\(es.getD j Sp.dE).1<=254:=by
 rw[List.getD_eq_getElem?_getD]
 cases e:es[j]? with
 |none=>
  exact⟨Int.le_refl 0,(by decide:(0:Int)<=254)⟩
 |some x=>exact(h x (List.mem_of_getElem? e)).1
theorem bsl_le(es:List EnT)(key:Int):∀(f lo hi:Nat),lo<=hi->lo<=Sp.bsl es key f lo hi/\Sp.bsl es key f lo hi<=hi
 |0,lo,hi,h=>⟨Nat.le_refl _,h⟩
 |f+1,lo,hi,h=>by
  rw[Sp.bsl]
  split
  ·split
   ·have:=bsl_le es key f ((lo+hi)/2+1) hi (by omega)
    omega
   ·have:=bsl_le es key f lo ((lo+hi)/2) (by omega)
    omega
  ·omega
theorem plE_le(es:List EnT)(key:Int):Sp.plE es key<=es.length:=(bsl_le es key es.length 0 es.length (Nat.zero_le _)).2
theorem putE_len(es:List EnT)(key:Int)(data:List Int):(Sp.putE es key data).length<=es.length+1:=by
 have:=plE_le es key
 unfold Sp.putE
 split
 ·rw[List.length_set];omega
 ·rw[List.length_append,List.length_append,List.length_take,List.length_drop,List.length_singleton];omega
theorem KOK.put{es:List EnT}(h:KOK es){key:Int}(h0:0<=key)(h1:key<=254){data:List Int}(hd:data.length<=24)(hw:W32l data):KOK (Sp.putE es key data):=by
 have hn:(0<=key/\key<=254)/\data.length<=24/\W32l data:=⟨⟨h0,h1⟩,hd,hw⟩
 intro e he
 unfold Sp.putE at he
 split at he
 ·rcases List.mem_or_eq_of_mem_set he with h2|rfl
  ·exact h e h2
  ·exact hn
 ·rcases List.mem_append.1 he with h2|h2
  ·exact h e (List.mem_of_mem_take h2)
  ·rcases List.mem_append.1 h2 with h3|h3
   ·rw[List.mem_singleton.1 h3];exact hn
   ·exact h e (List.mem_of_mem_drop h3)
theorem bs2{es:List EnT}(hk:KOK es){key:Int}(h0:0<=key)(h1:key<=254)(hl:es.length<=1000000)(n:Int):∀(f m lo hi:Nat),hi-lo<=f->lo<=hi->hi<=es.length->f<m->
 L_98_131_0_0 m key n lo hi es=some (.e0 key n (Sp.bsl es key f lo hi) es):=by
 intro f
 induction f with
 |zero=>
  intro m lo hi h2 h3 h4 hm
  obtain⟨m,rfl⟩:∃k,m=k+1:=⟨m-1,by omega⟩
  rw[L_98_131_0_0,S_98_131_0_0,cond_dff (by omega),Sp.bsl]
 |succ f ih=>
  intro m lo hi h2 h3 h4 hm
  obtain⟨m,rfl⟩:∃k,m=k+1:=⟨m-1,by omega⟩
  rw[Sp.bsl]
  by_cases c:lo<hi
  rotate_left
  ·rw[L_98_131_0_0,S_98_131_0_0,cond_dff (by omega),if_neg c]
  have e:wrap .i64 (Int.fdiv (wrap .u64 (wrap .i64 ((lo:Int)+(hi:Int)))) 2)=(((lo+hi)/2:Nat):Int):=by
   rw[wi64 (n:=(lo:Int)+(hi:Int)) (by omega) (by omega),wu64 (by omega) (by omega),Int.fdiv_eq_ediv_of_nonneg _ (by decide),wi64 (by omega) (by omega)]
   omega
  have ka:=hk.at ((lo+hi)/2)
  have ka:0<=(es.getD ((lo+hi)/2) Zd2).1/\(es.getD ((lo+hi)/2) Zd2).1<=254:=ka
  rw[L_98_131_0_0,S_98_131_0_0,cond_dtt (by omega),e,gd_inB (by omega) (by omega),Int.toNat_natCast,Bool.and_true,gd_dec (by omega),if_pos c,wi64 (n:=(es.getD ((lo+hi)/2) Zd2).1-key) (by omega) (by omega)]
  by_cases c2:(es.getD ((lo+hi)/2) Sp.dE).1<key
  ·have c2':(es.getD ((lo+hi)/2) Zd2).1<key:=c2
   rw[cond_dtt (by omega),if_pos c2,wi64 (by omega) (by omega),show(((lo+hi)/2:Nat):Int)+1=(((lo+hi)/2+1:Nat):Int) by omega]
   exact ih m _ hi (by omega) (by omega) h4 (by omega)
  ·have c2':¬(es.getD ((lo+hi)/2) Zd2).1<key:=c2
   rw[cond_dff (by omega),if_neg c2]
   exact ih m lo _ (by omega) (by omega) (by omega) (by omega)
theorem put_pv{es:List EnT}(hk:KOK es){key:Int}(h0:0<=key)(h1:key<=254)(hl:es.length<=1000){data:List Int}(hd:data.length<=100000):p_98 es key data=true/\v_98 es key data=(Sp.putE es key data,()):=by
 have pl:=plE_le es key
 have ka:=hk.at (Sp.plE es key)
 have b:=bs2 hk h0 h1 (by omega) (es.length:Int) es.length 4611686018427387904 0 es.length (by omega) (by omega) (by omega) (by omega)
 refine pv_98 es key data ?_
 unfold F_98 Sp.putE
 refine(congrArg (fun z=>B_98_131_0_0 z _) b).trans ?_
 unfold B_98_131_0_0
 dsimp only
 rw[show Sp.bsl es key es.length 0 es.length=Sp.plE es key from rfl]
 by_cases c:Sp.plE es key<es.length
 ·rw[cond_dtt (by omega),gd_inB (by omega) (by omega),Int.toNat_natCast,Bool.and_true,gd_dec c,gd_room (by omega) (by omega),show(es.getD (Sp.plE es key) Zd2).1=(es.getD (Sp.plE es key) Sp.dE).1 from rfl,wi64 (by omega) (by omega)]
  by_cases c2:(es.getD (Sp.plE es key) Sp.dE).1=key
  ·rw[cond_ett (by omega),gd_inB (by omega) (by omega),Bool.and_true,gd_dec c,if_pos ⟨c,c2⟩]
  ·rw[cond_eff (by omega),gd_and,gd_and,gd_dec (by omega),gd_dec (by omega),gd_room (by omega) (by omega),if_neg (fun a=>c2 a.2)]
 ·rw[cond_dff (by omega),gd_room (by omega) (by omega),gd_and,gd_and,gd_dec (by omega),gd_dec (by omega),gd_room (by omega) (by omega),if_neg (fun a=>c a.1),Int.toNat_natCast]
set_option maxRecDepth 100000
set_option maxHeartbeats 4000000
theorem W32l.dr{l:List Int}(h:W32l l)(a b:Nat):W32l (take a (drop b l)):=W32l.td h a b
structure HD(l:List Int)(i n:Nat)(k:Int)(ok:Bool):Prop where
 e:Sp.nmb (l.getD i 0)=(k*256+n,ok)
 n:n<256
 k0:0<=k
 k1:k<256
theorem hd_at{l:List Int}(hw:W32l l)(i:Nat):∃n k ok,HD l i n k ok:=by
 have h:=hw.at i
 have b:=nmb_b h.1 h.2
 refine⟨((Sp.nmb (l.getD i 0)).1%256).toNat,(Sp.nmb (l.getD i 0)).1/256,(Sp.nmb (l.getD i 0)).2,?_,by omega,by omega,by omega⟩
 refine Prod.ext ?_ rfl
 show(Sp.nmb (l.getD i 0)).1=_
 omega
theorem rdl_s{l:List Int}{i n:Nat}{k:Int}{ok:Bool}(h:HD l i n k ok)(f:Nat)(es:List EnT):Sp.rdl l (f+1) i es=if i<l.length/\ok=true/\k<=254/\n<=24/\i+n+2<=l.length then
 Sp.rdl l f (i+n+2) (if(Sp.nmb (l.getD (i+n+1) 0)).2=true/\(Sp.nmb (l.getD (i+n+1) 0)).1=Sp.smw (take (n+1) (drop i l))then Sp.putE es k (take n (drop (i+1) l))else es)else(i,es):=by
 have e1:(k*256+(n:Int))/256=k:=by have:=h.n;omega
 have e2:(k*256+(n:Int))%256=(n:Int):=by have:=h.n;omega
 rw[Sp.rdl,h.e]
 dsimp only
 rw[e1,e2,Int.toNat_natCast]
 by_cases c:i<l.length/\ok=true/\k<=254/\n<=24/\i+n+2<=l.length
 ·rw[if_pos c,if_pos ⟨c.1,c.2.1,c.2.2.1,by omega,c.2.2.2.2⟩]
 ·rw[if_neg c,if_neg (fun a=>c ⟨a.1,a.2.1,a.2.2.1,by omega,a.2.2.2.2⟩)]
theorem r1{l:List Int}(hw:W32l l)(hl:l.length<=600)(M:MeT)(z:PwT)(fr:Int×Unit):∀(f m i:Nat)(es:List EnT),KOK es->es.length<=i->i<=l.length->l.length-i<=f->f<m->
 (L_70_142_0_1 m i M z ((i:Int),fr) l es=some (.e0 M z (((Sp.rdl l f i es).1:Int),fr) l (Sp.rdl l f i es).2)\/L_70_142_0_1 m i M z ((i:Int),fr) l es=some (.e1 M z (((Sp.rdl l f i es).1:Int),fr) l (Sp.rdl l f i es).2))/\KOK (Sp.rdl l f i es).2/\(Sp.rdl l f i es).2.length<=(Sp.rdl l f i es).1/\i<=(Sp.rdl l f i es).1/\(Sp.rdl l f i es).1<=l.length:=by
 intro f
 induction f with
 |zero=>
  intro m i es hk hn hi hf hm
  obtain⟨m,rfl⟩:∃k,m=k+1:=⟨m-1,by omega⟩
  refine⟨.inr ?_,hk,hn,Nat.le_refl _,hi⟩
  rw[L_70_142_0_1,S_70_142_0_1,cond_dff (by omega),Sp.rdl]
 |succ f ih=>
  intro m i es hk hn hi hf hm
  obtain⟨m,rfl⟩:∃k,m=k+1:=⟨m-1,by omega⟩
  obtain⟨n,k,ok,h⟩:=hd_at hw i
  have hn2:=h.n
  have hk0:=h.k0
  have hk1:=h.k1
  rw[rdl_s h]
  by_cases c1:i<l.length
  rotate_left
  ·rw[if_neg (fun a=>c1 a.1)]
   refine⟨.inr ?_,hk,hn,Nat.le_refl _,hi⟩
   rw[L_70_142_0_1,S_70_142_0_1,cond_dff (by omega)]
  have hx:=hw.at i
  have nv:=num_pv hx.1 hx.2
  rw[L_70_142_0_1,S_70_142_0_1,cond_dtt (by omega),gd_inB (by omega) (by omega),Int.toNat_natCast,nv.1,nv.2,gd_tt,h.e]
  dsimp only
  cases ok with
  |false=>
   rw[if_neg (fun a=>Bool.noConfusion a.2.1),Bool.not_false,cond_t]
   exact⟨.inl rfl,hk,hn,Nat.le_refl _,hi⟩
  |true=>
  have e1:Int.tdiv (k*256+(n:Int)) 256=k:=by rw[Int.tdiv_eq_ediv_of_nonneg (by omega)];omega
  have e2:Int.tmod (k*256+(n:Int)) 256=(n:Int):=by rw[Int.tmod_eq_emod_of_nonneg (by omega)];omega
  rw[Bool.not_true,cond_f,e1,e2,wi64 (n:=k) (by omega) (by omega)]
  by_cases c2:k>254
  ·rw[cond_dtt c2,if_neg (fun a=>by omega)]
   exact⟨.inl rfl,hk,hn,Nat.le_refl _,hi⟩
  rw[cond_dff c2]
  by_cases c3:(n:Int)>24
  ·rw[cond_dtt c3,if_neg (fun a=>by omega)]
   exact⟨.inl rfl,hk,hn,Nat.le_refl _,hi⟩
  rw[cond_dff c3,wi64 (n:=(i:Int)+(n:Int)) (by omega) (by omega),wi64 (n:=(i:Int)+(n:Int)+2) (by omega) (by omega),wi64 (n:=(i:Int)+(n:Int)+1) (by omega) (by omega),wi64 (n:=(i:Int)+1) (by omega) (by omega)]
  by_cases c4:(i:Int)+(n:Int)+2>(l.length:Int)
  ·rw[cond_dtt c4,if_neg (fun a=>by omega)]
   exact⟨.inl rfl,hk,hn,Nat.le_refl _,hi⟩
  rw[cond_dff c4,if_pos (show i<l.length/\true=true/\k<=254/\n<=24/\i+n+2<=l.length from⟨c1,rfl,by omega,by omega,by omega⟩),gd_inB (by omega) (by omega),show((i:Int)+(n:Int)+1).toNat=i+n+1 by omega,show((i:Int)+1).toNat=i+1 by omega]
  have hy:=hw.at (i+n+1)
  have ny:=num_pv hy.1 hy.2
  have en:wrap .i64 ((i:Int)+wrap .i64 ((n:Int)+2))=((i+n+2:Nat):Int):=by
   rw[wi64 (n:=(n:Int)+2) (by omega) (by omega),wi64 (by omega) (by omega)];omega
  have next:∀es',KOK es'->es'.length<=es.length+1->_:=fun es' g1 g2=>ih m (i+n+2) es' g1 (by omega) (by omega) (by omega) (by omega)
  have j3:J_70_142_1_3 i n M z ((i:Int),fr) l (-1) [] es=some (.e1 i n M z ((i:Int),fr) l (-1) [] es):=by
   unfold J_70_142_1_3 S_70_142_1_3
   rw[cond_dff (by decide)]
  rw[ny.1,ny.2,gd_tt]
  dsimp only
  cases hb:(Sp.nmb (l.getD (i+n+1) 0)).2 with
  |false=>
   rw[cond_f,if_neg (fun a=>Bool.noConfusion a.1),j3]
   unfold B_70_142_1_3
   dsimp only
   rw[en]
   have:=next es hk (by omega)
   exact⟨this.1,this.2.1,this.2.2.1,by omega,this.2.2.2.2⟩
  |true=>
  have s:=sum_pv (W32l.td hw (n+1) i) (by rw[List.length_take];omega)
  rw[cond_t,gd_sl3 (by omega) (by omega) (by omega),show i+n+1-i=n+1 by omega,s.1,s.2,gd_tt]
  dsimp only
  by_cases c5:(Sp.nmb (l.getD (i+n+1) 0)).1=Sp.smw (take (n+1) (drop i l))
  rotate_left
  ·rw[cond_eff c5,if_neg (fun a=>c5 a.2),j3]
   unfold B_70_142_1_3
   dsimp only
   rw[en]
   have:=next es hk (by omega)
   exact⟨this.1,this.2.1,this.2.2.1,by omega,this.2.2.2.2⟩
  rw[cond_ett c5,if_pos ⟨rfl,c5⟩,gd_sl3 (by omega) (by omega) (by omega),show i+n+1-(i+1)=n by omega]
  have dl:(take n (drop (i+1) l)).length<=24:=by rw[List.length_take];omega
  have:=next (Sp.putE es k (take n (drop (i+1) l))) (hk.put hk0 (by omega) dl (W32l.td hw n (i+1))) (putE_len _ _ _)
  refine⟨?_,this.2.1,this.2.2.1,by omega,this.2.2.2.2⟩
  have pt:=put_pv hk hk0 (by omega) (by omega) (data:=take n (drop (i+1) l)) (by omega)
  have j2:J_70_142_1_2 i n M z ((i:Int),fr) l (k,take n (drop (i+1) l),()) es=some (.e0 i n M z ((i:Int),fr) l (k,take n (drop (i+1) l),()) es):=by
   unfold J_70_142_1_2 S_70_142_1_2
   rw[cond_dtt (by omega),pt.1,gd_tt]
  rw[j2]
  unfold B_70_142_1_2
  dsimp only
  rw[en,pt.2]
  exact this.1
theorem putE_nil(k:Int)(d:List Int):Sp.putE [] k d=[(k,d,())]:=by
 unfold Sp.putE
 rw[if_neg (fun a=>Nat.not_lt_zero _ a.1)]
 rfl
theorem r0{l:List Int}(hw:W32l l)(hl:l.length<=600)(M:MeT)(z:PwT)(fr:Int×Unit):∀(f m i:Nat),1<=i->i<=l.length->l.length-i<=f->f<m->
 ((L_70_142_0_0 m i M z ((i:Int),fr) l=some (.e0 M z (((Sp.rdl l f i []).1:Int),fr) l)\/L_70_142_0_0 m i M z ((i:Int),fr) l=some (.e1 M z (((Sp.rdl l f i []).1:Int),fr) l))/\(Sp.rdl l f i []).2=[] \/
   (L_70_142_0_0 m i M z ((i:Int),fr) l=some (.e2 M z (((Sp.rdl l f i []).1:Int),fr) l (Sp.rdl l f i []).2)\/L_70_142_0_0 m i M z ((i:Int),fr) l=some (.e3 M z (((Sp.rdl l f i []).1:Int),fr) l (Sp.rdl l f i []).2)))/\KOK (Sp.rdl l f i []).2/\(Sp.rdl l f i []).2.length<=(Sp.rdl l f i []).1/\i<=(Sp.rdl l f i []).1/\(Sp.rdl l f i []).1<=l.length:=by
 have kn:KOK []:=fun e he=>by cases he
 intro f
 induction f with
 |zero=>
  intro m i h1 hi hf hm
  obtain⟨m,rfl⟩:∃k,m=k+1:=⟨m-1,by omega⟩
  refine⟨.inl ⟨.inr ?_,rfl⟩,kn,Nat.zero_le _,Nat.le_refl _,hi⟩
  rw[L_70_142_0_0,S_70_142_0_0,cond_dff (by omega),Sp.rdl]
 |succ f ih=>
  intro m i h1 hi hf hm
  obtain⟨m,rfl⟩:∃k,m=k+1:=⟨m-1,by omega⟩
  obtain⟨n,k,ok,h⟩:=hd_at hw i
  have hn2:=h.n
  have hk0:=h.k0
  have hk1:=h.k1
  rw[rdl_s h]
  by_cases c1:i<l.length
  rotate_left
  ·rw[if_neg (fun a=>c1 a.1)]
   refine⟨.inl ⟨.inr ?_,rfl⟩,kn,Nat.zero_le _,Nat.le_refl _,hi⟩
   rw[L_70_142_0_0,S_70_142_0_0,cond_dff (by omega)]
  have hx:=hw.at i
  have nv:=num_pv hx.1 hx.2
  rw[L_70_142_0_0,S_70_142_0_0,cond_dtt (by omega),gd_inB (by omega) (by omega),Int.toNat_natCast,nv.1,nv.2,gd_tt,h.e]
  dsimp only
  cases ok with
  |false=>
   rw[if_neg (fun a=>Bool.noConfusion a.2.1),Bool.not_false,cond_t]
   exact⟨.inl ⟨.inl rfl,rfl⟩,kn,Nat.zero_le _,Nat.le_refl _,hi⟩
  |true=>
  have e1:Int.tdiv (k*256+(n:Int)) 256=k:=by rw[Int.tdiv_eq_ediv_of_nonneg (by omega)];omega
  have e2:Int.tmod (k*256+(n:Int)) 256=(n:Int):=by rw[Int.tmod_eq_emod_of_nonneg (by omega)];omega
  rw[Bool.not_true,cond_f,e1,e2,wi64 (n:=k) (by omega) (by omega)]
  by_cases c2:k>254
  ·rw[cond_dtt c2,if_neg (fun a=>by omega)]
   exact⟨.inl ⟨.inl rfl,rfl⟩,kn,Nat.zero_le _,Nat.le_refl _,hi⟩
  rw[cond_dff c2]
  by_cases c3:(n:Int)>24
  ·rw[cond_dtt c3,if_neg (fun a=>by omega)]
   exact⟨.inl ⟨.inl rfl,rfl⟩,kn,Nat.zero_le _,Nat.le_refl _,hi⟩
  rw[cond_dff c3,wi64 (n:=(i:Int)+(n:Int)) (by omega) (by omega),wi64 (n:=(i:Int)+(n:Int)+2) (by omega) (by omega),wi64 (n:=(i:Int)+(n:Int)+1) (by omega) (by omega),wi64 (n:=(i:Int)+1) (by omega) (by omega)]
  by_cases c4:(i:Int)+(n:Int)+2>(l.length:Int)
  ·rw[cond_dtt c4,if_neg (fun a=>by omega)]
   exact⟨.inl ⟨.inl rfl,rfl⟩,kn,Nat.zero_le _,Nat.le_refl _,hi⟩
  rw[cond_dff c4,if_pos (show i<l.length/\true=true/\k<=254/\n<=24/\i+n+2<=l.length from⟨c1,rfl,by omega,by omega,by omega⟩),gd_inB (by omega) (by omega),show((i:Int)+(n:Int)+1).toNat=i+n+1 by omega,show((i:Int)+1).toNat=i+1 by omega]
  have hy:=hw.at (i+n+1)
  have ny:=num_pv hy.1 hy.2
  have en:wrap .i64 ((i:Int)+wrap .i64 ((n:Int)+2))=((i+n+2:Nat):Int):=by
   rw[wi64 (n:=(n:Int)+2) (by omega) (by omega),wi64 (by omega) (by omega)];omega
  have next:=ih m (i+n+2) (by omega) (by omega) (by omega) (by omega)
  have j1:J_70_142_1_1 i n M z ((i:Int),fr) l (-1) []=some (.e1 i n M z ((i:Int),fr) l (-1) []):=by
   unfold J_70_142_1_1 S_70_142_1_1
   rw[cond_dff (by decide)]
  rw[ny.1,ny.2,gd_tt]
  dsimp only
  cases hb:(Sp.nmb (l.getD (i+n+1) 0)).2 with
  |false=>
   rw[cond_f,if_neg (fun a=>Bool.noConfusion a.1),j1]
   unfold B_70_142_1_1
   dsimp only
   rw[en]
   exact⟨next.1,next.2.1,next.2.2.1,by omega,next.2.2.2.2⟩
  |true=>
  have s:=sum_pv (W32l.td hw (n+1) i) (by rw[List.length_take];omega)
  rw[cond_t,gd_sl3 (by omega) (by omega) (by omega),show i+n+1-i=n+1 by omega,s.1,s.2,gd_tt]
  dsimp only
  by_cases c5:(Sp.nmb (l.getD (i+n+1) 0)).1=Sp.smw (take (n+1) (drop i l))
  rotate_left
  ·rw[cond_eff c5,if_neg (fun a=>c5 a.2),j1]
   unfold B_70_142_1_1
   dsimp only
   rw[en]
   exact⟨next.1,next.2.1,next.2.2.1,by omega,next.2.2.2.2⟩
  rw[cond_ett c5,if_pos ⟨rfl,c5⟩,gd_sl3 (by omega) (by omega) (by omega),show i+n+1-(i+1)=n by omega,putE_nil]
  have dl:(take n (drop (i+1) l)).length<=24:=by rw[List.length_take];omega
  have k1:KOK [(k,take n (drop (i+1) l),())]:=by
   rw[<-putE_nil]
   exact kn.put hk0 (by omega) dl (W32l.td hw n (i+1))
  have r:=r1 hw hl M z fr f m (i+n+2) [(k,take n (drop (i+1) l),())] k1 (by simp only[List.length_singleton];omega) (by omega) (by omega) (by omega)
  refine⟨.inr ?_,r.2.1,r.2.2.1,by omega,r.2.2.2.2⟩
  have pt:=put_pv kn hk0 (by omega) (by decide) (data:=take n (drop (i+1) l)) (by omega)
  have j0:J_70_142_1_0 i n M z ((i:Int),fr) l (k,take n (drop (i+1) l),())=some (.e0 i n M z ((i:Int),fr) l (k,take n (drop (i+1) l),())):=by
   unfold J_70_142_1_0 S_70_142_1_0
   rw[cond_dtt (by omega),pt.1,gd_tt]
  rw[j0]
  unfold B_70_142_1_0
  dsimp only
  rw[en,pt.2,putE_nil]
  rcases r.1 with r|r
  ·exact .inl ((congrArg (fun z=>B_70_142_0_1 z _ _) r).trans rfl)
  ·exact .inr ((congrArg (fun z=>B_70_142_0_1 z _ _) r).trans rfl)
theorem blk_iff(l:List Int)(e:Nat):(fnd (fun j=>(drop e l).getD j 0 !=4294967295) (drop e l).length 0=none)↔Sp.blk l e=true:=by
 rw[fnd_none]
 unfold Sp.blk
 rw[List.all_eq_true]
 constructor
 ·intro h x hx
  obtain⟨i,hi,e2⟩:=List.mem_iff_getElem.1 hx
  have:=h i (by omega) (by omega)
  rw[getD_at 0 hi,e2]at this
  simpa using this
 ·intro h i _ hi
  rw[getD_at 0 (by omega)]
  have:=h _ (List.getElem_mem (show i<(drop e l).length by omega))
  simpa using this
theorem c1_l(l:List Int)(e:Nat)(hl:l.length<=1000)(M:MeT)(z st:PwT)(es:List EnT):(Sp.blk l e=true->L_70_143_0_1 4611686018427387904 (drop e l) (drop e l).length 0 M z st l es=some (.e1 M z st l es))/\(Sp.blk l e=false->∃k:Nat,L_70_143_0_1 4611686018427387904 (drop e l) (drop e l).length 0 M z st l es=some (.e0 k M z st l es)):=by
 have hd:(drop e l).length<=1000:=by rw[List.length_drop];omega
 have hf:=find0 (fun m i=>L_70_143_0_1 m (drop e l) (drop e l).length i M z st l es) (n:=(drop e l).length) (fun j=>(drop e l).getD j 0 !=4294967295) (ex:=fun j=>some (.e0 (j:Int) M z st l es)) (e1:=some (.e1 M z st l es)) (by omega) (fun m j hj=>by
  show L_70_143_0_1 (m+1) (drop e l) (drop e l).length (j:Int) M z st l es=bif(drop e l).getD j 0 !=4294967295 then some (.e0 (j:Int) M z st l es)else L_70_143_0_1 m (drop e l) (drop e l).length ((j+1:Nat):Int) M z st l es
  rw[L_70_143_0_1,S_70_143_0_1,cond_dtt (by omega),gd_inB (by omega) (by omega),Int.toNat_natCast,wi64 (by omega) (by omega)]
  push_cast
  rfl) (fun m=>by
  show L_70_143_0_1 (m+1) (drop e l) (drop e l).length ((drop e l).length:Int) M z st l es=_
  rw[L_70_143_0_1,S_70_143_0_1,cond_dff (by omega)])
 constructor
 ·intro hb
  rw[(blk_iff l e).2 hb]at hf
  exact hf
 ·intro hb
  cases hq:fnd (fun j=>(drop e l).getD j 0 !=4294967295) (drop e l).length 0 with
  |none=>rw[(blk_iff l e).1 hq]at hb;cases hb
  |some k=>
   rw[hq]at hf
   exact⟨k,hf⟩
theorem c0_l(l:List Int)(e:Nat)(hl:l.length<=1000)(M:MeT)(z st:PwT):(Sp.blk l e=true->L_70_143_0_0 4611686018427387904 (drop e l) (drop e l).length 0 M z st l=some (.e1 M z st l))/\(Sp.blk l e=false->∃k:Nat,L_70_143_0_0 4611686018427387904 (drop e l) (drop e l).length 0 M z st l=some (.e0 k M z st l)):=by
 have hd:(drop e l).length<=1000:=by rw[List.length_drop];omega
 have hf:=find0 (fun m i=>L_70_143_0_0 m (drop e l) (drop e l).length i M z st l) (n:=(drop e l).length) (fun j=>(drop e l).getD j 0 !=4294967295) (ex:=fun j=>some (.e0 (j:Int) M z st l)) (e1:=some (.e1 M z st l)) (by omega) (fun m j hj=>by
  show L_70_143_0_0 (m+1) (drop e l) (drop e l).length (j:Int) M z st l=bif(drop e l).getD j 0 !=4294967295 then some (.e0 (j:Int) M z st l)else L_70_143_0_0 m (drop e l) (drop e l).length ((j+1:Nat):Int) M z st l
  rw[L_70_143_0_0,S_70_143_0_0,cond_dtt (by omega),gd_inB (by omega) (by omega),Int.toNat_natCast,wi64 (by omega) (by omega)]
  push_cast
  rfl) (fun m=>by
  show L_70_143_0_0 (m+1) (drop e l) (drop e l).length ((drop e l).length:Int) M z st l=_
  rw[L_70_143_0_0,S_70_143_0_0,cond_dff (by omega)])
 constructor
 ·intro hb
  rw[(blk_iff l e).2 hb]at hf
  exact hf
 ·intro hb
  cases hq:fnd (fun j=>(drop e l).getD j 0 !=4294967295) (drop e l).length 0 with
  |none=>rw[(blk_iff l e).1 hq]at hb;cases hb
  |some k=>
   rw[hq]at hf
   exact⟨k,hf⟩
theorem rdv_b{l:List Int}(hw:W32l l)(hl:l.length<=600)(h1:1<=l.length):KOK (Sp.rdv l).1/\(Sp.rdv l).1.length<=l.length/\1<=(Sp.rdv l).2.1/\(Sp.rdv l).2.1<=l.length:=by
 have r:=r0 hw hl (([],[],0,()),0,0,()) (0,0,()) (0,()) l.length 4611686018427387904 1 (Nat.le_refl _) h1 (by omega) (by omega)
 unfold Sp.rdv
 dsimp only
 refine⟨r.2.1,by omega,by omega,by omega⟩
theorem read_pv{m:MeT}(hw:W32f m.1)(hv:Sp.fv m.1=true)(hp:Sp.plc m=true){k:Nat}(hk:k<2):p_70 m k=true/\v_70 m k=(Sp.rdv (Sp.hwr m k),()):=by
 have w:=wrd_pv hv hp hk
 have ll:=hwr_len hv hp hk
 have b:=pl_b hv hp
 have hW:=hw.half k
 refine pv_70 m k ?_
 unfold F_70
 rw[w.1,w.2,gd_tt]
 dsimp only
 generalize Sp.hwr m k=l at *
 have r:=r0 hW (by omega) m (0,0,()) (0,()) l.length 4611686018427387904 1 (Nat.le_refl _) (by omega) (by omega) (by omega)
 obtain⟨r,_,_,h3,h4⟩:=r
 unfold Sp.rdv
 generalize Sp.rdl l l.length 1 []=R at *
 obtain⟨e,es⟩:=R
 dsimp only at *
 have nil:es=[]->gd (sl3 (e:Int) (l.length:Int) (l.length:Int)) (B_70_143_0_0 (L_70_143_0_0 4611686018427387904 (drop (toNat (e:Int)) l) (drop (toNat (e:Int)) l).length 0 m (0,0,()) ((e:Int),0,()) l) (fun y62 y63 y64 y65 y66=>bif !decide (y62>=0)then some (([],y65.1,wrap .i64 ((l.length:Int)-y65.1),y65.2.2),())else some (([],y65),())) (fun y67 y68 y69 y70=>some (([],y69.1,wrap .i64 ((l.length:Int)-y69.1),y69.2.2),())))=some ((es,(e:Int),(if Sp.blk l e=true then(l.length:Int)-(e:Int)else 0),()),()):=by
  rintro rfl
  have c:=c0_l l e (by omega) m (0,0,()) ((e:Int),0,())
  rw[gd_sl3 (by omega) (by omega) (by omega),Int.toNat_natCast]
  cases hb:Sp.blk l e with
  |true=>
   rw[c.1 hb,if_pos rfl]
   unfold B_70_143_0_0
   dsimp only
   rw[wi64 (by omega) (by omega)]
  |false=>
   obtain⟨q,hq⟩:=c.2 hb
   rw[hq,if_neg Bool.false_ne_true]
   unfold B_70_143_0_0
   dsimp only
   rw[decide_eq_true (by omega),Bool.not_true,cond_f]
 have full:gd (sl3 (e:Int) (l.length:Int) (l.length:Int)) (B_70_143_0_1 (L_70_143_0_1 4611686018427387904 (drop (toNat (e:Int)) l) (drop (toNat (e:Int)) l).length 0 m (0,0,()) ((e:Int),0,()) l es) (fun y89 y90 y91 y92 y93 y94=>bif !decide (y89>=0)then some ((y94,y92.1,wrap .i64 ((l.length:Int)-y92.1),y92.2.2),())else some ((y94,y92),())) (fun y95 y96 y97 y98 y99=>some ((y99,y97.1,wrap .i64 ((l.length:Int)-y97.1),y97.2.2),())))=some ((es,(e:Int),(if Sp.blk l e=true then(l.length:Int)-(e:Int)else 0),()),()):=by
  have c:=c1_l l e (by omega) m (0,0,()) ((e:Int),0,()) es
  rw[gd_sl3 (by omega) (by omega) (by omega),Int.toNat_natCast]
  cases hb:Sp.blk l e with
  |true=>
   rw[c.1 hb,if_pos rfl]
   unfold B_70_143_0_1
   dsimp only
   rw[wi64 (by omega) (by omega)]
  |false=>
   obtain⟨q,hq⟩:=c.2 hb
   rw[hq,if_neg Bool.false_ne_true]
   unfold B_70_143_0_1
   dsimp only
   rw[decide_eq_true (by omega),Bool.not_true,cond_f]
 rcases r with⟨r|r,e0⟩|r|r
 ·exact(congrArg (fun z=>B_70_142_0_0 z _ _ _ _) r).trans (nil e0)
 ·exact(congrArg (fun z=>B_70_142_0_0 z _ _ _ _) r).trans (nil e0)
 ·exact(congrArg (fun z=>B_70_142_0_0 z _ _ _ _) r).trans full
 ·exact(congrArg (fun z=>B_70_142_0_0 z _ _ _ _) r).trans full
namespace Sp
noncomputable def zM:MeT:=(([],[],0,()),0,0,())
noncomputable def ent(m:MeT):List EnT:=(rdv (hwr m (acv m))).1
noncomputable def entv(m:MeT):List EnT×Int×Unit:=if mvl m=true then(ent m,0,())else([],1,())
noncomputable def fky(es:List EnT)(key:Int):Option Nat:=fnd (fun j=>(es.getD j dE).1==key) es.length 0
noncomputable def rdk(m:MeT)(key:Int):List Int×Int×Unit:=if mvl m=true then(if key<0\/key>254 then([],2,())else(match fky (ent m) key with|some j=>(((ent m).getD j dE).2.1,0,())|none=>([],7,())))else([],1,())
noncomputable def opn(f:FlT)(a n:Int):MeT×Int×Unit:=if fv f=true then(if plc (f,a,n,())=true then(if acb (f,a,n,())=true then((f,a,n,()),0,())else(zM,7,()))else(zM,2,()))else(zM,1,())
end Sp
theorem half_1{m:MeT}(hv:Sp.fv m.1=true)(hp:Sp.plc m=true):(Sp.hwr m (Sp.acv m)).length<=600/\1<=(Sp.hwr m (Sp.acv m)).length:=by
 have l:=hwr_len hv hp (acv_lt m)
 have b:=pl_b hv hp
 omega
theorem ent_b{m:MeT}(hw:W32f m.1)(h:Sp.mvl m=true):KOK (Sp.ent m)/\(Sp.ent m).length<=600:=by
 obtain⟨hv,hp,_⟩:=mvl_d h
 have l:=half_1 hv hp
 have r:=rdv_b (hw.half (Sp.acv m)) l.1 l.2
 exact⟨r.1,by have:=r.2.1;unfold Sp.ent;omega⟩
theorem ent_pv{m:MeT}(hw:W32f m.1):p_28 m=true/\v_28 m=Sp.entv m:=by
 have v:=mvl_pv hw
 refine pv_28 m ?_
 unfold F_28 Sp.entv
 rw[v.1,v.2,gd_tt]
 dsimp only
 cases hm:Sp.mvl m
 ·rfl
 obtain⟨hv,hp,_⟩:=mvl_d hm
 have a:=acv_pv hw hv hp
 rw[Bool.not_true,cond_f,if_pos rfl,a.1,a.2,gd_tt]
 dsimp only
 have r:=read_pv hw hv hp (acv_lt m)
 rw[r.1,r.2,gd_tt]
 rfl
theorem rdk_pv{m:MeT}(hw:W32f m.1)(key:Int):p_41 m key=true/\v_41 m key=Sp.rdk m key:=by
 have e:=ent_pv hw
 refine pv_41 m key ?_
 unfold F_41 Sp.rdk
 rw[e.1,e.2,gd_tt]
 unfold Sp.entv
 by_cases hm:Sp.mvl m=true
 rotate_left
 ·rw[if_neg hm,if_neg hm];rfl
 rw[if_pos hm,if_pos hm,cond_nff rfl]
 by_cases h0:key<0
 ·rw[cond_dtt h0,if_pos (.inl h0)]
 rw[cond_dff h0]
 by_cases h1:key>254
 ·rw[cond_dtt h1,if_pos (.inr h1)]
 rw[cond_dff h1,if_neg (fun a=>a.elim h0 h1)]
 have b:=ent_b hw hm
 dsimp only
 generalize Sp.ent m=es at *
 have hf:=find0 (fun m i=>L_41_0 m key es es.length i) (n:=es.length) (fun j=>(es.getD j Sp.dE).1==key) (ex:=fun j=>some (.e0 es (j:Int))) (e1:=some .e1) (by omega) (fun m j hj=>by
  show L_41_0 (m+1) key es es.length (j:Int)=bif(es.getD j Sp.dE).1==key then some (.e0 es (j:Int))else L_41_0 m key es es.length ((j+1:Nat):Int)
  rw[L_41_0,S_41_0,cond_dtt (by omega),gd_inB (by omega) (by omega),Int.toNat_natCast,wi64 (by omega) (by omega)]
  push_cast
  rfl) (fun m=>by
  show L_41_0 (m+1) key es es.length (es.length:Int)=_
  rw[L_41_0,S_41_0,cond_dff (by omega)])
 rw[show fnd (fun j=>(es.getD j Sp.dE).1==key) es.length 0=Sp.fky es key from rfl]at hf
 refine(congrArg (fun z=>B_41_0 z _ _) hf).trans ?_
 cases Sp.fky es key with
 |none=>rfl
 |some j=>
  show some ((getD es (toNat (j:Int)) _).2.1,0,())=_
  rw[Int.toNat_natCast]
  rfl
theorem rdk_b{m:MeT}(hw:W32f m.1)(key:Int):W32l (Sp.rdk m key).1/\(Sp.rdk m key).1.length<=24:=by
 have nil:W32l []/\([]:List Int).length<=24:=⟨(fun x hx=>by cases hx),Nat.zero_le _⟩
 unfold Sp.rdk
 by_cases hm:Sp.mvl m=true
 rotate_left
 ·rw[if_neg hm];exact nil
 rw[if_pos hm]
 by_cases h:key<0\/key>254
 ·rw[if_pos h];exact nil
 rw[if_neg h]
 have b:=ent_b hw hm
 cases hf:Sp.fky (Sp.ent m) key with
 |none=>exact nil
 |some j=>
  unfold Sp.fky at hf
  have hj:=(fnd_some hf).2.1
  have hj:j<(Sp.ent m).length:=by omega
  have:=b.1 _ (List.getElem_mem hj)
  show W32l ((Sp.ent m).getD j Sp.dE).2.1/\_
  dsimp only
  rw[getD_at _ hj]
  exact⟨this.2.2,this.2.1⟩
theorem cpy_pv{f:FlT}(h:Sp.fv f=true):p_126 f=true/\v_126 f=(f,()):=by
 have v:=fv_iff.1 h
 refine pv_126 f ?_
 unfold F_126
 rw[gd_room (by omega) (by omega),gd_room (by omega) (by omega)]
set_option maxRecDepth 100000
set_option maxHeartbeats 4000000
theorem orW_len(ws:List Int)(o:Nat)(b:Int)(n:Nat):(Sp.orW ws o b n).length=ws.length:=by simp[Sp.orW]
theorem orW_get(ws:List Int)(o:Nat)(b:Int)(n i:Nat)(h:i<ws.length):(Sp.orW ws o b n).getD i 0=if o<=i/\i<o+n then Sp.orI .u32 (ws.getD i 0) b else ws.getD i 0:=by
 have hl:i<(Sp.orW ws o b n).length:=by rw[orW_len];exact h
 rw[getD_at 0 hl,getD_at 0 h]
 simp[Sp.orW]
theorem orW_zero(ws:List Int)(o:Nat)(b:Int):Sp.orW ws o b 0=ws:=by
 refine list_ext 0 (orW_len ..) (fun j hj=> ?_)
 rw[orW_len]at hj
 rw[orW_get _ _ _ _ _ hj,if_neg (by omega)]
theorem orW_succ(ws:List Int)(o:Nat)(b:Int)(n:Nat)(h:o+n<ws.length):(Sp.orW ws o b n).set (o+n) (Sp.orI .u32 ((Sp.orW ws o b n).getD (o+n) 0) b)=Sp.orW ws o b (n+1):=by
 refine list_ext 0 (by rw[List.length_set,orW_len,orW_len]) (fun j hj=> ?_)
 rw[List.length_set,orW_len]at hj
 rw[getD_set _ _ _ _ _ (by rw[orW_len];exact h),orW_get _ _ _ _ _ hj,orW_get _ _ _ _ _ hj,orW_get _ _ _ _ _ h]
 split
 ·subst j
  rw[if_neg (by omega),if_pos (by omega)]
 ·by_cases hh:o<=j/\j<o+n
  ·rw[if_pos hh,if_pos (by omega)]
  ·rw[if_neg hh,if_neg (by omega)]
theorem ers_ok{f:FlT}{p:PwT}{s:Nat}(h:Sp.fv f=true)(h0:0<=p.1)(h1:p.1<=1099511627776)(h2:s<f.2.1.length):F_127 f s p=some (Sp.ers f s p):=by
 have hv:=fv_iff.1 h
 unfold F_127 Sp.ers Sp.ew
 rw[(chk_pv h h0 h1 (by omega) (by omega)).1,(chk_pv h h0 h1 (by omega) (by omega)).2,gd_tt,cond_nff rfl,gd_inB (by omega) (by omega),Int.toNat_natCast]
 by_cases e:f.2.1.getD s 0=f.2.2.1
 ·rw[cond_ett e,if_pos e]
 rw[cond_eff e,if_neg e,gd_room (by omega) (by omega),gd_room (by omega) (by omega)]
 have hb:=hv.2.2.2.2.2 s h2
 by_cases e0:p.1=0
 ·rw[cond_ett e0,if_pos e0]
 rw[cond_eff e0,if_neg e0,wi64 (n:=(s:Int)+1) (by omega) (by omega),wi64 (n:=(s:Int)*64) (by omega) (by omega),wi64 (n:=((s:Int)+1)*64) (by omega) (by omega),gd_sl3 (by omega) (by omega) (by omega),
  show(((s:Int)+1)*64).toNat-((s:Int)*64).toNat=64 by omega,show((s:Int)*64).toNat=s*64 by omega]
 have hr:∀(b:Int)(p5:FlT)(p6:Int)(p7:PwT)(p8:Int×PUnit)(p9:PwT)(p10:FlT)(p11:PwT)(p12:Int×PUnit)(p13:PwT)(p15:List Int)(p16 p17:Int×PUnit),L_127_148_0_0 4611686018427387904 b (s*64) 64 ((64:Nat):Int) 0 p5 p6 p7 p8 p9 p10 p11 p12 p13 f.1 p15 p16 p17=some (.e0 p5 p6 p7 p8 p9 p10 p11 p12 p13 (Sp.orW f.1 (s*64) b 64) p15 p16 p17):=by
  intro b p5 p6 p7 p8 p9 p10 p11 p12 p13 p15 p16 p17
  have:=run0 (fun m i ws=>L_127_148_0_0 m b (s*64) 64 ((64:Nat):Int) i p5 p6 p7 p8 p9 p10 p11 p12 p13 ws p15 p16 p17) (n:=64) (fun j=>Sp.orW f.1 (s*64) b j) (r:=some (.e0 p5 p6 p7 p8 p9 p10 p11 p12 p13 (Sp.orW f.1 (s*64) b 64) p15 p16 p17)) (by omega) (fun m j hj=>by
   show L_127_148_0_0 (m+1) b (s*64) 64 ((64:Nat):Int) (j:Int) p5 p6 p7 p8 p9 p10 p11 p12 p13 (Sp.orW f.1 (s*64) b j) p15 p16 p17=_
   rw[L_127_148_0_0,S_127_148_0_0,cond_dtt (by omega)]
   simp only[gd_inB (show(0:Int)<=(j:Int) by omega) (show(j:Int)<((64:Nat):Int) by omega),Int.toNat_natCast,Bool.and_true,orW_len,gd_dec (show s*64+j<f.1.length by omega)]
   rw[orW_succ _ _ _ _ (by omega),wi64 (by omega) (by omega)]
   push_cast
   rfl) (fun m=>by
   show L_127_148_0_0 (m+1) b (s*64) 64 ((64:Nat):Int) ((64:Nat):Int) p5 p6 p7 p8 p9 p10 p11 p12 p13 (Sp.orW f.1 (s*64) b 64) p15 p16 p17=_
   rw[L_127_148_0_0,S_127_148_0_0,cond_dff (by omega)])
  rw[orW_zero]at this
  exact this
 simp only[hr,B_127_148_0_0]
 simp only[gd_inB (show(0:Int)<=(s:Int) by omega) (show(s:Int)<((f.2.1.length:Nat):Int) by omega),Int.toNat_natCast,Bool.and_true,gd_dec h2]
 rw[wi64 (n:=f.2.1.getD s 0+1) (by omega) (by omega)]
 by_cases e1:p.1=1
 ·rw[cond_ett e1,if_pos e1]
 rw[cond_eff e1,if_neg e1,wi64 (by omega) (by omega),gd_sl3 (by omega) (by omega) (by omega)]
theorem ers_pv{f:FlT}{p:PwT}{s:Nat}(h:Sp.fv f=true)(h0:0<=p.1)(h1:p.1<=1099511627776)(h2:s<f.2.1.length):p_127 f s p=true/\v_127 f s p=Sp.ers f s p:=pv_127 f s p (ers_ok h h0 h1 h2)
abbrev StT:=Bool×Int×Int×Unit
abbrev OuM:=MeT×PwT×Int×Unit
namespace Sp
noncomputable def pok(p:PwT):Bool:=decide (0<=p.1)&&decide (p.1<=1099511627776)
noncomputable def dop(s:RsT)(x:StT):RsT:=if x.1=true then ers s.1 x.2.1.toNat s.2.1 else prg s.1 x.2.1.toNat x.2.2.1 s.2.1
noncomputable def dol:List StT->RsT->RsT
 |[],s=>s
 |x::l,s=>if s.2.2.1=0 then dol l (dop s x)else s
noncomputable def dov(m:MeT)(l:List StT)(p:PwT):OuM:=if(dol l (m.1,p,0,())).2.2.1=0\/(dol l (m.1,p,0,())).2.2.1=18 then(((dol l (m.1,p,0,())).1,m.2),(dol l (m.1,p,0,())).2.1,(dol l (m.1,p,0,())).2.2.1,())else(zM,(0,0,()),(dol l (m.1,p,0,())).2.2.1,())
noncomputable def erl:Nat->Int->List StT
 |0,_=>[]
 |n+1,a=>(true,a,0,())::erl n (a+1)
noncomputable def wor(f:FlT):Nat->Nat->Bool
 |0,_=>false
 |n+1,a=>decide (f.2.1.getD a 0>=f.2.2.1)||wor f n (a+1)
noncomputable def pgl:List Int->Int->List StT
 |[],_=>[]
 |x::l,a=>(false,a,x,())::pgl l (a+1)
noncomputable def fmv(f:FlT)(a n:Int)(p:PwT):OuM:=if fv f=true/\pok p=true then(if plc (f,a,n,())=true then(if wor f n.toNat a.toNat=true then(zM,(0,0,()),19,())else dov (f,a,n,()) (erl n.toNat a++pgl [prw 1] (64*a)) p)else(zM,(0,0,()),2,()))else(zM,(0,0,()),1,())
end Sp
theorem dol_stop(l:List StT){s:RsT}(h:s.2.2.1≠0):Sp.dol l s=s:=by
 cases l with
 |nil=>rfl
 |cons x l=>rw[Sp.dol,if_neg h]
theorem bv_rng(b:BitVec 32):0<=wrap .u32 ((b.toNat:Nat):Int)/\wrap .u32 ((b.toNat:Nat):Int)<4294967296:=by
 have:=b.isLt
 rw[u32_wrap_nat b.isLt];omega
theorem W32f_orW{f:FlT}(h:W32f f)(o:Nat)(b:Int)(n:Nat)(r:List Int×Int×Unit):W32f (Sp.orW f.1 o b n,r):=by
 intro x hx
 obtain⟨i,hi,e⟩:=List.mem_iff_getElem.1 hx
 have hl:i<f.1.length:=by rw[show(Sp.orW f.1 o b n,r).1=Sp.orW f.1 o b n from rfl,orW_len]at hi;exact hi
 have g:=orW_get f.1 o b n i hl
 rw[getD_at 0 (by rw[orW_len];exact hl)]at g
 have e:(Sp.orW f.1 o b n)[i]'(by rw[orW_len];exact hl)=x:=e
 rw[e]at g
 rw[g]
 split
 ·exact bv_rng _
 ·exact h.at i
theorem fv_ew{f:FlT}{s:Nat}(b:Int)(h:Sp.fv f=true)(h1:f.2.1.getD s 0≠f.2.2.1)(h2:s<f.2.1.length):Sp.fv (Sp.ew f s b)=true:=by
 have hv:=fv_iff.1 h
 unfold Sp.ew
 refine fv_iff.2 ⟨?_,?_,?_,hv.2.2.2.1,hv.2.2.2.2.1,fun j hj=> ?_⟩
 ·simp only[List.length_set];omega
 ·simp only[List.length_set];omega
 ·simp only[List.length_set,orW_len];omega
 ·simp only[List.length_set]at hj
  have a:=hv.2.2.2.2.2 j hj
  have c:=hv.2.2.2.2.2 s h2
  dsimp only
  rw[getD_set _ _ _ _ _ h2]
  split
  ·omega
  ·exact a
structure SG(f0:FlT)(s:RsT):Prop where
 v:Sp.fv s.1=true
 l:s.1.1.length=f0.1.length
 n:s.1.2.1.length=f0.2.1.length
 w:W32f s.1
 p0:0<=s.2.1.1
 p1:s.2.1.1<=1099511627776
 e:s.2.2.1=0\/s.2.2.1=18
noncomputable def SV(f0:FlT)(x:StT):Prop:=0<=x.2.1/\(x.1=true->x.2.1<f0.2.1.length)/\(x.1=false->x.2.1<f0.1.length)
theorem fv_pw(f:FlT)(k:Nat)(w b:Int):Sp.fv (Sp.pw f k w b)=Sp.fv f:=by
 unfold Sp.pw Sp.fv
 dsimp only
 rw[List.length_set]
 rfl
theorem prg_sg{f0:FlT}{s:RsT}(h:SG f0 s)(k:Nat)(x:Int):SG f0 (Sp.prg s.1 k x s.2.1):=by
 have hw:∀b,W32f (Sp.pw s.1 k x b):=fun b y hy=>by
  rcases List.mem_or_eq_of_mem_set hy with h1|rfl
  ·exact h.w y h1
  ·exact bv_rng _
 have hl:∀b,(Sp.pw s.1 k x b).1.length=f0.1.length:=fun b=>by unfold Sp.pw;dsimp only;rw[List.length_set];exact h.l
 have p0:=h.p0
 have p1:=h.p1
 unfold Sp.prg
 split
 ·exact⟨h.v,h.l,h.n,h.w,h.p0,h.p1,.inr rfl⟩
 split
 ·exact⟨by rw[fv_pw];exact h.v,hl _,h.n,hw _,Int.le_refl _,by show(0:Int)<=_;decide,.inr rfl⟩
 ·refine⟨by rw[fv_pw];exact h.v,hl _,h.n,hw _,?_,?_,.inl rfl⟩
  ·show 0<=s.2.1.1-1;omega
  ·show s.2.1.1-1<=_;omega
theorem ers_sg{f0:FlT}{s:RsT}(h:SG f0 s){k:Nat}(hk:k<f0.2.1.length):SG f0 (Sp.ers s.1 k s.2.1)\/(Sp.ers s.1 k s.2.1).2.2.1=19:=by
 have p0:=h.p0
 have p1:=h.p1
 have hkl:k<s.1.2.1.length:=by rw[h.n];exact hk
 by_cases hn:s.1.2.1.getD k 0=s.1.2.2.1
 ·right
  unfold Sp.ers
  rw[if_pos hn]
 left
 have he:∀b,Sp.fv (Sp.ew s.1 k b)=true:=fun b=>fv_ew b h.v hn hkl
 have hl1:∀b,(Sp.ew s.1 k b).1.length=f0.1.length:=fun b=>by unfold Sp.ew;dsimp only;rw[orW_len];exact h.l
 have hw1:∀b,W32f (Sp.ew s.1 k b):=fun b=>W32f_orW h.w _ _ _ _
 have hn1:∀b,(Sp.ew s.1 k b).2.1.length=f0.2.1.length:=fun b=>by unfold Sp.ew;dsimp only;rw[List.length_set];exact h.n
 unfold Sp.ers
 rw[if_neg hn]
 split
 ·exact⟨h.v,h.l,h.n,h.w,p0,p1,.inr rfl⟩
 split
 ·exact⟨he _,hl1 _,hn1 _,hw1 _,Int.le_refl _,(by show(0:Int)<=_;decide),.inr rfl⟩
 ·exact⟨he _,hl1 _,hn1 _,hw1 _,(by show 0<=s.2.1.1-1;omega),(by show s.2.1.1-1<=_;omega),.inl rfl⟩
theorem dop_sg{f0:FlT}{s:RsT}(h:SG f0 s){x:StT}(hx:SV f0 x):SG f0 (Sp.dop s x)\/(Sp.dop s x).2.2.1=19:=by
 unfold Sp.dop
 cases hb:x.1
 ·rw[if_neg Bool.false_ne_true]
  exact .inl (prg_sg h _ _)
 ·rw[if_pos rfl]
  have:=hx.2.1 hb
  have:=hx.1
  exact ers_sg h (by omega)
theorem drop_s{l:List StT}{j:Nat}(d:StT)(h:j<l.length):l.drop j=l.getD j d::l.drop (j+1):=by
 rw[List.drop_eq_getElem_cons h,List.getD_eq_getElem?_getD,List.getElem?_eq_getElem h];rfl
theorem dv_l{f0:FlT}(l:List StT)(hv:∀x∈l,SV f0 x)(hl:l.length<=1000000)(hf:f0.1.length<=100000)(hf2:f0.2.1.length<=1000)(r:Int×Int×Unit)(p5:Int×Unit)(p6:PwT)(p7 p8:List Int)(p9:PwT):∀(d m j:Nat)(s:RsT),SG f0 s->s.2.2.1=0->j+d=l.length->d<m->
 L_94_0 m l l.length j (s.1,r) s.2.1 p5 p6 p7 p8 p9=some (if(Sp.dol (l.drop j) s).2.2.1=0 then .e2 ((Sp.dol (l.drop j) s).1,r) (Sp.dol (l.drop j) s).2.1 p5 p6 p7 p8 p9 else if(Sp.dol (l.drop j) s).2.2.1=18 then .e0 18 ((Sp.dol (l.drop j) s).1,r) (Sp.dol (l.drop j) s).2.1 else .e1 (Sp.dol (l.drop j) s).2.2.1):=by
 intro d
 induction d with
 |zero=>
  intro m j s h e hj hm
  obtain⟨m,rfl⟩:∃k,m=k+1:=⟨m-1,by omega⟩
  rw[L_94_0,S_94_0,cond_dff (by omega),List.drop_of_length_le (by omega),Sp.dol,if_pos e]
 |succ d ih=>
  intro m j s h e hj hm
  obtain⟨m,rfl⟩:∃k,m=k+1:=⟨m-1,by omega⟩
  have hjl:j<l.length:=by omega
  have hx:=hv _ (List.getElem_mem hjl)
  rw[<-getD_at Zd3 hjl]at hx
  have fl:=h.l
  have fn:=h.n
  rw[L_94_0,S_94_0,cond_dtt (by omega),gd_inB (by omega) (by omega),Int.toNat_natCast,drop_s Zd3 hjl,Sp.dol,if_pos e]
  generalize getD l j Zd3=x at *
  have hg:=dop_sg h hx
  have x0:=hx.1
  have fin:∀t:RsT,t=Sp.dop s x->B_94_1 (J_94_1 t.2.2.1 l l.length j (t.1,r) t.2.1 p5 p6 p7 p8 p9) (fun y30 y31 y32=>some (.e0 y30 y31 y32)) (fun y33=>some (.e1 y33)) (fun y34 y35 y36 y37 y38 y39 y40 y41 y42 y43 y44=>L_94_0 m y35 y36 (wrap .i64 (y37+1)) y38 y39 y40 y41 y42 y43 y44)=some (if(Sp.dol (l.drop (j+1)) (Sp.dop s x)).2.2.1=0 then .e2 ((Sp.dol (l.drop (j+1)) (Sp.dop s x)).1,r) (Sp.dol (l.drop (j+1)) (Sp.dop s x)).2.1 p5 p6 p7 p8 p9 else if(Sp.dol (l.drop (j+1)) (Sp.dop s x)).2.2.1=18 then .e0 18 ((Sp.dol (l.drop (j+1)) (Sp.dop s x)).1,r) (Sp.dol (l.drop (j+1)) (Sp.dop s x)).2.1 else .e1 (Sp.dol (l.drop (j+1)) (Sp.dop s x)).2.2.1):=by
   rintro t rfl
   unfold J_94_1 S_94_1
   by_cases e18:(Sp.dop s x).2.2.1=18
   ·rw[cond_ett e18,dol_stop _ (by rw[e18];decide),if_neg (by rw[e18];decide),if_pos e18,e18]
    rfl
   rw[cond_eff e18]
   by_cases e0:(Sp.dop s x).2.2.1=0
   ·rw[cond_nff e0]
    unfold B_94_1
    dsimp only
    rw[wi64 (by omega) (by omega),show(j:Int)+1=((j+1:Nat):Int) by push_cast;rfl]
    rcases hg with g|g
    ·exact ih m (j+1) _ g e0 (by omega) (by omega)
    ·rw[e0]at g;cases g
   ·rw[cond_ntt e0,dol_stop _ e0,if_neg e0,if_neg e18]
    rfl
  cases hb:x.1 with
  |true=>
   have:=hx.2.1 hb
   have pv:=ers_pv (f:=s.1) (p:=s.2.1) (s:=x.2.1.toNat) h.v h.p0 h.p1 (by omega)
   rw[show((x.2.1.toNat:Nat):Int)=x.2.1 by omega]at pv
   rw[cond_t,pv.1,pv.2,gd_tt]
   exact fin _ (by unfold Sp.dop;rw[if_pos hb])
  |false=>
   have:=hx.2.2 hb
   have pv:=prg_pv (f:=s.1) (p:=s.2.1) (k:=x.2.1.toNat) (w:=x.2.2.1) h.v h.p0 h.p1 (by omega)
   rw[show((x.2.1.toNat:Nat):Int)=x.2.1 by omega]at pv
   rw[cond_f,pv.1,pv.2,gd_tt]
   exact fin _ (by unfold Sp.dop;rw[if_neg (by rw[hb];exact Bool.false_ne_true)])
theorem SG.init{f:FlT}{p:PwT}(h:Sp.fv f=true)(hw:W32f f)(h0:0<=p.1)(h1:p.1<=1099511627776):SG f (f,p,0,()):=⟨h,rfl,rfl,hw,h0,h1,.inl rfl⟩
theorem do_pv{m:MeT}{l:List StT}{p:PwT}(hv:Sp.fv m.1=true)(hw:W32f m.1)(h0:0<=p.1)(h1:p.1<=1099511627776)(hs:∀x∈l,SV m.1 x)(hl:l.length<=1000000):p_94 m l p=true/\v_94 m l p=Sp.dov m l p:=by
 have c:=cpy_pv hv
 have v:=fv_iff.1 hv
 refine pv_94 m l p ?_
 unfold F_94 Sp.dov
 rw[c.1,c.2,gd_tt]
 have t:=dv_l (f0:=m.1) l hs hl (by omega) (by omega) m.2 (0,()) (0,0,()) [] [] (0,0,()) l.length 4611686018427387904 0 _ (SG.init hv hw h0 h1) rfl (by omega) (by omega)
 rw[List.drop_zero]at t
 refine(congrArg (fun z=>B_94_0 z _ _ _) t).trans ?_
 by_cases e0:(Sp.dol l (m.1,p,0,())).2.2.1=0
 ·rw[if_pos e0,if_pos (.inl e0),e0]
  rfl
 rw[if_neg e0]
 by_cases e1:(Sp.dol l (m.1,p,0,())).2.2.1=18
 ·rw[if_pos e1,if_pos (.inr e1),e1]
  rfl
 ·rw[if_neg e1,if_neg (fun a=>a.elim e0 e1)]
  rfl
theorem erl_len:∀(n:Nat)(a:Int),(Sp.erl n a).length=n
 |0,_=>rfl
 |n+1,a=>by rw[Sp.erl,List.length_cons,erl_len n]
theorem erl_snoc:∀(n:Nat)(a:Int),Sp.erl (n+1) a=Sp.erl n a++[(true,a+n,0,())]
 |0,a=>by simp[Sp.erl]
 |n+1,a=>by
  rw[Sp.erl,erl_snoc n (a+1),Sp.erl,List.cons_append]
  congr 3
  congr 2
  omega
theorem erl_sv{f0:FlT}:∀(n:Nat)(a:Int),0<=a->a+n<=f0.2.1.length->∀x∈Sp.erl n a,SV f0 x
 |0,a,_,_=>by simp[Sp.erl]
 |n+1,a,h0,h1=>by
  intro x hx
  rw[Sp.erl]at hx
  rcases List.mem_cons.1 hx with rfl|hx
  ·exact⟨h0,(fun _=>by show a<_;omega),(fun h=>by cases h)⟩
  ·exact erl_sv n (a+1) (by omega) (by omega) x hx
theorem pgl_sv{f0:FlT}:∀(l:List Int)(a:Int),0<=a->a+l.length<=f0.1.length->∀x∈Sp.pgl l a,SV f0 x
 |[],a,_,_=>by simp[Sp.pgl]
 |w::l,a,h0,h1=>by
  intro x hx
  rw[List.length_cons]at h1
  rw[Sp.pgl]at hx
  rcases List.mem_cons.1 hx with rfl|hx
  ·exact⟨h0,(fun h=>by cases h),(fun _=>by show a<_;omega)⟩
  ·exact pgl_sv l (a+1) (by omega) (by omega) x hx
theorem pgl_len:∀(l:List Int)(a:Int),(Sp.pgl l a).length=l.length
 |[],_=>rfl
 |x::l,a=>by rw[Sp.pgl,List.length_cons,List.length_cons,pgl_len l]
theorem pgl_snoc:∀(l:List Int)(x a:Int),Sp.pgl (l++[x]) a=Sp.pgl l a++[(false,a+l.length,x,())]
 |[],x,a=>by simp[Sp.pgl]
 |y::l,x,a=>by
  rw[List.cons_append,Sp.pgl,pgl_snoc l x (a+1),Sp.pgl,List.cons_append]
  congr 3
  congr 2
  rw[List.length_cons];omega
theorem erl_l{m:MeT}(hw:m.1.2.1.length<=1000)(b:Nat)(hb:b<=m.1.2.1.length):∀(d q i:Nat)(a:Nat)(acc:Nat),a+acc=i->i+d=b->d<q->L_130_0 q b i m (Sp.erl acc a)=some (if Sp.wor m.1 d i=true then .e0 else .e1 (Sp.erl (acc+d) a)):=by
 intro d
 induction d with
 |zero=>
  intro q i a acc h1 h2 h3
  obtain⟨q,rfl⟩:∃k,q=k+1:=⟨q-1,by omega⟩
  rw[L_130_0,S_130_0,cond_dff (by omega),Sp.wor,if_neg Bool.false_ne_true]
  rfl
 |succ d ih=>
  intro q i a acc h1 h2 h3
  obtain⟨q,rfl⟩:∃k,q=k+1:=⟨q-1,by omega⟩
  rw[L_130_0,S_130_0,cond_dtt (by omega),gd_inB (by omega) (by omega),Int.toNat_natCast,Sp.wor]
  by_cases c:m.1.2.1.getD i 0>=m.1.2.2.1
  ·rw[cond_dtt c,decide_eq_true c,Bool.true_or,if_pos rfl]
  ·rw[cond_dff c,decide_eq_false c,Bool.false_or,erl_len,gd_room (by omega) (by omega),wi64 (by omega) (by omega),show(i:Int)+1=((i+1:Nat):Int) by push_cast;rfl]
   have:=ih q (i+1) a (acc+1) (by omega) (by omega) (by omega)
   rw[erl_snoc,show(a:Int)+(acc:Int)=(i:Int) by omega]at this
   rw[this,show acc+1+d=acc+(d+1) by omega]
theorem erl_pv{m:MeT}(hw:m.1.2.1.length<=1000)(a n:Nat)(hb:a+n<=m.1.2.1.length):p_130 m (a:Int) ((a+n:Nat):Int)=true/\v_130 m (a:Int) ((a+n:Nat):Int)=(if Sp.wor m.1 n a=true then([],false,())else(Sp.erl n a,true,())):=by
 refine pv_130 _ _ _ ?_
 unfold F_130
 have t:=erl_l hw (a+n) hb n 4611686018427387904 a a 0 (by omega) rfl (by omega)
 refine(congrArg (fun z=>B_130_0 z _ _) t).trans ?_
 cases Sp.wor m.1 n a
 ·rw[if_neg Bool.false_ne_true,if_neg Bool.false_ne_true,Nat.zero_add];rfl
 ·rfl
theorem pgl_pv{l:List Int}(hl:l.length<=100000){a:Int}(h0:0<=a)(h1:a<=1000000):p_95 a l=true/\v_95 a l=(Sp.pgl l a,()):=by
 refine pv_95 a l ?_
 unfold F_95
 have t:=run0 (fun m i acc=>L_95_0 m a l l.length i acc) (n:=l.length) (fun j=>Sp.pgl (l.take j) a) (r:=some (.e0 (Sp.pgl l a))) (by omega) (fun m j hj=>by
  have hlen:(Sp.pgl (l.take j) a).length=j:=by rw[pgl_len,List.length_take];omega
  show L_95_0 (m+1) a l l.length (j:Int) (Sp.pgl (l.take j) a)=L_95_0 m a l l.length ((j+1:Nat):Int) (Sp.pgl (l.take (j+1)) a)
  rw[L_95_0,S_95_0,cond_dtt (by omega),gd_inB (by omega) (by omega),Int.toNat_natCast,hlen,gd_room (by omega) (by omega),wi64 (n:=(j:Int)+1) (by omega) (by omega),wi64 (n:=a+(j:Int)) (by omega) (by omega),List.take_succ_eq_append_getElem hj,pgl_snoc,List.length_take,Nat.min_eq_left (by omega),getD_at 0 hj]
  rfl) (fun m=>by
  show L_95_0 (m+1) a l l.length (l.length:Int) (Sp.pgl (l.take l.length) a)=_
  rw[L_95_0,S_95_0,cond_dff (by omega),List.take_length])
 exact(congrArg (fun z=>B_95_0 z _) t).trans rfl
theorem pow_pv(p:PwT):p_92 p=true/\v_92 p=(Sp.pok p,()):=by
 refine pv_92 p ?_
 unfold F_92 Sp.pok
 by_cases h:p.1>=0
 ·rw[cond_dtt h,decide_eq_true (p:=0<=p.1) h,Bool.true_and]
 ·rw[cond_dff h,decide_eq_false (p:=0<=p.1) h,Bool.false_and]
set_option maxRecDepth 100000
set_option maxHeartbeats 4000000
theorem rlife_pv(n:Int):p_68 n=true/\v_68 n=(decide (1<=n)&&decide (n<=1000000),()):=by
 refine pv_68 n ?_
 unfold F_68
 by_cases h:n>=1
 ·rw[cond_dtt h,decide_eq_true (p:=1<=n) h,Bool.true_and]
 ·rw[cond_dff h,decide_eq_false (p:=1<=n) h,Bool.false_and]
theorem rfv_ok(f:FlT):F_27 f=some (Sp.fv f,()):=by
 unfold F_27 Sp.fv
 by_cases h1:(f.2.1.length:Int)<1
 ·rw[cond_dtt h1,decide_eq_false (by omega)];rfl
 rw[cond_dff h1,decide_eq_true (p:=1<=f.2.1.length) (by omega),Bool.true_and]
 by_cases h2:(f.2.1.length:Int)>64
 ·rw[cond_dtt h2,decide_eq_false (by omega)];rfl
 rw[cond_dff h2,decide_eq_true (p:=f.2.1.length<=64) (by omega),Bool.true_and,wi64 (by omega) (by omega)]
 by_cases h3:(f.1.length:Int)=(f.2.1.length:Int)*64
 rotate_left
 ·rw[cond_ntt h3,decide_eq_false (p:=f.1.length=_) (by omega)];rfl
 rw[cond_nff h3,decide_eq_true (p:=f.1.length=_) (by omega),Bool.true_and,(rlife_pv f.2.2.1).1,(rlife_pv f.2.2.1).2,gd_tt]
 by_cases h4:f.2.2.1<1
 ·rw[decide_eq_false (p:=1<=f.2.2.1) (by omega)];rfl
 rw[decide_eq_true (p:=1<=f.2.2.1) (by omega),Bool.true_and,Bool.true_and]
 by_cases h5:f.2.2.1>1000000
 ·rw[decide_eq_false (p:=f.2.2.1<=1000000) (by omega)];rfl
 rw[decide_eq_true (p:=f.2.2.1<=1000000) (by omega),Bool.true_and,show(!(true,()).1)=false from rfl,cond_f]
 have hf:=find0 (fun m i=>L_27_0 m f.2.1.length i f) (n:=f.2.1.length) (Sp.wb f) (ex:=fun j=>some .e0) (e1:=some .e1) (by omega) (fun m j hj=>by
  show L_27_0 (m+1) f.2.1.length j f=bif Sp.wb f j then some .e0 else L_27_0 m f.2.1.length ((j+1:Nat):Int) f
  rw[L_27_0,S_27_0,cond_dtt (by omega),gd_inB (by omega) (by omega),gd_inB (by omega) (by omega),Int.toNat_natCast,wi64 (by omega) (by omega)]
  unfold Sp.wb
  push_cast
  cases decide (f.2.1.getD j 0<0)<;>cases decide (f.2.1.getD j 0>f.2.2.1)<;>rfl) (fun m=>by
  show L_27_0 (m+1) f.2.1.length f.2.1.length f=_
  rw[L_27_0,S_27_0,cond_dff (by omega)])
 have e1:L_27_0 4611686018427387904 f.2.1.length 0 f=_:=hf
 rw[e1]
 cases fnd (Sp.wb f) f.2.1.length 0<;>rfl
theorem bv_back(b:BitVec 32):BitVec.ofInt 32 (wrap .u32 ((b.toNat:Nat):Int))=b:=by
 rw[u32_wrap_nat b.isLt]
 apply BitVec.eq_of_toNat_eq
 rw[ofInt_nat b.isLt]
theorem wrap_back{x:Int}(h0:0<=x)(h1:x<4294967296):wrap .u32 (((BitVec.ofInt 32 x).toNat:Nat):Int)=x:=by
 obtain⟨n,rfl⟩:=Int.eq_ofNat_of_zero_le h0
 have hn:n<4294967296:=by omega
 rw[ofInt_nat (n:=32) hn,u32_wrap_nat hn]
theorem msk_eq(x m w:Int):Sp.andI .u32 x (Sp.orI .u32 w (Sp.xorI .u32 4294967295 m))=Sp.andnI .u32 x (Sp.andnI .u32 m w):=by
 unfold Sp.andI Sp.orI Sp.xorI Sp.andnI
 rw[show IntKind.bits .u32=32 from rfl,bv_back,bv_back,bv_back,show BitVec.ofInt 32 4294967295=BitVec.allOnes 32 from by decide]
 congr 3
 generalize BitVec.ofInt 32 x=a
 generalize BitVec.ofInt 32 m=b
 generalize BitVec.ofInt 32 w=c
 apply BitVec.eq_of_getLsbD_eq
 intro i hi
 simp only[BitVec.getLsbD_and,BitVec.getLsbD_or,BitVec.getLsbD_xor,BitVec.getLsbD_not,BitVec.getLsbD_allOnes,hi,decide_true,Bool.true_and]
 cases a.getLsbD i<;>cases b.getLsbD i<;>cases c.getLsbD i<;>rfl
theorem msk_0{x w:Int}(h0:0<=x)(h1:x<4294967296):Sp.andI .u32 x (Sp.orI .u32 w (Sp.xorI .u32 4294967295 0))=x:=by
 rw[msk_eq]
 unfold Sp.andnI
 rw[show IntKind.bits .u32=32 from rfl,bv_back,show BitVec.ofInt 32 0=0#32 from by decide,BitVec.zero_and,show ~~~ (0#32)=BitVec.allOnes 32 from by decide,BitVec.and_allOnes,wrap_back h0 h1]
namespace Sp
noncomputable def rbt(p:PwT):Int×PwT×Int×Unit:=if p.1=0 then(0,p,18,())else if p.1=1 then(p.2.1,(0,p.2),18,())else(4294967295,(p.1-1,p.2),0,())
end Sp
theorem rbits_pv(p:PwT)(h0:0<=p.1)(h1:p.1<=1099511627776):p_153 p=true/\v_153 p=Sp.rbt p:=by
 refine pv_153 p ?_
 unfold F_153 Sp.rbt
 obtain⟨n,q⟩:=p
 dsimp only at *
 by_cases e0:n=0
 ·subst e0;rfl
 rw[if_neg e0]
 by_cases e1:n=1
 ·subst e1;rfl
 rw[if_neg e1,cond_dff (by omega)]
 unfold J_153_0 S_153_0
 rw[cond_dff (by show ¬n<1;omega)]
 show some (_,_,_,_)=_
 dsimp only
 rw[wi64 (by omega) (by omega),if_pos (by omega)]
theorem rpow_pv(p:PwT):p_62 p=true/\v_62 p=(decide (0<=p.1)&&decide (p.1<=1099511627776),()):=by
 refine pv_62 p ?_
 unfold F_62
 by_cases h:p.1>=0
 ·rw[cond_dtt h,decide_eq_true (p:=0<=p.1) h,Bool.true_and]
 ·rw[cond_dff h,decide_eq_false (p:=0<=p.1) h,Bool.false_and]
theorem take_s{l:List Int}{i:Nat}(h:i<l.length):l.take (i+1)=l.take i++[l.getD i 0]:=by
 have e:l.getD i 0=l[i]:=by simp[List.getD_eq_getElem?_getD,List.getElem?_eq_getElem h]
 rw[e,List.take_succ_eq_append_getElem h]
theorem cp0(p6:FlT)(hl:p6.1.length<1000000)(p1:FlT)(p2:PwT)(p3:Int×Unit)(p4 p5:PwT)(p7:Int×Unit)(p8 p9:List Int)(p10:Int×Unit)(p12:List Int):∀(d m i:Nat),i+d=p6.1.length->d<m->L_140_154_0_0 m (i:Nat) p1 p2 p3 p4 p5 p6 p7 p8 p9 p10 (p6.1.take i) p12=some (.e0 p1 p2 p3 p4 p5 p6 p7 p8 p9 p10 p6.1 p12):=by
 intro d
 induction d with
 |zero=>
  intro m i hi hm
  obtain⟨m,rfl⟩:∃k,m=k+1:=⟨m-1,by omega⟩
  rw[L_140_154_0_0,S_140_154_0_0,cond_dff (by omega),List.take_of_length_le (by omega)]
 |succ d ih=>
  intro m i hi hm
  obtain⟨m,rfl⟩:∃k,m=k+1:=⟨m-1,by omega⟩
  have ht:(p6.1.take i).length<=1000000:=by rw[List.length_take];omega
  have:=ih m (i+1) (by omega) (by omega)
  rw[take_s (by omega)]at this
  rw[L_140_154_0_0,S_140_154_0_0,cond_dtt (by omega),gd_inB (by omega) (by omega),gd_room (by omega) (by omega),wi64 (by omega) (by omega),Int.toNat_natCast]
  push_cast at this
  exact this
theorem cp1(p6:FlT)(hl:p6.2.1.length<1000000)(p1:FlT)(p2:PwT)(p3:Int×Unit)(p4 p5:PwT)(p7:Int×Unit)(p8 p9:List Int)(p10:Int×Unit)(p11:List Int):∀(d m i:Nat),i+d=p6.2.1.length->d<m->L_140_154_1_0 m (i:Nat) p1 p2 p3 p4 p5 p6 p7 p8 p9 p10 p11 (p6.2.1.take i)=some (.e0 p1 p2 p3 p4 p5 p7 p8 p9 p10 p11 p6.2.1):=by
 intro d
 induction d with
 |zero=>
  intro m i hi hm
  obtain⟨m,rfl⟩:∃k,m=k+1:=⟨m-1,by omega⟩
  rw[L_140_154_1_0,S_140_154_1_0,cond_dff (by omega),List.take_of_length_le (by omega)]
 |succ d ih=>
  intro m i hi hm
  obtain⟨m,rfl⟩:∃k,m=k+1:=⟨m-1,by omega⟩
  have ht:(p6.2.1.take i).length<=1000000:=by rw[List.length_take];omega
  have:=ih m (i+1) (by omega) (by omega)
  rw[take_s (by omega)]at this
  rw[L_140_154_1_0,S_140_154_1_0,cond_dtt (by omega),gd_inB (by omega) (by omega),gd_room (by omega) (by omega),wi64 (by omega) (by omega),Int.toNat_natCast]
  push_cast at this
  exact this
theorem set_self(l:List Int)(k:Nat)(h:k<l.length):l.set k (l.getD k 0)=l:=by
 refine list_ext 0 (List.length_set ..) (fun j hj=> ?_)
 rw[List.length_set]at hj
 rw[getD_set _ _ _ _ _ (by omega)]
 by_cases e:k=j
 ·rw[if_pos e,e]
 ·rw[if_neg e]
theorem rprg_pv{f:FlT}{p:PwT}{k:Nat}(w:Int)(h:Sp.fv f=true)(h0:0<=p.1)(h1:p.1<=1099511627776)(h2:k<f.1.length)(hw:0<=f.1.getD k 0/\f.1.getD k 0<4294967296):p_140 f k w p=true/\v_140 f k w p=Sp.prg f k w p:=by
 refine pv_140 f k w p ?_
 have hv:=fv_iff.1 h
 have rv:=pv_27 _ (rfv_ok f)
 unfold F_140
 rw[rv.1,rv.2,gd_tt,h,(rpow_pv p).1,(rpow_pv p).2,gd_tt,decide_eq_true h0,decide_eq_true h1,show(!(true,()).1)=false from rfl,cond_f,show(!(true&&true,()).1)=false from rfl,cond_f,cond_dff (by omega),cond_dff (by omega),(rbits_pv p h0 h1).1,(rbits_pv p h0 h1).2,gd_tt]
 refine(congrArg (fun z=>B_140_154_0_0 z _) (cp0 f (by omega) f p (0,()) (0,0,()) (Sp.rbt p).2.1 (0,()) [] [] (f.2.2.1,()) [] f.1.length 4611686018427387904 0 (by omega) (by omega))).trans ?_
 unfold B_140_154_0_0
 dsimp only
 refine(congrArg (fun z=>B_140_154_1_0 z _) (cp1 f (by omega) f p (0,()) (0,0,()) (Sp.rbt p).2.1 (0,()) [] [] (f.2.2.1,()) f.1 f.2.1.length 4611686018427387904 0 (by omega) (by omega))).trans ?_
 unfold B_140_154_1_0
 dsimp only
 rw[gd_inB (by omega) (by omega),gd_inB (by omega) (by omega),Int.toNat_natCast,gd_and,gd_and,gd_dec h2,gd_tt,gd_tt]
 unfold Sp.prg Sp.rbt Sp.pw
 by_cases e0:p.1=0
 ·rw[if_pos e0,if_pos e0]
  dsimp only
  rw[msk_0 hw.1 hw.2,set_self _ _ h2]
 rw[if_neg e0,if_neg e0]
 by_cases e1:p.1=1
 ·rw[if_pos e1,if_pos e1]
  dsimp only
  rw[msk_eq]
 rw[if_neg e1,if_neg e1]
 dsimp only
 rw[msk_eq]
set_option maxRecDepth 100000
set_option maxHeartbeats 4000000
theorem rpair_pv{n:Int}(h0:0<=n)(h1:n<65536):p_136 n=true/\v_136 n=(Sp.prw n,()):=by
 refine pv_136 n ?_
 obtain⟨k,rfl⟩:=Int.eq_ofNat_of_zero_le h0
 unfold F_136 Sp.prw
 rw[wi64 (n:=65535-(k:Int)) (by omega) (by omega),u32_wrap_nat (by omega),show(k:Int)*65536=((k*65536:Nat):Int)from(Int.natCast_mul k 65536).symm,u32_wrap_nat (by omega),show 65535-(k:Int)=((65535-k:Nat):Int) by omega,u32_wrap_nat (by omega),orU_nat (by omega) (by omega),show k*65536=k*2^16 from rfl,or_add 16 (by omega)]
 congr 2
theorem rnum_pv{w:Int}(h0:0<=w)(h1:w<4294967296):p_121 w=true/\v_121 w=((Sp.nmb w).1,(Sp.nmb w).2,()):=by
 refine pv_121 w ?_
 unfold F_121
 have e:Int.fdiv w 65536=w/65536:=Int.fdiv_eq_ediv_of_nonneg _ (by decide)
 rw[e,wi64 (by omega) (by omega),(rpair_pv (n:=w/65536) (by omega) (by omega)).1,(rpair_pv (n:=w/65536) (by omega) (by omega)).2,gd_tt]
 rfl
theorem rplc_pv(f:FlT)(a n:Int)(h:f.2.1.length<=1000000):p_49 f a n=true/\v_49 f a n=(Sp.plc (f,a,n,()),()):=by
 refine pv_49 f a n ?_
 unfold F_49 Sp.plc
 dsimp only
 by_cases h1:2<=n
 rotate_left
 ·rw[cond_dtt (by omega),decide_eq_false h1];rfl
 rw[cond_dff (by omega),decide_eq_true h1,Bool.true_and]
 by_cases h2:n<=16
 rotate_left
 ·rw[cond_dtt (by omega),decide_eq_false h2];rfl
 rw[cond_dff (by omega),decide_eq_true h2,Bool.true_and,Int.tmod_eq_emod_of_nonneg (by omega),wi64 (by omega) (by omega)]
 by_cases h3:n%2=0
 rotate_left
 ·rw[cond_ntt h3,beq_eq_false_iff_ne.2 h3];rfl
 rw[cond_nff h3,beq_iff_eq.2 h3,Bool.true_and]
 by_cases h4:0<=a
 ·rw[cond_dff (by omega),decide_eq_true h4,Bool.true_and]
 ·rw[cond_dtt (by omega),decide_eq_false h4];rfl
theorem rsz_pv{m:MeT}(hv:Sp.fv m.1=true)(hp:Sp.plc m=true):p_101 m=true/\v_101 m=((Sp.hsz m:Int),()):=by
 obtain⟨p1,p2,p3,p4,p5⟩:=plc_iff.1 hp
 have b:=pl_b hv hp
 refine pv_101 m ?_
 unfold F_101
 rw[wi64 (n:=64*m.2.2.1) (by omega) (by omega),Int.tdiv_eq_ediv_of_nonneg (by omega),wi64 (by omega) (by omega),b.2.2.2.2.2.1]
 congr 2
 omega
theorem rbs_pv{m:MeT}(hv:Sp.fv m.1=true)(hp:Sp.plc m=true){k:Nat}(hk:k<2):p_103 m k=true/\v_103 m k=((Sp.hbs m k:Int),()):=by
 obtain⟨p1,p2,p3,p4,p5⟩:=plc_iff.1 hp
 have v:=fv_iff.1 hv
 have b:=pl_b hv hp
 have bk:=pl_k hv hp hk
 have s:=rsz_pv hv hp
 refine pv_103 m k ?_
 unfold F_103
 rw[s.1,s.2,gd_tt]
 dsimp only
 have e2:0<=(k:Int)*(Sp.hsz m:Int)/\(k:Int)*(Sp.hsz m:Int)<=512/\(k:Int)*(Sp.hsz m:Int)=(k:Int)*(32*m.2.2.1):=by
  match k,hk with
  |0,_=>simp
  |1,_=>simp;omega
 rw[wi64 (n:=64*m.2.1) (by omega) (by omega),wi64 (n:=(k:Int)*(Sp.hsz m:Int)) (by omega) (by omega),bk.2,wi64 (by omega) (by omega),e2.2.2]
theorem hwr_at{m:MeT}(hv:Sp.fv m.1=true)(hp:Sp.plc m=true){k:Nat}(hk:k<2){i:Nat}(hi:i<Sp.hsz m):m.1.1.getD (Sp.hbs m k+i) 0=(Sp.hwr m k).getD i 0:=by
 unfold Sp.hwr
 rw[List.getD_eq_getElem?_getD,List.getD_eq_getElem?_getD,List.getElem?_take,if_pos hi,List.getElem?_drop]
theorem rwd_pv{m:MeT}(hv:Sp.fv m.1=true)(hp:Sp.plc m=true){k:Nat}(hk:k<2){i:Nat}(hi:i<Sp.hsz m):p_122 m k i=true/\v_122 m k i=((Sp.hwr m k).getD i 0,()):=by
 have b:=pl_b hv hp
 have bk:=pl_k hv hp hk
 have s:=rbs_pv hv hp hk
 refine pv_122 m k i ?_
 unfold F_122
 rw[s.1,s.2,gd_tt]
 dsimp only
 rw[wi64 (by omega) (by omega),show(Sp.hbs m k:Int)+(i:Int)=((Sp.hbs m k+i:Nat):Int) by push_cast;rfl,gd_inB (by omega) (by omega),Int.toNat_natCast,hwr_at hv hp hk hi]
theorem rgn_pv{m:MeT}(hw:W32f m.1)(hv:Sp.fv m.1=true)(hp:Sp.plc m=true){k:Nat}(hk:k<2):p_86 m k=true/\v_86 m k=(Sp.gnr m k,()):=by
 have b:=pl_b hv hp
 have w:=rwd_pv hv hp hk (i:=0) (by omega)
 have w:p_122 m k 0=true/\v_122 m k 0=((Sp.hwr m k).getD 0 0,()):=w
 have h0:=(hw.half k).at 0
 have n:=rnum_pv h0.1 h0.2
 refine pv_86 m k ?_
 unfold F_86 Sp.gnr
 rw[w.1,w.2,gd_tt,n.1,n.2,gd_tt]
 dsimp only
 cases (Sp.nmb ((Sp.hwr m k).getD 0 0)).2<;>rfl
namespace Sp
noncomputable def rac(m:MeT):Int:=if acb m=true then(acv m:Int)else-1
end Sp
theorem rac_pv{m:MeT}(hw:W32f m.1)(hv:Sp.fv m.1=true)(hp:Sp.plc m=true):p_50 m=true/\v_50 m=(Sp.rac m,()):=by
 have g0:=rgn_pv hw hv hp (k:=0) (by decide)
 have g1:=rgn_pv hw hv hp (k:=1) (by decide)
 have g0:p_86 m 0=true/\v_86 m 0=(Sp.gnr m 0,()):=g0
 have g1:p_86 m 1=true/\v_86 m 1=(Sp.gnr m 1,()):=g1
 have b0:=gnr_b hw 0
 have b1:=gnr_b hw 1
 refine pv_50 m ?_
 unfold F_50 Sp.rac Sp.acv Sp.acb
 rw[g0.1,g0.2,gd_tt,g1.1,g1.2,gd_tt]
 dsimp only
 by_cases h0:Sp.gnr m 0=0
 ·rw[cond_ett h0]
  by_cases h1:Sp.gnr m 1=0
  ·rw[cond_ett h1,decide_eq_false (p:=Sp.gnr m 1>Sp.gnr m 0) (by omega),decide_eq_false (p:=Sp.gnr m 0>0) (by omega)]
   rfl
  ·rw[cond_eff h1,cond_dtt (by omega),decide_eq_true (p:=Sp.gnr m 1>Sp.gnr m 0) (by omega)]
   rfl
 ·rw[cond_eff h0]
  by_cases h1:Sp.gnr m 1>Sp.gnr m 0
  ·rw[cond_dtt h1,decide_eq_true h1];rfl
  ·rw[cond_dff h1,decide_eq_false h1,decide_eq_true (p:=Sp.gnr m 0>0) (by omega)];rfl
theorem rmv_pv{m:MeT}(hw:W32f m.1):p_13 m=true/\v_13 m=(Sp.mvl m,()):=by
 have v:=pv_27 _ (rfv_ok m.1)
 refine pv_13 m ?_
 unfold F_13 Sp.mvl
 rw[v.1,v.2,gd_tt]
 dsimp only
 cases hv:Sp.fv m.1
 ·rfl
 have hl:=fv_iff.1 hv
 have p:=rplc_pv m.1 m.2.1 m.2.2.1 (by omega)
 rw[cond_t,p.1,p.2,gd_tt]
 show(bif Sp.plc m then _ else _)=_
 cases hp:Sp.plc m
 ·rfl
 have a:=rac_pv hw hv hp
 rw[cond_t,a.1,a.2,gd_tt]
 dsimp only
 unfold Sp.rac
 cases Sp.acb m
 ·rfl
 ·rw[if_pos rfl,decide_eq_true (by omega)];rfl
set_option maxRecDepth 100000
set_option maxHeartbeats 4000000
theorem cpe0(p6:FlT)(hl:p6.1.length<1000000)(p1:FlT)(p2:PwT)(p3:Int×Unit)(p4 p5:PwT)(p7:Int×Unit)(p8 p9:List Int)(p10:Int×Unit)(p12:List Int):∀(d m i:Nat),i+d=p6.1.length->d<m->L_139_154_0_0 m (i:Nat) p1 p2 p3 p4 p5 p6 p7 p8 p9 p10 (p6.1.take i) p12=some (.e0 p1 p2 p3 p4 p5 p6 p7 p8 p9 p10 p6.1 p12):=by
 intro d
 induction d with
 |zero=>
  intro m i hi hm
  obtain⟨m,rfl⟩:∃k,m=k+1:=⟨m-1,by omega⟩
  rw[L_139_154_0_0,S_139_154_0_0,cond_dff (by omega),List.take_of_length_le (by omega)]
 |succ d ih=>
  intro m i hi hm
  obtain⟨m,rfl⟩:∃k,m=k+1:=⟨m-1,by omega⟩
  have ht:(p6.1.take i).length<=1000000:=by rw[List.length_take];omega
  have:=ih m (i+1) (by omega) (by omega)
  rw[take_s (by omega)]at this
  rw[L_139_154_0_0,S_139_154_0_0,cond_dtt (by omega),gd_inB (by omega) (by omega),gd_room (by omega) (by omega),wi64 (by omega) (by omega),Int.toNat_natCast]
  push_cast at this
  exact this
theorem cpe1(p6:FlT)(hl:p6.2.1.length<1000000)(p1:FlT)(p2:PwT)(p3:Int×Unit)(p4 p5:PwT)(p7:Int×Unit)(p8 p9:List Int)(p10:Int×Unit)(p11:List Int):∀(d m i:Nat),i+d=p6.2.1.length->d<m->L_139_154_1_0 m (i:Nat) p1 p2 p3 p4 p5 p6 p7 p8 p9 p10 p11 (p6.2.1.take i)=some (.e0 p1 p2 p3 p4 p5 p7 p8 p9 p10 p11 p6.2.1):=by
 intro d
 induction d with
 |zero=>
  intro m i hi hm
  obtain⟨m,rfl⟩:∃k,m=k+1:=⟨m-1,by omega⟩
  rw[L_139_154_1_0,S_139_154_1_0,cond_dff (by omega),List.take_of_length_le (by omega)]
 |succ d ih=>
  intro m i hi hm
  obtain⟨m,rfl⟩:∃k,m=k+1:=⟨m-1,by omega⟩
  have ht:(p6.2.1.take i).length<=1000000:=by rw[List.length_take];omega
  have:=ih m (i+1) (by omega) (by omega)
  rw[take_s (by omega)]at this
  rw[L_139_154_1_0,S_139_154_1_0,cond_dtt (by omega),gd_inB (by omega) (by omega),gd_room (by omega) (by omega),wi64 (by omega) (by omega),Int.toNat_natCast]
  push_cast at this
  exact this
theorem re_l(ws:List Int)(s:Nat)(b:Int)(hl:s*64+64<=ws.length)(hw:ws.length<=100000)(e:Int)(p4:Int×Unit)(p5 p6:List Int)(p7 p8:PwT)(p9:Int×Unit)(p11:List Int):L_139_0 4611686018427387904 s b e 0 p4 p5 p6 p7 p8 p9 ws p11=some (.e0 e p4 p5 p6 p7 p8 p9 (Sp.orW ws (s*64) b 64) p11):=by
 have:=run0 (fun m i w=>L_139_0 m s b e i p4 p5 p6 p7 p8 p9 w p11) (n:=64) (fun j=>Sp.orW ws (s*64) b j) (r:=some (.e0 e p4 p5 p6 p7 p8 p9 (Sp.orW ws (s*64) b 64) p11)) (by omega) (fun m j hj=>by
  have ea:wrap .i64 (wrap .i64 ((s:Int)*64)+(j:Int))=((s*64+j:Nat):Int):=by
   rw[wi64 (n:=(s:Int)*64) (by omega) (by omega),wi64 (by omega) (by omega)];omega
  have ll:(Sp.orW ws (s*64) b j).length=ws.length:=orW_len ..
  show L_139_0 (m+1) s b e (j:Int) p4 p5 p6 p7 p8 p9 (Sp.orW ws (s*64) b j) p11=L_139_0 m s b e ((j+1:Nat):Int) p4 p5 p6 p7 p8 p9 (Sp.orW ws (s*64) b (j+1)) p11
  rw[L_139_0,S_139_0,cond_dtt (by omega),ea,gd_inB (by omega) (by omega),Int.toNat_natCast,Bool.and_true,Bool.and_true,gd_dec (by omega),gd_inB (by omega) (by omega),gd_dec (by omega),wi64 (by omega) (by omega),orW_succ _ _ _ _ (by omega)]
  push_cast
  rfl) (fun m=>by
  show L_139_0 (m+1) s b e ((64:Nat):Int) p4 p5 p6 p7 p8 p9 (Sp.orW ws (s*64) b 64) p11=_
  rw[L_139_0,S_139_0,cond_dff (by omega)])
 rw[orW_zero]at this
 exact this
theorem rers_pv{f:FlT}{p:PwT}{s:Nat}(h:Sp.fv f=true)(h0:0<=p.1)(h1:p.1<=1099511627776)(h2:s<f.2.1.length):p_139 f s p=true/\v_139 f s p=Sp.ers f s p:=by
 refine pv_139 f s p ?_
 have hv:=fv_iff.1 h
 have hb:=hv.2.2.2.2.2 s h2
 have rv:=pv_27 _ (rfv_ok f)
 unfold F_139 Sp.ers
 rw[rv.1,rv.2,gd_tt,h,(rpow_pv p).1,(rpow_pv p).2,gd_tt,decide_eq_true h0,decide_eq_true h1,show(!(true,()).1)=false from rfl,cond_f,show(!(true&&true,()).1)=false from rfl,cond_f,cond_dff (by omega),cond_dff (by omega),gd_inB (by omega) (by omega),Int.toNat_natCast]
 by_cases e:f.2.1.getD s 0=f.2.2.1
 ·rw[cond_ett e,if_pos e]
 rw[cond_eff e,if_neg e,(rbits_pv p h0 h1).1,(rbits_pv p h0 h1).2,gd_tt]
 refine(congrArg (fun z=>B_139_154_0_0 z _) (cpe0 f (by omega) f p (0,()) (0,0,()) (Sp.rbt p).2.1 (0,()) [] [] (f.2.2.1,()) [] f.1.length 4611686018427387904 0 (by omega) (by omega))).trans ?_
 unfold B_139_154_0_0
 dsimp only
 refine(congrArg (fun z=>B_139_154_1_0 z _) (cpe1 f (by omega) f p (0,()) (0,0,()) (Sp.rbt p).2.1 (0,()) [] [] (f.2.2.1,()) f.1 f.2.1.length 4611686018427387904 0 (by omega) (by omega))).trans ?_
 unfold B_139_154_1_0
 dsimp only
 by_cases e0:p.1=0
 ·rw[cond_dff (by omega),if_pos e0]
  unfold Sp.rbt
  rw[if_pos e0]
 rw[cond_dtt (by omega),gd_inB (by omega) (by omega),Bool.and_true,Bool.and_true,gd_dec h2,gd_inB (by omega) (by omega),gd_dec h2,if_neg e0]
 refine(congrArg (fun z=>B_139_0 z _) (re_l f.1 s (Sp.rbt p).1 (by omega) (by omega) (Sp.rbt p).2.2.1 (0,()) [] [] (0,0,()) (Sp.rbt p).2.1 (f.2.2.1,()) _)).trans ?_
 unfold B_139_0
 dsimp only
 rw[wi64 (n:=f.2.1.getD s 0+1) (by omega) (by omega)]
 unfold Sp.rbt Sp.ew
 rw[if_neg e0]
 by_cases e1:p.1=1
 ·rw[if_pos e1,if_pos e1]
 ·rw[if_neg e1,if_neg e1]
theorem rer_pv{f:FlT}{p:PwT}{s:Nat}(h:Sp.fv f=true)(h0:0<=p.1)(h1:p.1<=1099511627776)(h2:s<f.2.1.length):p_107 f s p=true/\v_107 f s p=Sp.ers f s p:=by
 have r:=rers_pv h h0 h1 h2
 refine pv_107 f s p ?_
 unfold F_107
 rw[r.1,r.2,gd_tt]
theorem rpr_pv{f:FlT}{p:PwT}{k:Nat}(w:Int)(h:Sp.fv f=true)(h0:0<=p.1)(h1:p.1<=1099511627776)(h2:k<f.1.length)(hw:0<=f.1.getD k 0/\f.1.getD k 0<4294967296):p_108 f k w p=true/\v_108 f k w p=Sp.prg f k w p:=by
 have r:=rprg_pv w h h0 h1 h2 hw
 refine pv_108 f k w p ?_
 unfold F_108
 rw[r.1,r.2,gd_tt]
namespace Sp
noncomputable def rdo(m:MeT)(l:List StT)(p:PwT):OuM:=(((dol l (m.1,p,0,())).1,m.2),(dol l (m.1,p,0,())).2.1,(dol l (m.1,p,0,())).2.2.1,())
end Sp
theorem rdo_l{f0:FlT}(l:List StT)(hv:∀x∈l,SV f0 x)(hl:l.length<=1000000)(hf:f0.1.length<=100000)(hf2:f0.2.1.length<=1000)(r:Int×Int×Unit)(p4:Int×Unit)(p5:PwT)(p6 p7:List Int)(p8:PwT):∀(d m j:Nat)(s:RsT),SG f0 s->s.2.2.1=0->j+d=l.length->d<m->
 ∃E,L_67_0 m l j (s.1,r) s.2.1 p4 p5 p6 p7 p8=some E/\(E= .e2 ((Sp.dol (l.drop j) s).1,r) (Sp.dol (l.drop j) s).2.1 p4 p5 p6 p7 p8/\(Sp.dol (l.drop j) s).2.2.1=0\/
  (∃(i:Nat)(t:RsT),SG f0 t/\i<l.length/\(Sp.dol (l.drop j) s)=Sp.dop t (l.getD i Zd3)/\(Sp.dol (l.drop j) s).2.2.1≠0/\((l.getD i Zd3).1=true/\E= .e0 l i (t.1,r) t.2.1\/(l.getD i Zd3).1=false/\E= .e1 l i (t.1,r) t.2.1))):=by
 intro d
 induction d with
 |zero=>
  intro m j s h e hj hm
  obtain⟨m,rfl⟩:∃k,m=k+1:=⟨m-1,by omega⟩
  rw[List.drop_of_length_le (by omega),Sp.dol]
  refine⟨_,?_,.inl ⟨rfl,e⟩⟩
  rw[L_67_0,S_67_0,cond_dff (by omega)]
 |succ d ih=>
  intro m j s h e hj hm
  obtain⟨m,rfl⟩:∃k,m=k+1:=⟨m-1,by omega⟩
  have hjl:j<l.length:=by omega
  have hx:=hv _ (List.getElem_mem hjl)
  rw[<-getD_at Zd3 hjl]at hx
  have fl:=h.l
  have fn:=h.n
  have hg:=dop_sg h hx
  have x0:=hx.1
  rw[drop_s Zd3 hjl,Sp.dol,if_pos e]
  rw[L_67_0,S_67_0,cond_dtt (by omega),gd_inB (by omega) (by omega),Int.toNat_natCast,wi64 (n:=(j:Int)+1) (by omega) (by omega),show(j:Int)+1=((j+1:Nat):Int) by push_cast;rfl]
  have fin:=fun(e0:(Sp.dop s (l.getD j Zd3)).2.2.1=0)=>ih m (j+1) (Sp.dop s (l.getD j Zd3)) (hg.resolve_right fun g=>absurd (e0.symm.trans g) (by decide)) e0 (by omega) (by omega)
  cases hb:(l.getD j Zd3).1 with
  |true=>
   have:=hx.2.1 hb
   have pv:=rer_pv (f:=s.1) (p:=s.2.1) (s:=(l.getD j Zd3).2.1.toNat) h.v h.p0 h.p1 (by omega)
   rw[show(((l.getD j Zd3).2.1.toNat:Nat):Int)=(l.getD j Zd3).2.1 by omega]at pv
   have ed:Sp.ers s.1 (l.getD j Zd3).2.1.toNat s.2.1=Sp.dop s (l.getD j Zd3):=by unfold Sp.dop;rw[if_pos hb]
   rw[ed]at pv
   rw[cond_t,gd_inB (by omega) (by omega),pv.1,pv.2,gd_tt]
   by_cases e0:(Sp.dop s (l.getD j Zd3)).2.2.1=0
   ·rw[cond_nff e0]
    exact fin e0
   ·rw[cond_ntt e0,dol_stop _ e0]
    exact⟨_,rfl,.inr ⟨j,s,h,hjl,rfl,e0,.inl ⟨hb,rfl⟩⟩⟩
  |false=>
   have:=hx.2.2 hb
   have pv:=rpr_pv (f:=s.1) (p:=s.2.1) (k:=(l.getD j Zd3).2.1.toNat) (l.getD j Zd3).2.2.1 h.v h.p0 h.p1 (by omega) (h.w.at _)
   rw[show(((l.getD j Zd3).2.1.toNat:Nat):Int)=(l.getD j Zd3).2.1 by omega]at pv
   have ed:Sp.prg s.1 (l.getD j Zd3).2.1.toNat (l.getD j Zd3).2.2.1 s.2.1=Sp.dop s (l.getD j Zd3):=by unfold Sp.dop;rw[if_neg (by rw[hb];exact Bool.false_ne_true)]
   rw[ed]at pv
   rw[cond_f,gd_inB (by omega) (by omega),gd_inB (by omega) (by omega),pv.1,pv.2,gd_tt]
   by_cases e0:(Sp.dop s (l.getD j Zd3)).2.2.1=0
   ·rw[cond_nff e0]
    exact fin e0
   ·rw[cond_ntt e0,dol_stop _ e0]
    exact⟨_,rfl,.inr ⟨j,s,h,hjl,rfl,e0,.inr ⟨hb,rfl⟩⟩⟩
theorem rdo_pv{m:MeT}{l:List StT}{p:PwT}(hv:Sp.fv m.1=true)(hw:W32f m.1)(h0:0<=p.1)(h1:p.1<=1099511627776)(hs:∀x∈l,SV m.1 x)(hl:l.length<=1000000):p_67 m l p=true/\v_67 m l p=Sp.rdo m l p:=by
 have v:=fv_iff.1 hv
 refine pv_67 m l p ?_
 unfold F_67 Sp.rdo
 obtain⟨E,hE,hc⟩:=rdo_l (f0:=m.1) l hs hl (by omega) (by omega) m.2 (0,()) (0,0,()) [] [] (0,0,()) l.length 4611686018427387904 0 _ (SG.init hv hw h0 h1) rfl (by omega) (by omega)
 rw[List.drop_zero]at hc
 refine(congrArg (fun z=>B_67_0 z _ _ _) hE).trans ?_
 rcases hc with⟨rfl,e⟩|⟨i,t,g,hi,hd,e,⟨hb,rfl⟩|⟨hb,rfl⟩⟩
 ·rw[e];rfl
 ·have hx:=hs _ (List.getElem_mem hi)
  rw[<-getD_at Zd3 hi]at hx
  have:=hx.2.1 hb
  have x0:=hx.1
  have pv:=rer_pv (f:=t.1) (p:=t.2.1) (s:=(l.getD i Zd3).2.1.toNat) g.v g.p0 g.p1 (by rw[g.n];omega)
  rw[show(((l.getD i Zd3).2.1.toNat:Nat):Int)=(l.getD i Zd3).2.1 by omega]at pv
  unfold B_67_0
  dsimp only
  rw[Int.toNat_natCast,pv.2,hd]
  unfold Sp.dop
  rw[if_pos hb]
 ·have hx:=hs _ (List.getElem_mem hi)
  rw[<-getD_at Zd3 hi]at hx
  have:=hx.2.2 hb
  have x0:=hx.1
  have pv:=rpr_pv (f:=t.1) (p:=t.2.1) (k:=(l.getD i Zd3).2.1.toNat) (l.getD i Zd3).2.2.1 g.v g.p0 g.p1 (by rw[g.l];omega) (g.w.at _)
  rw[show(((l.getD i Zd3).2.1.toNat:Nat):Int)=(l.getD i Zd3).2.1 by omega]at pv
  unfold B_67_0
  dsimp only
  rw[Int.toNat_natCast,pv.2,hd]
  unfold Sp.dop
  rw[if_neg (by rw[hb];exact Bool.false_ne_true)]
theorem wor_l{f:FlT}(hv:Sp.fv f=true)(a n:Nat)(h:a+n<=f.2.1.length):∀(d q i:Nat),i+d=n->d<q->L_137_0 q a n i f=some (if Sp.wor f d (a+i)=true then .e0 else .e1):=by
 have v:=fv_iff.1 hv
 intro d
 induction d with
 |zero=>
  intro q i hi hq
  obtain⟨q,rfl⟩:∃k,q=k+1:=⟨q-1,by omega⟩
  rw[L_137_0,S_137_0,cond_dff (by omega),Sp.wor,if_neg Bool.false_ne_true]
 |succ d ih=>
  intro q i hi hq
  obtain⟨q,rfl⟩:∃k,q=k+1:=⟨q-1,by omega⟩
  have b:=v.2.2.2.2.2 (a+i) (by omega)
  rw[L_137_0,S_137_0,cond_dtt (by omega),wi64 (n:=(a:Int)+(i:Int)) (by omega) (by omega),show(a:Int)+(i:Int)=((a+i:Nat):Int) by push_cast;rfl,gd_inB (by omega) (by omega),Int.toNat_natCast,Sp.wor]
  by_cases c:f.2.1.getD (a+i) 0=f.2.2.1
  ·rw[cond_ett c,decide_eq_true (by omega),Bool.true_or,if_pos rfl]
  ·rw[cond_eff c,decide_eq_false (by omega),Bool.false_or,wi64 (by omega) (by omega),show(i:Int)+1=((i+1:Nat):Int) by push_cast;rfl]
   exact ih q (i+1) (by omega) (by omega)
theorem rwor_pv{f:FlT}(hv:Sp.fv f=true)(a n:Nat)(h:a+n<=f.2.1.length):p_137 f a n=true/\v_137 f a n=(Sp.wor f n a,()):=by
 have v:=fv_iff.1 hv
 refine pv_137 f a n ?_
 unfold F_137
 have t:=wor_l hv a n h n 4611686018427387904 0 (by omega) (by omega)
 rw[Nat.add_zero]at t
 refine(congrArg (fun z=>B_137_0 z _ _) t).trans ?_
 cases Sp.wor f n a<;>rfl
theorem rerl_pv(a:Int)(n:Nat)(h0:0<=a)(h1:a<=1000000)(hn:n<=100000):p_138 a n=true/\v_138 a n=(Sp.erl n a,()):=by
 refine pv_138 a n ?_
 unfold F_138
 have t:=run0 (fun m i acc=>L_138_0 m a n i acc) (n:=n) (fun j=>Sp.erl j a) (r:=some (.e0 (Sp.erl n a))) (by omega) (fun m j hj=>by
  show L_138_0 (m+1) a n (j:Int) (Sp.erl j a)=L_138_0 m a n ((j+1:Nat):Int) (Sp.erl (j+1) a)
  rw[L_138_0,S_138_0,cond_dtt (by omega),erl_len,gd_room (by omega) (by omega),wi64 (n:=(j:Int)+1) (by omega) (by omega),wi64 (n:=a+(j:Int)) (by omega) (by omega),erl_snoc]
  rfl) (fun m=>by
  show L_138_0 (m+1) a n (n:Int) (Sp.erl n a)=_
  rw[L_138_0,S_138_0,cond_dff (by omega)])
 exact(congrArg (fun z=>B_138_0 z _) t).trans rfl
set_option maxRecDepth 100000
set_option maxHeartbeats 4000000
theorem bvk(b:BitVec 32):BitVec.ofInt 32 (wrap .u32 ((b.toNat:Nat):Int))=b:=by
 rw[u32_wrap_nat b.isLt]
 apply BitVec.eq_of_toNat_eq
 rw[ofInt_nat b.isLt]
theorem or_blank(x:Int):Sp.orI .u32 x 4294967295=4294967295:=by
 show wrap .u32 (((BitVec.ofInt 32 x|||BitVec.ofInt 32 4294967295).toNat:Nat):Int)=4294967295
 rw[show BitVec.ofInt 32 4294967295=BitVec.allOnes 32 from by decide,BitVec.or_allOnes]
 rfl
theorem pr_blank{w:Int}(h0:0<=w)(h1:w<4294967296):Sp.andnI .u32 4294967295 (Sp.andnI .u32 4294967295 w)=w:=by
 show wrap .u32 (((BitVec.ofInt 32 4294967295&&& ~~~ BitVec.ofInt 32 (wrap .u32 (((BitVec.ofInt 32 4294967295&&& ~~~ BitVec.ofInt 32 w).toNat:Nat):Int))).toNat:Nat):Int)=w
 obtain⟨k,rfl⟩:=Int.eq_ofNat_of_zero_le h0
 rw[bvk,show BitVec.ofInt 32 4294967295=BitVec.allOnes 32 from by decide,BitVec.allOnes_and,BitVec.allOnes_and,BitVec.not_not,ofInt_nat (by omega),u32_wrap_nat (by omega)]
theorem dol_app:∀(x y:List StT)(s:RsT),Sp.dol (x++y) s=Sp.dol y (Sp.dol x s)
 |[],y,s=>rfl
 |a::x,y,s=>by
  rw[List.cons_append,Sp.dol,Sp.dol]
  by_cases e:s.2.2.1=0
  ·rw[if_pos e,if_pos e,dol_app x y]
  ·rw[if_neg e,if_neg e,dol_stop y e]
theorem dol_one(x:StT)(s:RsT):Sp.dol [x] s=if s.2.2.1=0 then Sp.dop s x else s:=rfl
structure EB(f0:FlT)(a k:Nat)(s:RsT):Prop where
 g:SG f0 s
 r:s.1.2.2=f0.2.2
 q:∀i,a+k<=i->s.1.2.1.getD i 0=f0.2.1.getD i 0
 b:s.2.2.1=0->∀i,64*a<=i->i<64*(a+k)->s.1.1.getD i 0=4294967295
 o:∀i,i<64*a\/64*(a+k)<=i->s.1.1.getD i 0=f0.1.getD i 0
theorem EB.init{f:FlT}{p:PwT}(h:Sp.fv f=true)(hw:W32f f)(h0:0<=p.1)(h1:p.1<=1099511627776)(a:Nat):EB f a 0 (f,p,0,()) :=
 ⟨SG.init h hw h0 h1,rfl,fun _ _=>rfl,fun _ i _ _=>by omega,fun _ _=>rfl⟩
theorem EB.up{f0:FlT}{a k j:Nat}{s:RsT}(h:EB f0 a k s)(hj:k<=j)(e:s.2.2.1≠0):EB f0 a j s:=
 ⟨h.g,h.r,fun i hi=>h.q i (by omega),fun e0=>absurd e0 e,fun i hi=>h.o i (by omega)⟩
theorem EB.step{f0:FlT}{a k:Nat}{s:RsT}(h:EB f0 a k s)(hk:a+k<f0.2.1.length)(hw:f0.2.1.getD (a+k) 0≠f0.2.2.1)(e:s.2.2.1=0):EB f0 a (k+1) (Sp.ers s.1 (a+k) s.2.1):=by
 have hl:s.1.2.2.1=f0.2.2.1:=by rw[h.r]
 have hn:s.1.2.1.getD (a+k) 0≠s.1.2.2.1:=by rw[h.q (a+k) (Nat.le_refl _),hl];exact hw
 have hkl:a+k<s.1.2.1.length:=by rw[h.g.n];exact hk
 have v:=fv_iff.1 h.g.v
 have sg:SG f0 (Sp.ers s.1 (a+k) s.2.1):=(ers_sg h.g hk).resolve_right (fun z=>by
  unfold Sp.ers at z
  rw[if_neg hn]at z
  split at z
  ·exact absurd (show(18:Int)=19 from z) (by decide)
  split at z
  ·exact absurd (show(18:Int)=19 from z) (by decide)
  ·exact absurd (show(0:Int)=19 from z) (by decide))
 have hr1:∀b,(Sp.ew s.1 (a+k) b).2.2=f0.2.2:=fun b=>by rw[<-h.r];rfl
 have hq1:∀b i,a+(k+1)<=i->(Sp.ew s.1 (a+k) b).2.1.getD i 0=f0.2.1.getD i 0:=fun b i hi=>by
  unfold Sp.ew;dsimp only
  rw[<-h.q i (by omega),getD_set _ _ _ _ _ hkl,if_neg (by omega)]
 have hg:∀b i,(Sp.ew s.1 (a+k) b).1.getD i 0=if 64*(a+k)<=i/\i<64*(a+k+1)then Sp.orI .u32 (s.1.1.getD i 0) b else s.1.1.getD i 0:=fun b i=>by
  unfold Sp.ew;dsimp only
  by_cases hi:i<s.1.1.length
  ·rw[orW_get _ _ _ _ _ hi]
   by_cases c:64*(a+k)<=i/\i<64*(a+k+1)
   ·rw[if_pos c,if_pos (by omega)]
   ·rw[if_neg c,if_neg (by omega)]
  ·rw[if_neg (by omega),List.getD_eq_getElem?_getD,List.getD_eq_getElem?_getD,List.getElem?_eq_none (by rw[orW_len];omega),List.getElem?_eq_none (by omega)]
 have ho1:∀b i,i<64*a\/64*(a+(k+1))<=i->(Sp.ew s.1 (a+k) b).1.getD i 0=f0.1.getD i 0:=fun b i hi=>by
  rw[hg,if_neg (by omega),h.o i (by omega)]
 revert sg
 unfold Sp.ers
 rw[if_neg hn]
 split
 ·exact fun sg=>⟨sg,h.r,fun i hi=>h.q i (by omega),fun z=>absurd z (show(18:Int)≠0 by decide),fun i hi=>h.o i (by omega)⟩
 split
 ·exact fun sg=>⟨sg,hr1 _,hq1 _,fun z=>absurd z (show(18:Int)≠0 by decide),ho1 _⟩
 ·refine fun sg=>⟨sg,hr1 _,hq1 _,fun _ i h1 h2=> ?_,ho1 _⟩
  show(Sp.ew s.1 (a+k) 4294967295).1.getD i 0=_
  rw[hg]
  split
  ·exact or_blank _
  ·exact h.b e i h1 (by omega)
theorem wor_at{f:FlT}:∀(n a:Nat),Sp.wor f n a=false->∀i,a<=i->i<a+n->f.2.1.getD i 0≠f.2.2.1
 |0,a,_,i,h1,h2=>by omega
 |n+1,a,h,i,h1,h2=>by
  rw[Sp.wor,Bool.or_eq_false_iff]at h
  by_cases e:i=a
  ·subst e
   have:=of_decide_eq_false h.1
   omega
  ·exact wor_at n (a+1) h.2 i (by omega) (by omega)
theorem erl_b{f0:FlT}{a:Nat}:∀(n k:Nat){s:RsT},EB f0 a k s->a+k+n<=f0.2.1.length->Sp.wor f0 n (a+k)=false->EB f0 a (k+n) (Sp.dol (Sp.erl n ((a+k:Nat):Int)) s)
 |0,k,s,h,_,_=>h
 |n+1,k,s,h,hl,hw=>by
  rw[Sp.erl,Sp.dol]
  split
  ·rename_i e
   have w0:=wor_at _ _ hw (a+k) (by omega) (by omega)
   have:=erl_b n (k+1) (h.step (by omega) w0 e) (by omega) (by
    rw[Sp.wor,Bool.or_eq_false_iff]at hw
    exact hw.2)
   unfold Sp.dop
   dsimp only
   rw[if_pos rfl,Int.toNat_natCast,show k+(n+1)=k+1+n by omega,show((a+k:Nat):Int)+1=((a+(k+1):Nat):Int) by push_cast;omega]
   exact this
  ·rename_i e
   exact h.up (by omega) e
theorem prg_b{f:FlT}{k:Nat}{w:Int}{p:PwT}(h0:0<=w)(h1:w<4294967296)(hk:k<f.1.length)(hb:f.1.getD k 0=4294967295)(e:(Sp.prg f k w p).2.2.1=0):(Sp.prg f k w p).1=(f.1.set k w,f.2.1,f.2.2.1,()):=by
 revert e
 unfold Sp.prg
 split
 ·exact fun e=>absurd e (show(18:Int)≠0 by decide)
 split
 ·exact fun e=>absurd e (show(18:Int)≠0 by decide)
 ·intro _
  show Sp.pw f k w 4294967295=_
  unfold Sp.pw
  rw[hb,pr_blank h0 h1]
theorem rky_pv(k:Int):p_134 k=true/\v_134 k=((decide (0<=k)&&decide (k<=254)),()):=by
 refine pv_134 k ?_
 unfold F_134
 by_cases h:k>=0
 ·rw[cond_dtt h,decide_eq_true (p:=0<=k) h,Bool.true_and]
 ·rw[cond_dff h,decide_eq_false (p:=0<=k) h,Bool.false_and]
theorem rsum_l{l:List Int}(hw:W32l l)(hl:l.length<1000000):∀(d m j:Nat)(s:Int),0<=s->s<65536->j+d=l.length->d<m->L_135_0 m l s j=some (.e0 ((l.drop j).foldl Sp.stp s)):=by
 intro d
 induction d with
 |zero=>
  intro m j s _ _ hj hm
  obtain⟨m,rfl⟩:∃k,m=k+1:=⟨m-1,by omega⟩
  rw[L_135_0,S_135_0,cond_dff (by omega),List.drop_of_length_le (by omega)]
  rfl
 |succ d ih=>
  intro m j s h0 h1 hj hm
  obtain⟨m,rfl⟩:∃k,m=k+1:=⟨m-1,by omega⟩
  have hx:=hw.at j
  have e:Int.fdiv (l.getD j 0) 65536=l.getD j 0/65536:=Int.fdiv_eq_ediv_of_nonneg _ (by decide)
  have e2:Int.tmod (l.getD j 0) 65536=l.getD j 0%65536:=Int.tmod_eq_emod_of_nonneg hx.1
  have e3:l.drop j=l.getD j 0::l.drop (j+1):=by
   have hj':j<l.length:=by omega
   rw[List.drop_eq_getElem_cons hj',List.getD_eq_getElem?_getD,List.getElem?_eq_getElem hj'];rfl
  have r:=ih m (j+1) (Sp.stp s (l.getD j 0)) (by unfold Sp.stp;omega) (by unfold Sp.stp;omega) (by omega) (by omega)
  rw[L_135_0,S_135_0,cond_dtt (by omega),gd_inB (by omega) (by omega),gd_inB (by omega) (by omega),Int.toNat_natCast,e,e2,e3,List.foldl_cons]
  generalize l.getD j 0=x at *
  rw[wi64 (n:=31*s) (by omega) (by omega),wi64 (n:=x/65536) (by omega) (by omega),wi64 (n:=31*s+x/65536) (by omega) (by omega),wi64 (n:=x%65536) (by omega) (by omega),wi64 (n:=7*(x%65536)) (by omega) (by omega),wi64 (n:=31*s+x/65536+7*(x%65536)) (by omega) (by omega),Int.tmod_eq_emod_of_nonneg (by omega),wi64 (by omega) (by omega),show(j:Int)+1=((j+1:Nat):Int) by push_cast;rfl]
  exact r
theorem rsum_pv{l:List Int}(hw:W32l l)(hl:l.length<1000000):p_135 l=true/\v_135 l=(Sp.smw l,()):=by
 refine pv_135 l ?_
 unfold F_135
 have:=rsum_l hw hl l.length 4611686018427387904 0 0 (by decide) (by decide) (by omega) (by omega)
 rw[List.drop_zero]at this
 exact(congrArg (fun z=>B_135_0 z _) this).trans rfl
noncomputable def Asc(es:List EnT):Prop:=∀i j,i<j->j<es.length->(es.getD i Sp.dE).1<(es.getD j Sp.dE).1
theorem bsl_at{es:List EnT}(h:Asc es)(key:Int):∀(f lo hi:Nat),hi-lo<=f->lo<=hi->hi<=es.length->(∀i,i<lo->(es.getD i Sp.dE).1<key)->(∀i,hi<=i->i<es.length->key<=(es.getD i Sp.dE).1) ->
 (∀i,i<Sp.bsl es key f lo hi->(es.getD i Sp.dE).1<key)/\(∀i,Sp.bsl es key f lo hi<=i->i<es.length->key<=(es.getD i Sp.dE).1)
 |0,lo,hi,h0,h1,h2,ha,hb=>by
  have:lo=hi:=by omega
  subst this
  exact⟨ha,hb⟩
 |f+1,lo,hi,h0,h1,h2,ha,hb=>by
  rw[Sp.bsl]
  split
  ·split
   ·rename_i c
    refine bsl_at h key f _ hi (by omega) (by omega) h2 (fun i hi2=> ?_) hb
    by_cases e:i=(lo+hi)/2
    ·rw[e];exact c
    ·have:=h i ((lo+hi)/2) (by omega) (by omega)
     omega
   ·rename_i c
    refine bsl_at h key f lo _ (by omega) (by omega) (by omega) ha (fun i h3 h4=> ?_)
    by_cases e:i=(lo+hi)/2
    ·rw[e];omega
    ·have:=h ((lo+hi)/2) i (by omega) h4
     omega
  ·have:lo=hi:=by omega
   subst this
   exact⟨ha,hb⟩
theorem plE_at{es:List EnT}(h:Asc es)(key:Int):(∀i,i<Sp.plE es key->(es.getD i Sp.dE).1<key)/\(∀i,Sp.plE es key<=i->i<es.length->key<=(es.getD i Sp.dE).1) :=
 bsl_at h key es.length 0 es.length (by omega) (Nat.zero_le _) (Nat.le_refl _) (fun i hi=>by omega) (fun i h1 h2=>by omega)
noncomputable def skE(es:List EnT)(key:Int):Nat:=if Sp.plE es key<es.length/\(es.getD (Sp.plE es key) Sp.dE).1=key then 1 else 0
theorem putE_eq(es:List EnT)(key:Int)(data:List Int):Sp.putE es key data=es.take (Sp.plE es key)++([(key,data,())]++es.drop (Sp.plE es key+skE es key)):=by
 unfold Sp.putE skE
 split
 ·rename_i c
  rw[List.set_eq_take_append_cons_drop,if_pos c.1]
  rfl
 ·rw[Nat.add_zero]
theorem putE_get(es:List EnT)(key:Int)(data:List Int)(i:Nat):((Sp.putE es key data).getD i Sp.dE).1=if i<Sp.plE es key then(es.getD i Sp.dE).1 else if i=Sp.plE es key then key else(es.getD (i-1+skE es key) Sp.dE).1:=by
 have hp:=plE_le es key
 have tl:(es.take (Sp.plE es key)).length=Sp.plE es key:=by rw[List.length_take];omega
 rw[putE_eq,List.getD_eq_getElem?_getD,List.getD_eq_getElem?_getD,List.getD_eq_getElem?_getD,List.getElem?_append,tl]
 split
 ·rename_i c
  rw[List.getElem?_take,if_pos c]
 ·rename_i c
  rw[List.singleton_append]
  obtain⟨d,rfl⟩:∃d,i=Sp.plE es key+d:=⟨i-Sp.plE es key,by omega⟩
  rw[Nat.add_sub_cancel_left]
  cases d with
  |zero=>rw[List.getElem?_cons_zero,if_pos (show Sp.plE es key+0=Sp.plE es key from rfl)];rfl
  |succ d=>rw[List.getElem?_cons_succ,List.getElem?_drop,if_neg (by omega),show Sp.plE es key+(d+1)-1+skE es key=Sp.plE es key+skE es key+d by omega]
theorem putE_ln(es:List EnT)(key:Int)(data:List Int):(Sp.putE es key data).length=es.length+1-skE es key:=by
 have hp:=plE_le es key
 have:Sp.plE es key+skE es key<=es.length:=by unfold skE;split<;>omega
 rw[putE_eq,List.length_append,List.length_append,List.length_take,List.length_drop,List.length_singleton];omega
theorem Asc.put{es:List EnT}(h:Asc es)(key:Int)(data:List Int):Asc (Sp.putE es key data):=by
 have hp:=plE_le es key
 have ha:=plE_at h key
 intro i j hij hj
 rw[putE_ln]at hj
 rw[putE_get,putE_get]
 have hs:Sp.plE es key+skE es key<=es.length:=by unfold skE;split<;>omega
 have hgt:∀k,Sp.plE es key+skE es key<=k->k<es.length->key<(es.getD k Sp.dE).1:=fun k h1 h2=>by
  have h3:=ha.2 k (by omega) h2
  unfold skE at h1
  split at h1
  ·rename_i c
   have:=h (Sp.plE es key) k (by omega) h2
   omega
  ·rename_i c
   by_cases e:(es.getD k Sp.dE).1=key
   ·exfalso
    by_cases e2:k=Sp.plE es key
    ·exact c ⟨by omega,e2▸e⟩
    ·have:=h (Sp.plE es key) k (by omega) h2
     have:=ha.2 (Sp.plE es key) (by omega) (by omega)
     omega
   ·omega
 by_cases c1:i<Sp.plE es key
 ·rw[if_pos c1]
  have k1:=ha.1 i c1
  by_cases c2:j<Sp.plE es key
  ·rw[if_pos c2];exact h i j hij (by omega)
  rw[if_neg c2]
  by_cases c3:j=Sp.plE es key
  ·rw[if_pos c3];exact k1
  ·rw[if_neg c3]
   have:=hgt (j-1+skE es key) (by omega) (by omega)
   omega
 rw[if_neg c1,if_neg (show ¬j<Sp.plE es key by omega),if_neg (show ¬j=Sp.plE es key by omega)]
 by_cases c3:i=Sp.plE es key
 ·rw[if_pos c3]
  exact hgt _ (by omega) (by omega)
 ·rw[if_neg c3]
  exact h _ _ (by omega) (by omega)
theorem rp_t{es:List EnT}{key:Int}(data:List Int)(hl:es.length<=100000):∀(d m j:Nat)(acc:List EnT),j+d=es.length->d<m->acc.length<=j+1->(∀i,j<=i->i<es.length->(es.getD i Sp.dE).1≠key)->L_105_0 m es key data true j acc=some (.e0 key data true (acc++es.drop j)):=by
 intro d
 induction d with
 |zero=>
  intro m j acc hj hm ha hk
  obtain⟨m,rfl⟩:∃k,m=k+1:=⟨m-1,by omega⟩
  rw[L_105_0,S_105_0,cond_dff (by omega),List.drop_of_length_le (by omega),List.append_nil]
 |succ d ih=>
  intro m j acc hj hm ha hk
  obtain⟨m,rfl⟩:∃k,m=k+1:=⟨m-1,by omega⟩
  have hx:=hk j (Nat.le_refl _) (by omega)
  have hx:(es.getD j Zd2).1≠key:=hx
  have dr:es.drop j=es.getD j Zd2::es.drop (j+1):=by
   have hj':j<es.length:=by omega
   rw[List.drop_eq_getElem_cons hj',List.getD_eq_getElem?_getD,List.getElem?_eq_getElem hj'];rfl
  rw[L_105_0,S_105_0,cond_dtt (by omega),Bool.not_true,cond_f,gd_inB (by omega) (by omega),Int.toNat_natCast,cond_ntt hx,gd_inB (by omega) (by omega),gd_room (by omega) (by omega),wi64 (by omega) (by omega),show(j:Int)+1=((j+1:Nat):Int) by push_cast;rfl,dr,
   ih m (j+1) (acc++[es.getD j Zd2]) (by omega) (by omega) (by rw[List.length_append,List.length_singleton];omega) (fun i h1 h2=>hk i (by omega) h2),List.append_assoc,List.singleton_append]
theorem rp_f{es:List EnT}(h:Asc es){key:Int}(data:List Int)(hd:data.length<=1000)(hl:es.length<=100000):∀(d m j:Nat),j+d=es.length->d<m->(∀i,i<j->(es.getD i Sp.dE).1<key) ->
 L_105_0 m es key data false j (es.take j)=some (if Sp.plE es key<es.length then .e0 key data true (Sp.putE es key data)else .e0 key data false es):=by
 have hp:=plE_le es key
 have hpa:=plE_at h key
 intro d
 induction d with
 |zero=>
  intro m j hj hm hk
  obtain⟨m,rfl⟩:∃k,m=k+1:=⟨m-1,by omega⟩
  have:¬Sp.plE es key<es.length:=fun c=>by
   have h1:=hpa.2 (Sp.plE es key) (Nat.le_refl _) c
   have h2:=hk (Sp.plE es key) (by omega)
   omega
  rw[L_105_0,S_105_0,cond_dff (by omega),if_neg this,List.take_of_length_le (by omega)]
 |succ d ih=>
  intro m j hj hm hk
  obtain⟨m,rfl⟩:∃k,m=k+1:=⟨m-1,by omega⟩
  have tl:(es.take j).length=j:=by rw[List.length_take];omega
  have dr:es.drop j=es.getD j Zd2::es.drop (j+1):=by
   have hj':j<es.length:=by omega
   rw[List.drop_eq_getElem_cons hj',List.getD_eq_getElem?_getD,List.getElem?_eq_getElem hj'];rfl
  rw[L_105_0,S_105_0,cond_dtt (by omega),Bool.not_false,cond_t,gd_inB (by omega) (by omega),Int.toNat_natCast]
  by_cases c:(es.getD j Zd2).1>=key
  ·have c':key<=(es.getD j Sp.dE).1:=c
   have pj:Sp.plE es key=j:=by
    by_cases a:Sp.plE es key<j
    ·have:=hk _ a
     have:=hpa.2 (Sp.plE es key) (Nat.le_refl _) (by omega)
     omega
    ·by_cases b:j<Sp.plE es key
     ·have:=hpa.1 j b
      omega
     ·omega
   have gt:∀i,j+1<=i->i<es.length->(es.getD i Sp.dE).1≠key:=fun i h1 h2=>by
    have:=h j i (by omega) h2
    omega
   rw[cond_dtt c,gd_room (by omega) (by omega),gd_room (by omega) (by omega),gd_inB (by omega) (by omega),if_pos (by omega),wi64 (n:=(j:Int)+1) (by omega) (by omega),show(j:Int)+1=((j+1:Nat):Int) by push_cast;rfl,List.nil_append,putE_eq,pj]
   by_cases e:(es.getD j Zd2).1=key
   ·have sk:skE es key=1:=by unfold skE;rw[pj,if_pos ⟨by omega,e⟩]
    rw[cond_nff e,rp_t data hl d m (j+1) _ (by omega) (by omega) (by rw[List.length_append,List.length_singleton];omega) gt,sk,List.append_assoc]
   ·have sk:skE es key=0:=by unfold skE;rw[pj,if_neg (fun z=>e z.2)]
    have ln:(es.take j++[((key,data,PUnit.unit):EnT)]).length=j+1:=by rw[List.length_append,List.length_singleton,tl]
    rw[cond_ntt e,gd_inB (by omega) (by omega),gd_room (by omega) (by omega),rp_t data hl d m (j+1) _ (by omega) (by omega) (by rw[List.length_append,List.length_append,List.length_singleton,List.length_singleton];omega) gt,sk,Nat.add_zero j,dr,List.append_assoc,List.append_assoc]
    rfl
  ·have c':(es.getD j Sp.dE).1<key:=by
    have:¬(es.getD j Sp.dE).1>=key:=c
    omega
   have ne:(es.getD j Zd2).1≠key:=by
    have:(es.getD j Sp.dE).1≠key:=by omega
    exact this
   rw[cond_dff c,gd_inB (by omega) (by omega),cond_ntt ne,gd_inB (by omega) (by omega),gd_room (by omega) (by omega),wi64 (by omega) (by omega),show(j:Int)+1=((j+1:Nat):Int) by push_cast;rfl]
   have:=ih m (j+1) (by omega) (by omega) (fun i hi=>by
    by_cases e:i=j
    ·rw[e];exact c'
    ·exact hk i (by omega))
   have tk:es.take (j+1)=es.take j++[es.getD j Zd2]:=by
    have hj':j<es.length:=by omega
    rw[List.take_succ_eq_append_getElem hj',List.getD_eq_getElem?_getD,List.getElem?_eq_getElem hj'];rfl
   rw[tk]at this
   exact this
theorem rput_pv{es:List EnT}(h:Asc es)(key:Int){data:List Int}(hd:data.length<=1000)(hl:es.length<=100000):p_105 es key data=true/\v_105 es key data=(Sp.putE es key data,()):=by
 refine pv_105 es key data ?_
 unfold F_105
 have t:=rp_f h (key:=key) data hd hl es.length 4611686018427387904 0 (by omega) (by omega) (fun i hi=>by omega)
 rw[List.take_zero]at t
 refine(congrArg (fun z=>B_105_0 z _) t).trans ?_
 have hp:=plE_le es key
 by_cases c:Sp.plE es key<es.length
 ·rw[if_pos c]
  rfl
 ·rw[if_neg c]
  unfold B_105_0
  dsimp only
  have sk:skE es key=0:=by unfold skE;rw[if_neg (fun z=>c z.1)]
  rw[Bool.not_false,cond_t,gd_room (by omega) (by omega),gd_room (by omega) (by omega),putE_eq,sk,List.take_of_length_le (by omega),List.drop_of_length_le (by omega)]
  rfl
namespace Sp
noncomputable def rcd(key:Int)(d:List Int):List Int:=[prw (256*key+d.length)]++d++[prw (smw ([prw (256*key+d.length)]++d))]
noncomputable def rcs(es:List EnT):List Int:=es.flatMap fun e=>rcd e.1 e.2.1
noncomputable def oh(m:MeT):Nat:=1-acv m
noncomputable def hc(m:MeT):Nat:=m.2.2.1.toNat/2
noncomputable def frs(m:MeT):Nat:=m.2.1.toNat+oh m*hc m
noncomputable def cst(m:MeT)(es:List EnT):List StT:=erl (hc m) (frs m)++pgl (rcs es) ((hbs m (oh m):Int)+1)++[(false,(hbs m (oh m):Int),prw (gnr m (acv m)+1),())]
noncomputable def cov(m:MeT)(es:List EnT):List StT×Int×Unit:=if hsz m<1+(rcs es).length then([],5,())else if wor m.1 (hc m) (frs m)=true then([],19,())else if gnr m (acv m)=65535 then([],19,())else(cst m es,0,())
noncomputable def clv(m:MeT)(p:PwT):OuM:=if mvl m=true/\pok p=true then(if(cov m (ent m)).2.1=0 then dov m (cov m (ent m)).1 p else(zM,(0,0,()),(cov m (ent m)).2.1,()))else(zM,(0,0,()),1,())
end Sp
theorem oh_b{m:MeT}(hv:Sp.fv m.1=true)(hp:Sp.plc m=true):Sp.oh m<2/\1<=Sp.hc m/\Sp.hc m<=8/\Sp.frs m+Sp.hc m<=m.1.2.1.length/\Sp.hbs m (Sp.oh m)=64*Sp.frs m/\Sp.hsz m=64*Sp.hc m:=by
 obtain⟨p1,p2,p3,p4,p5⟩:=plc_iff.1 hp
 have v:=fv_iff.1 hv
 have ha:=acv_lt m
 have h2:m.2.2.1.toNat=2*(m.2.2.1.toNat/2):=by omega
 unfold Sp.frs Sp.hbs Sp.hsz Sp.oh Sp.hc
 match h:Sp.acv m,ha with
 |0,_=>simp only[Nat.sub_zero,Nat.one_mul];omega
 |1,_=>simp only[Nat.sub_self,Nat.zero_mul];omega
theorem oh_e{m:MeT}(hv:Sp.fv m.1=true)(hp:Sp.plc m=true):wrap .i64 (1-(Sp.acv m:Int))=(Sp.oh m:Int)/\wrap .i64 (1-(Sp.oh m:Int))=(Sp.acv m:Int) /\
 wrap .i64 (m.2.1+wrap .i64 (Int.tdiv (wrap .i64 ((Sp.oh m:Int)*m.2.2.1)) 2))=(Sp.frs m:Int)/\wrap .i64 (Int.tdiv m.2.2.1 2)=(Sp.hc m:Int)/\wrap .i64 ((Sp.frs m:Int)+(Sp.hc m:Int))=((Sp.frs m+Sp.hc m:Nat):Int):=by
 obtain⟨p1,p2,p3,p4,p5⟩:=plc_iff.1 hp
 have v:=fv_iff.1 hv
 have ob:=oh_b hv hp
 have ha:=acv_lt m
 have eh:wrap .i64 (Int.tdiv m.2.2.1 2)=(Sp.hc m:Int):=by
  rw[Int.tdiv_eq_ediv_of_nonneg (by omega),wi64 (by omega) (by omega)];unfold Sp.hc;omega
 refine⟨?_,?_,?_,eh,?_⟩
 ·unfold Sp.oh;rw[wi64 (by omega) (by omega)];omega
 ·unfold Sp.oh;rw[wi64 (by omega) (by omega)];omega
 ·have e:Int.tdiv (wrap .i64 ((Sp.oh m:Int)*m.2.2.1)) 2=((Sp.oh m*Sp.hc m:Nat):Int):=by
   match h:Sp.oh m,ob.1 with
   |0,_=>simp;decide
   |1,_=>
    rw[wi64 (by omega) (by omega),Int.tdiv_eq_ediv_of_nonneg (by omega)]
    unfold Sp.hc;omega
  have:Sp.frs m=m.2.1.toNat+Sp.oh m*Sp.hc m:=rfl
  rw[e,wi64 (n:=((Sp.oh m*Sp.hc m:Nat):Int)) (by omega) (by omega),wi64 (by omega) (by omega)]
  omega
 ·rw[wi64 (by omega) (by omega)];omega
theorem rcd_len(key:Int)(d:List Int):(Sp.rcd key d).length=d.length+2:=by
 unfold Sp.rcd
 rw[List.length_append,List.length_append,List.length_singleton,List.length_singleton];omega
theorem rcd_w{key:Int}{d:List Int}(h0:0<=key)(h1:key<=254)(hd:d.length<=24)(hw:W32l d):W32l ([Sp.prw (256*key+d.length)]++d):=fun x hx=>by
 rcases List.mem_append.1 hx with hx|hx
 ·rw[List.mem_singleton.1 hx]
  have:=prw_b (n:=256*key+d.length) (by omega) (by omega)
  exact⟨this.1,this.2.1⟩
 ·exact hw x hx
theorem rcd_pv{key:Int}{d:List Int}(h0:0<=key)(h1:key<=254)(hd:d.length<=24)(hw:W32l d):p_93 key d=true/\v_93 key d=(Sp.rcd key d,()):=by
 have e1:wrap .i64 (wrap .i64 (256*key)+(d.length:Int))=256*key+d.length:=by
  rw[wi64 (n:=256*key) (by omega) (by omega),wi64 (by omega) (by omega)]
 have pr:=pair_pv (n:=256*key+d.length) (by omega) (by omega)
 have w:=rcd_w h0 h1 hd hw
 have ll:([Sp.prw (256*key+d.length)]++d).length=d.length+1:=by rw[List.length_append,List.length_singleton];omega
 have s:=sum_pv w (by omega)
 have sb:=smw_b ([Sp.prw (256*key+d.length)]++d) 0 (by decide) (by decide)
 have pr2:=pair_pv (n:=Sp.smw ([Sp.prw (256*key+d.length)]++d)) sb.1 sb.2
 refine pv_93 key d ?_
 unfold F_93
 rw[e1,pr.1,pr.2,gd_tt]
 dsimp only
 rw[gd_room (by omega) (by omega),s.1,s.2,gd_tt]
 dsimp only
 rw[pr2.1,pr2.2,gd_tt,ll,gd_room (by omega) (by omega)]
 rfl
theorem rrcd_pv{key:Int}{d:List Int}(h0:0<=key)(h1:key<=254)(hd:d.length<=24)(hw:W32l d):p_100 key d=true/\v_100 key d=(Sp.rcd key d,()):=by
 have e1:wrap .i64 (wrap .i64 (256*key)+(d.length:Int))=256*key+d.length:=by
  rw[wi64 (n:=256*key) (by omega) (by omega),wi64 (by omega) (by omega)]
 have pr:=rpair_pv (n:=256*key+d.length) (by omega) (by omega)
 have w:=rcd_w h0 h1 hd hw
 have ll:([Sp.prw (256*key+d.length)]++d).length=d.length+1:=by rw[List.length_append,List.length_singleton];omega
 have s:=rsum_pv w (by omega)
 have sb:=smw_b ([Sp.prw (256*key+d.length)]++d) 0 (by decide) (by decide)
 have pr2:=rpair_pv (n:=Sp.smw ([Sp.prw (256*key+d.length)]++d)) sb.1 sb.2
 refine pv_100 key d ?_
 unfold F_100
 rw[e1,pr.1,pr.2,gd_tt]
 dsimp only
 rw[gd_room (by omega) (by omega),s.1,s.2,gd_tt]
 dsimp only
 rw[pr2.1,pr2.2,gd_tt,ll,gd_room (by omega) (by omega)]
 rfl
theorem pgl_app:∀(x y:List Int)(a:Int),Sp.pgl (x++y) a=Sp.pgl x a++Sp.pgl y (a+x.length)
 |[],y,a=>by simp[Sp.pgl]
 |w::x,y,a=>by
  rw[List.cons_append,Sp.pgl,pgl_app x y,Sp.pgl,List.cons_append,List.length_cons]
  congr 3
  omega
theorem rwrs_pv{l:List Int}(hl:l.length<=100000){a:Int}(h0:0<=a)(h1:a<=1000000):p_102 a l=true/\v_102 a l=(Sp.pgl l a,()):=by
 refine pv_102 a l ?_
 unfold F_102
 have t:=run0 (fun m i acc=>L_102_0 m a l i acc) (n:=l.length) (fun j=>Sp.pgl (l.take j) a) (r:=some (.e0 (Sp.pgl l a))) (by omega) (fun m j hj=>by
  show L_102_0 (m+1) a l (j:Int) (Sp.pgl (l.take j) a)=L_102_0 m a l ((j+1:Nat):Int) (Sp.pgl (l.take (j+1)) a)
  have tl:(l.take j).length=j:=by rw[List.length_take];omega
  rw[L_102_0,S_102_0,cond_dtt (by omega),gd_inB (by omega) (by omega),Int.toNat_natCast,pgl_len,tl,gd_room (by omega) (by omega),wi64 (n:=(j:Int)+1) (by omega) (by omega),wi64 (n:=a+(j:Int)) (by omega) (by omega),take_s (by omega),pgl_snoc,tl]
  rfl) (fun m=>by
  show L_102_0 (m+1) a l (l.length:Int) (Sp.pgl (l.take l.length) a)=_
  rw[L_102_0,S_102_0,cond_dff (by omega),List.take_length])
 exact(congrArg (fun z=>B_102_0 z _) t).trans rfl
theorem rcs_s{es:List EnT}{j:Nat}(h:j<es.length):Sp.rcs (es.take (j+1))=Sp.rcs (es.take j)++Sp.rcd (es.getD j Zd2).1 (es.getD j Zd2).2.1:=by
 unfold Sp.rcs
 rw[List.take_succ_eq_append_getElem h,List.flatMap_append,getD_at _ h]
 congr 1
 rw[List.flatMap_cons,List.flatMap_nil,List.append_nil]
theorem rcs_len:∀ {es:List EnT},KOK es->(Sp.rcs es).length<=26*es.length
 |[],_=>Nat.zero_le _
 |e::es,h=>by
  have:=rcs_len (es:=es) (fun x hx=>h x (List.mem_cons_of_mem _ hx))
  have h1:=(h e (List.mem_cons_self ..)).2.1
  unfold Sp.rcs at this⊢
  rw[List.flatMap_cons,List.length_append,rcd_len,List.length_cons]
  omega
theorem KOK.take{es:List EnT}(h:KOK es)(j:Nat):KOK (es.take j):=fun e he=>h e (List.mem_of_mem_take he)
theorem KOK.get{es:List EnT}(h:KOK es){j:Nat}(hj:j<es.length):(0<=(es.getD j Zd2).1/\(es.getD j Zd2).1<=254)/\(es.getD j Zd2).2.1.length<=24/\W32l (es.getD j Zd2).2.1:=by
 rw[getD_at _ hj]
 exact h _ (List.getElem_mem hj)
theorem cov_pv{m:MeT}(hw:W32f m.1)(hv:Sp.fv m.1=true)(hp:Sp.plc m=true){es:List EnT}(hk:KOK es)(hl:es.length<=600):p_97 m es=true/\v_97 m es=Sp.cov m es:=by
 have ac:=acv_pv hw hv hp
 have ob:=oh_b hv hp
 have oe:=oh_e hv hp
 have b:=pl_b hv hp
 have v:=fv_iff.1 hv
 have bo:=pl_k hv hp ob.1
 have gb:=gnr_b hw (Sp.acv m)
 have rl:=rcs_len hk
 refine pv_97 m es ?_
 unfold F_97 Sp.cov Sp.cst
 rw[ac.1,ac.2,gd_tt]
 dsimp only
 rw[oe.1]
 have t:=run0 (fun q i acc=>L_97_0 q (Sp.acv m) (Sp.oh m) es es.length i m acc) (n:=es.length) (fun j=>Sp.rcs (es.take j)) (r:=some (.e0 (Sp.acv m) (Sp.oh m) m (Sp.rcs es))) (by omega) (fun q j hj=>by
  show L_97_0 (q+1) (Sp.acv m) (Sp.oh m) es es.length (j:Int) m (Sp.rcs (es.take j))=L_97_0 q (Sp.acv m) (Sp.oh m) es es.length ((j+1:Nat):Int) m (Sp.rcs (es.take (j+1)))
  have g:=hk.get hj
  have r:=rcd_pv g.1.1 g.1.2 g.2.1 g.2.2
  have l1:=rcs_len (hk.take j)
  have tl:(es.take j).length=j:=by rw[List.length_take];omega
  rw[L_97_0,S_97_0,cond_dtt (by omega),gd_inB (by omega) (by omega),Int.toNat_natCast,r.1,r.2,gd_tt]
  dsimp only
  rw[rcd_len,gd_room (by omega) (by omega),wi64 (by omega) (by omega),rcs_s hj]
  push_cast
  rfl) (fun q=>by
  show L_97_0 (q+1) (Sp.acv m) (Sp.oh m) es es.length (es.length:Int) m (Sp.rcs (es.take es.length))=_
  rw[L_97_0,S_97_0,cond_dff (by omega),List.take_length])
 refine(congrArg (fun z=>B_97_0 z _) t).trans ?_
 unfold B_97_0
 dsimp only
 have sz:=msz_pv hv hp
 have gn:=gnr_pv hw hv hp (acv_lt m)
 have er:=erl_pv (m:=m) (by omega) (Sp.frs m) (Sp.hc m) ob.2.2.2.1
 rw[sz.1,sz.2,gd_tt]
 dsimp only
 rw[wi64 (n:=1+((Sp.rcs es).length:Int)) (by omega) (by omega),oe.2.2.1,oe.2.2.2.1,oe.2.2.2.2]
 by_cases c:Sp.hsz m<1+(Sp.rcs es).length
 ·rw[cond_dtt (by omega),if_pos c]
 rw[cond_dff (by omega),if_neg c,er.1,er.2,gd_tt,gn.1,gn.2,gd_tt]
 dsimp only
 cases hwo:Sp.wor m.1 (Sp.hc m) (Sp.frs m)
 rotate_left
 ·rfl
 rw[if_neg Bool.false_ne_true,if_neg Bool.false_ne_true]
 dsimp only
 rw[Bool.not_true,cond_f,wi64 (n:=Sp.gnr m (Sp.acv m)+1) (by omega) (by omega)]
 by_cases c2:Sp.gnr m (Sp.acv m)=65535
 ·rw[cond_dtt (by omega),if_pos c2]
 have ad1:=adr_pv hv hp ob.1 (i:=1) (by decide) (by decide)
 have ad0:=adr_pv hv hp ob.1 (i:=0) (by decide) (by decide)
 rw[Int.add_zero]at ad0
 have pg:=pgl_pv (l:=Sp.rcs es) (by omega) (a:=(Sp.hbs m (Sp.oh m):Int)+1) (by omega) (by omega)
 have pr:=pair_pv (n:=Sp.gnr m (Sp.acv m)+1) (by omega) (by omega)
 rw[cond_dff (by omega),if_neg c2,ad1.1,ad1.2,gd_tt]
 dsimp only
 rw[pg.1,pg.2,gd_tt]
 dsimp only
 rw[erl_len,pgl_len,gd_room (by omega) (by omega),ad0.1,ad0.2,gd_tt,pr.1,pr.2,gd_tt]
 dsimp only
 rw[List.length_append,erl_len,pgl_len,gd_room (by omega) (by omega)]
theorem rcov_pv{m:MeT}(hw:W32f m.1)(hm:Sp.mvl m=true){es:List EnT}(hk:KOK es)(hl:es.length<=600):p_104 m es=true/\v_104 m es=Sp.cov m es:=by
 obtain⟨hv,hp,hac⟩:=mvl_d hm
 have ac:=rac_pv hw hv hp
 rw[show Sp.rac m=(Sp.acv m:Int) by unfold Sp.rac;rw[if_pos hac]]at ac
 have ob:=oh_b hv hp
 have oe:=oh_e hv hp
 have b:=pl_b hv hp
 have v:=fv_iff.1 hv
 have bo:=pl_k hv hp ob.1
 have gb:=gnr_b hw (Sp.acv m)
 have rl:=rcs_len hk
 refine pv_104 m es ?_
 unfold F_104 Sp.cov Sp.cst
 have t:=run0 (fun q i acc=>L_104_0 q es acc i m) (n:=es.length) (fun j=>1+((Sp.rcs (es.take j)).length:Int)) (r:=some (.e0 es (1+((Sp.rcs es).length:Int)) m)) (by omega) (fun q j hj=>by
  show L_104_0 (q+1) es (1+((Sp.rcs (es.take j)).length:Int)) (j:Int) m=L_104_0 q es (1+((Sp.rcs (es.take (j+1))).length:Int)) ((j+1:Nat):Int) m
  have g:=hk.get hj
  have l1:=rcs_len (hk.take j)
  have tl:(es.take j).length=j:=by rw[List.length_take];omega
  rw[L_104_0,S_104_0,cond_dtt (by omega),gd_inB (by omega) (by omega),Int.toNat_natCast,rcs_s hj,List.length_append,rcd_len,wi64 (n:=(j:Int)+1) (by omega) (by omega),wi64 (n:=1+((Sp.rcs (es.take j)).length:Int)+_) (by omega) (by omega),wi64 (by omega) (by omega)]
  push_cast
  rw[Int.add_assoc,Int.add_assoc,Int.add_assoc]
  rfl) (fun q=>by
  show L_104_0 (q+1) es (1+((Sp.rcs (es.take es.length)).length:Int)) (es.length:Int) m=_
  rw[L_104_0,S_104_0,cond_dff (by omega),List.take_length])
 refine(congrArg (fun z=>B_104_0 z _) t).trans ?_
 unfold B_104_0
 dsimp only
 have sz:=rsz_pv hv hp
 have gn:=rgn_pv hw hv hp (acv_lt m)
 have wo:=rwor_pv hv (Sp.frs m) (Sp.hc m) ob.2.2.2.1
 rw[sz.1,sz.2,gd_tt]
 dsimp only
 by_cases c:Sp.hsz m<1+(Sp.rcs es).length
 ·rw[cond_dtt (by omega),if_pos c]
 rw[cond_dff (by omega),if_neg c,ac.1,ac.2,gd_tt]
 dsimp only
 rw[oe.1,oe.2.1,gn.1,gn.2,gd_tt,oe.2.2.1,oe.2.2.2.1,wo.1,wo.2,gd_tt]
 dsimp only
 cases hwo:Sp.wor m.1 (Sp.hc m) (Sp.frs m)
 rotate_left
 ·rfl
 rw[cond_f,if_neg Bool.false_ne_true]
 by_cases c2:Sp.gnr m (Sp.acv m)=65535
 ·rw[cond_ett c2,if_pos c2]
 have er:=rerl_pv (Sp.frs m) (Sp.hc m) (by omega) (by omega) (by omega)
 have bs:=rbs_pv hv hp ob.1
 have pr:=rpair_pv (n:=Sp.gnr m (Sp.acv m)+1) (by omega) (by omega)
 rw[cond_eff c2,if_neg c2,er.1,er.2,gd_tt,bs.1,bs.2,gd_tt]
 dsimp only
 rw[wi64 (n:=(Sp.hbs m (Sp.oh m):Int)+1) (by omega) (by omega)]
 have t:=run0 (fun q i(st:Int×List StT)=>L_104_1 q es (Sp.oh m) (Sp.gnr m (Sp.acv m)) st.1 i m st.2) (n:=es.length) (fun j=>((Sp.hbs m (Sp.oh m):Int)+1+((Sp.rcs (es.take j)).length:Int),Sp.erl (Sp.hc m) (Sp.frs m)++Sp.pgl (Sp.rcs (es.take j)) ((Sp.hbs m (Sp.oh m):Int)+1))) (r:=some (.e0 (Sp.oh m) (Sp.gnr m (Sp.acv m)) m (Sp.erl (Sp.hc m) (Sp.frs m)++Sp.pgl (Sp.rcs es) ((Sp.hbs m (Sp.oh m):Int)+1)))) (by omega) (fun q j hj=>by
  show L_104_1 (q+1) es (Sp.oh m) (Sp.gnr m (Sp.acv m)) ((Sp.hbs m (Sp.oh m):Int)+1+((Sp.rcs (es.take j)).length:Int)) (j:Int) m (Sp.erl (Sp.hc m) (Sp.frs m)++Sp.pgl (Sp.rcs (es.take j)) ((Sp.hbs m (Sp.oh m):Int)+1))=L_104_1 q es (Sp.oh m) (Sp.gnr m (Sp.acv m)) ((Sp.hbs m (Sp.oh m):Int)+1+((Sp.rcs (es.take (j+1))).length:Int)) ((j+1:Nat):Int) m (Sp.erl (Sp.hc m) (Sp.frs m)++Sp.pgl (Sp.rcs (es.take (j+1))) ((Sp.hbs m (Sp.oh m):Int)+1))
  have g:=hk.get hj
  have r:=rrcd_pv g.1.1 g.1.2 g.2.1 g.2.2
  have l1:=rcs_len (hk.take j)
  have tl:(es.take j).length=j:=by rw[List.length_take];omega
  have rdl:=rcd_len (es.getD j Zd2).1 (es.getD j Zd2).2.1
  have ws:=rwrs_pv (l:=Sp.rcd (es.getD j Zd2).1 (es.getD j Zd2).2.1) (by omega) (a:=(Sp.hbs m (Sp.oh m):Int)+1+((Sp.rcs (es.take j)).length:Int)) (by omega) (by omega)
  rw[L_104_1,S_104_1,cond_dtt (by omega),gd_inB (by omega) (by omega),gd_inB (by omega) (by omega),Int.toNat_natCast,r.1,r.2,gd_tt]
  dsimp only
  rw[ws.1,ws.2,gd_tt]
  dsimp only
  rw[List.length_append,erl_len,pgl_len,pgl_len,gd_room (by omega) (by omega),wi64 (n:=(j:Int)+1) (by omega) (by omega),wi64 (by omega) (by omega),rcs_s hj,pgl_app,List.length_append,List.append_assoc]
  push_cast
  rw[Int.add_assoc ((Sp.hbs m (Sp.oh m):Int)+1)]) (fun q=>by
  show L_104_1 (q+1) es (Sp.oh m) (Sp.gnr m (Sp.acv m)) ((Sp.hbs m (Sp.oh m):Int)+1+((Sp.rcs (es.take es.length)).length:Int)) (es.length:Int) m (Sp.erl (Sp.hc m) (Sp.frs m)++Sp.pgl (Sp.rcs (es.take es.length)) ((Sp.hbs m (Sp.oh m):Int)+1))=_
  rw[L_104_1,S_104_1,cond_dff (by omega),List.take_length])
 have t:L_104_1 4611686018427387904 es (Sp.oh m) (Sp.gnr m (Sp.acv m)) ((Sp.hbs m (Sp.oh m):Int)+1+0) 0 m (Sp.erl (Sp.hc m) (Sp.frs m)++[])=_:=t
 rw[Int.add_zero,List.append_nil]at t
 refine(congrArg (fun z=>B_104_1 z _) t).trans ?_
 unfold B_104_1
 dsimp only
 rw[bs.1,bs.2,gd_tt,wi64 (n:=Sp.gnr m (Sp.acv m)+1) (by omega) (by omega),pr.1,pr.2,gd_tt]
 dsimp only
 rw[List.length_append,erl_len,pgl_len,gd_room (by omega) (by omega)]
theorem cst_sv{m:MeT}(hv:Sp.fv m.1=true)(hp:Sp.plc m=true){es:List EnT}(h:1+(Sp.rcs es).length<=Sp.hsz m):(∀x∈Sp.cst m es,SV m.1 x)/\(Sp.cst m es).length<=1000000:=by
 have ob:=oh_b hv hp
 have b:=pl_b hv hp
 have v:=fv_iff.1 hv
 have bo:=pl_k hv hp ob.1
 unfold Sp.cst
 refine⟨fun x hx=> ?_,?_⟩
 ·rcases List.mem_append.1 hx with hx|hx
  ·rcases List.mem_append.1 hx with hx|hx
   ·exact erl_sv (Sp.hc m) (Sp.frs m:Int) (by omega) (by omega) x hx
   ·exact pgl_sv (Sp.rcs es) ((Sp.hbs m (Sp.oh m):Int)+1) (by omega) (by omega) x hx
  ·rw[List.mem_singleton.1 hx]
   exact⟨(by show(0:Int)<=(Sp.hbs m (Sp.oh m):Int);omega),(fun h=>by cases h),(fun _=>by show(Sp.hbs m (Sp.oh m):Int)<_;omega)⟩
 ·rw[List.length_append,List.length_append,erl_len,pgl_len,List.length_singleton];omega
set_option maxRecDepth 100000
set_option maxHeartbeats 4000000
theorem dol_pg{f0:FlT}:∀(l:List StT){s:RsT},(∀x∈l,x.1=false)->SG f0 s->SG f0 (Sp.dol l s)
 |[],_,_,h=>h
 |x::l,s,hx,h=>by
  rw[Sp.dol]
  split
  ·refine dol_pg l (fun y hy=>hx y (List.mem_cons_of_mem _ hy)) ?_
   unfold Sp.dop
   rw[if_neg (by rw[hx x (List.mem_cons_self ..)];exact Bool.false_ne_true)]
   exact prg_sg h _ _
  ·exact h
theorem pgl_f:∀(l:List Int)(a:Int),∀x∈Sp.pgl l a,x.1=false
 |[],_,x,hx=>by cases hx
 |w::l,a,x,hx=>by
  rw[Sp.pgl]at hx
  rcases List.mem_cons.1 hx with rfl|hx
  ·rfl
  ·exact pgl_f l (a+1) x hx
theorem cst_sg{m:MeT}(hw:W32f m.1)(hv:Sp.fv m.1=true)(hp:Sp.plc m=true){p:PwT}(h0:0<=p.1)(h1:p.1<=1099511627776)(es:List EnT)(hwo:Sp.wor m.1 (Sp.hc m) (Sp.frs m)=false):SG m.1 (Sp.dol (Sp.cst m es) (m.1,p,0,())):=by
 have ob:=oh_b hv hp
 have E:=erl_b (f0:=m.1) (a:=Sp.frs m) (Sp.hc m) 0 (EB.init hv hw h0 h1 (Sp.frs m)) (by omega) (by rw[Nat.add_zero];exact hwo)
 rw[Nat.add_zero,Nat.zero_add]at E
 unfold Sp.cst
 rw[List.append_assoc,dol_app]
 refine dol_pg _ (fun x hx=> ?_) E.g
 rcases List.mem_append.1 hx with hx|hx
 ·exact pgl_f _ _ x hx
 ·rw[List.mem_singleton.1 hx]
theorem hwr_sub{m:MeT}{k i n:Nat}(h:i+n<=Sp.hsz m):take n (drop (Sp.hbs m k+i) m.1.1)=take n (drop i (Sp.hwr m k)):=by
 unfold Sp.hwr
 rw[List.drop_take,List.take_take,List.drop_drop,Nat.min_eq_left (by omega)]
theorem nmb_blank:Sp.nmb 4294967295=(65535,false):=by decide
theorem lg1{m:MeT}(hw:W32f m.1)(hv:Sp.fv m.1=true)(hp:Sp.plc m=true){k:Nat}(hk:k<2)(l:List Int)(hl:l=Sp.hwr m k):∀(f q i:Nat)(es:List EnT),Asc es->es.length<=i->i<=l.length->l.length-i<=f->f<q->∀R,R=Sp.rdl l f i es->
 L_99_0_1 q k l.length es i m=some (if R.1<l.length/\l.getD R.1 0≠4294967295 then .e0 l.length R.2 else .e1 k l.length R.2 (R.1:Nat) m)/\Asc R.2:=by
 have b:=pl_b hv hp
 have bk:=pl_k hv hp hk
 have hln:l.length=Sp.hsz m:=by rw[hl];exact hwr_len hv hp hk
 have hW:W32l l:=by rw[hl];exact hw.half k
 have bs:=rbs_pv hv hp hk
 intro f
 induction f with
 |zero=>
  intro q i es ha hn hi hf hq R hR
  obtain⟨q,rfl⟩:∃k,q=k+1:=⟨q-1,by omega⟩
  rw[Sp.rdl]at hR
  subst hR
  refine⟨?_,ha⟩
  rw[if_neg (fun z=>by have:=z.1;dsimp only at this;omega),L_99_0_1,S_99_0_1,cond_dff (by omega)]
 |succ f ih=>
  intro q i es ha hn hi hf hq R hR
  obtain⟨q,rfl⟩:∃k,q=k+1:=⟨q-1,by omega⟩
  obtain⟨n,key,ok,h⟩:=hd_at hW i
  have hn2:=h.n
  have hk0:=h.k0
  have hk1:=h.k1
  rw[rdl_s h]at hR
  by_cases c1:i<l.length
  rotate_left
  ·rw[if_neg (fun a=>c1 a.1)]at hR
   subst hR
   refine⟨?_,ha⟩
   rw[if_neg (fun z=>c1 z.1),L_99_0_1,S_99_0_1,cond_dff (by omega)]
  have wi:=rwd_pv hv hp hk (i:=i) (by omega)
  rw[<-hl]at wi
  have hx:=hW.at i
  have nv:=rnum_pv hx.1 hx.2
  rw[L_99_0_1,S_99_0_1,cond_dtt (by omega),wi.1,wi.2,gd_tt]
  by_cases c0:l.getD i 0=4294967295
  ·have eo:ok=false:=by
    have:=h.e
    rw[c0,nmb_blank]at this
    exact(congrArg Prod.snd this).symm
   rw[if_neg (fun a=>by rw[eo]at a;exact Bool.noConfusion a.2.1)]at hR
   subst hR
   rw[cond_nff c0]
   exact⟨by rw[if_neg (fun z=>z.2 c0)],ha⟩
  rw[cond_ntt c0,gd_tt,nv.1,nv.2,gd_tt,h.e]
  dsimp only
  have stop:some (E_99_0_1.e0 l.length es)=some (if i<l.length/\l.getD i 0≠4294967295 then .e0 l.length es else .e1 k l.length es (i:Nat) m):=by rw[if_pos ⟨c1,c0⟩]
  cases ok with
  |false=>
   rw[if_neg (fun a=>Bool.noConfusion a.2.1)]at hR
   subst hR
   rw[Bool.not_false,cond_t]
   exact⟨stop,ha⟩
  |true=>
  have e1:Int.tdiv (key*256+(n:Int)) 256=key:=by rw[Int.tdiv_eq_ediv_of_nonneg (by omega)];omega
  have e2:Int.tmod (key*256+(n:Int)) 256=(n:Int):=by rw[Int.tmod_eq_emod_of_nonneg (by omega)];omega
  have ky:=rky_pv key
  rw[Bool.not_true,cond_f,e1,e2,wi64 (n:=key) (by omega) (by omega),ky.1,ky.2,gd_tt,decide_eq_true hk0,Bool.true_and]
  by_cases c2:key<=254
  rotate_left
  ·rw[if_neg (fun a=>c2 a.2.2.1)]at hR
   subst hR
   rw[decide_eq_false c2]
   exact⟨stop,ha⟩
  rw[decide_eq_true c2,Bool.not_true,cond_f]
  by_cases c3:(n:Int)>24
  ·rw[if_neg (fun a=>by omega)]at hR
   subst hR
   rw[cond_dtt c3]
   exact⟨stop,ha⟩
  rw[cond_dff c3,wi64 (n:=(i:Int)+(n:Int)) (by omega) (by omega),wi64 (n:=(i:Int)+(n:Int)+2) (by omega) (by omega),wi64 (n:=(i:Int)+(n:Int)+1) (by omega) (by omega)]
  by_cases c4:(i:Int)+(n:Int)+2>(l.length:Int)
  ·rw[if_neg (fun a=>by omega)]at hR
   subst hR
   rw[cond_dtt c4]
   exact⟨stop,ha⟩
  have wy:=rwd_pv hv hp hk (i:=i+n+1) (by omega)
  rw[<-hl]at wy
  have hy:=hW.at (i+n+1)
  have ny:=rnum_pv hy.1 hy.2
  rw[if_pos (show i<l.length/\true=true/\key<=254/\n<=24/\i+n+2<=l.length from⟨c1,rfl,c2,by omega,by omega⟩)]at hR
  rw[cond_dff c4,bs.1,bs.2,gd_tt]
  dsimp only
  rw[wi64 (n:=(Sp.hbs m k:Int)+(i:Int)) (by omega) (by omega),wi64 (n:=(Sp.hbs m k:Int)+(i:Int)+(n:Int)) (by omega) (by omega),wi64 (n:=(Sp.hbs m k:Int)+(i:Int)+(n:Int)+1) (by omega) (by omega),gd_sl3 (by omega) (by omega) (by omega),
   show(i:Int)+(n:Int)+1=((i+n+1:Nat):Int) by push_cast;rfl,show(i:Int)+(n:Int)+2=((i+n+2:Nat):Int) by push_cast;rfl,wy.1,wy.2,gd_tt,ny.1,ny.2,gd_tt,
   show((Sp.hbs m k:Int)+(i:Int)+(n:Int)+1).toNat-((Sp.hbs m k:Int)+(i:Int)).toNat=n+1 by omega,show((Sp.hbs m k:Int)+(i:Int)).toNat=Sp.hbs m k+i by omega,hwr_sub (by omega),<-hl]
  dsimp only
  have next:∀es',Asc es'->es'.length<=es.length+1->_:=fun es' g1 g2=>ih q (i+n+2) es' g1 (by omega) (by omega) (by omega) (by omega) R
  cases hb:(Sp.nmb (l.getD (i+n+1) 0)).2 with
  |false=>
   rw[hb,if_neg (fun a=>Bool.noConfusion a.1)]at hR
   rw[cond_f]
   exact next es ha (by omega) hR
  |true=>
  have tl:(take (n+1) (drop i l)).length=n+1:=by rw[List.length_take,List.length_drop];omega
  have s:=rsum_pv (W32l.td hW (n+1) i) (by omega)
  rw[cond_t,s.1,s.2,gd_tt]
  dsimp only
  by_cases c5:(Sp.nmb (l.getD (i+n+1) 0)).1=Sp.smw (take (n+1) (drop i l))
  rotate_left
  ·rw[if_neg (fun a=>c5 a.2)]at hR
   rw[cond_eff c5]
   exact next es ha (by omega) hR
  have dl:(take n (drop (i+1) l)).length<=24:=by rw[List.length_take];omega
  have pt:=rput_pv ha key (data:=take n (drop (i+1) l)) (by omega) (by omega)
  rw[if_pos ⟨hb,c5⟩]at hR
  rw[cond_ett c5,tl,gd_sl3 (by omega) (by omega) (by omega),List.drop_take,List.drop_drop,show n+1-1=n from rfl,pt.1,pt.2,gd_tt]
  exact next _ (ha.put key _) (putE_len _ _ _) hR
theorem lg0{m:MeT}(hw:W32f m.1)(hv:Sp.fv m.1=true)(hp:Sp.plc m=true){k:Nat}(hk:k<2)(l:List Int)(hl:l=Sp.hwr m k):∀(f q i:Nat),i<=l.length->l.length-i<=f->f<q->∀R,R=Sp.rdl l f i [] ->
 ((L_99_0 q k l.length i m []=some (if R.1<l.length/\l.getD R.1 0≠4294967295 then .e0 l.length []else .e1 k l.length (R.1:Nat) m [])/\R.2=[]) \/
  L_99_0 q k l.length i m []=some (if R.1<l.length/\l.getD R.1 0≠4294967295 then .e2 l.length R.2 else .e3 k l.length R.2 (R.1:Nat) m))/\Asc R.2:=by
 have b:=pl_b hv hp
 have bk:=pl_k hv hp hk
 have hln:l.length=Sp.hsz m:=by rw[hl];exact hwr_len hv hp hk
 have hW:W32l l:=by rw[hl];exact hw.half k
 have bs:=rbs_pv hv hp hk
 have ha:Asc []:=fun i j _ h=>absurd h (Nat.not_lt_zero _)
 intro f
 induction f with
 |zero=>
  intro q i hi hf hq R hR
  obtain⟨q,rfl⟩:∃k,q=k+1:=⟨q-1,by omega⟩
  rw[Sp.rdl]at hR
  subst hR
  refine⟨.inl ⟨?_,rfl⟩,ha⟩
  rw[if_neg (fun z=>by have:=z.1;dsimp only at this;omega),L_99_0,S_99_0,cond_dff (by omega)]
 |succ f ih=>
  intro q i hi hf hq R hR
  obtain⟨q,rfl⟩:∃k,q=k+1:=⟨q-1,by omega⟩
  obtain⟨n,key,ok,h⟩:=hd_at hW i
  have hn2:=h.n
  have hk0:=h.k0
  have hk1:=h.k1
  rw[rdl_s h]at hR
  by_cases c1:i<l.length
  rotate_left
  ·rw[if_neg (fun a=>c1 a.1)]at hR
   subst hR
   refine⟨.inl ⟨?_,rfl⟩,ha⟩
   rw[if_neg (fun z=>c1 z.1),L_99_0,S_99_0,cond_dff (by omega)]
  have wi:=rwd_pv hv hp hk (i:=i) (by omega)
  rw[<-hl]at wi
  have hx:=hW.at i
  have nv:=rnum_pv hx.1 hx.2
  rw[L_99_0,S_99_0,cond_dtt (by omega),wi.1,wi.2,gd_tt]
  by_cases c0:l.getD i 0=4294967295
  ·have eo:ok=false:=by
    have:=h.e
    rw[c0,nmb_blank]at this
    exact(congrArg Prod.snd this).symm
   rw[if_neg (fun a=>by rw[eo]at a;exact Bool.noConfusion a.2.1)]at hR
   subst hR
   rw[cond_nff c0]
   exact⟨.inl ⟨by rw[if_neg (fun z=>z.2 c0)],rfl⟩,ha⟩
  rw[cond_ntt c0,gd_tt,nv.1,nv.2,gd_tt,h.e]
  dsimp only
  have stop:some (E_99_0.e0 l.length [])=some (if i<l.length/\l.getD i 0≠4294967295 then .e0 l.length []else .e1 k l.length (i:Nat) m []):=by rw[if_pos ⟨c1,c0⟩]
  cases ok with
  |false=>
   rw[if_neg (fun a=>Bool.noConfusion a.2.1)]at hR
   subst hR
   rw[Bool.not_false,cond_t]
   exact⟨.inl ⟨stop,rfl⟩,ha⟩
  |true=>
  have e1:Int.tdiv (key*256+(n:Int)) 256=key:=by rw[Int.tdiv_eq_ediv_of_nonneg (by omega)];omega
  have e2:Int.tmod (key*256+(n:Int)) 256=(n:Int):=by rw[Int.tmod_eq_emod_of_nonneg (by omega)];omega
  have ky:=rky_pv key
  rw[Bool.not_true,cond_f,e1,e2,wi64 (n:=key) (by omega) (by omega),ky.1,ky.2,gd_tt,decide_eq_true hk0,Bool.true_and]
  by_cases c2:key<=254
  rotate_left
  ·rw[if_neg (fun a=>c2 a.2.2.1)]at hR
   subst hR
   rw[decide_eq_false c2]
   exact⟨.inl ⟨stop,rfl⟩,ha⟩
  rw[decide_eq_true c2,Bool.not_true,cond_f]
  by_cases c3:(n:Int)>24
  ·rw[if_neg (fun a=>by omega)]at hR
   subst hR
   rw[cond_dtt c3]
   exact⟨.inl ⟨stop,rfl⟩,ha⟩
  rw[cond_dff c3,wi64 (n:=(i:Int)+(n:Int)) (by omega) (by omega),wi64 (n:=(i:Int)+(n:Int)+2) (by omega) (by omega),wi64 (n:=(i:Int)+(n:Int)+1) (by omega) (by omega)]
  by_cases c4:(i:Int)+(n:Int)+2>(l.length:Int)
  ·rw[if_neg (fun a=>by omega)]at hR
   subst hR
   rw[cond_dtt c4]
   exact⟨.inl ⟨stop,rfl⟩,ha⟩
  have wy:=rwd_pv hv hp hk (i:=i+n+1) (by omega)
  rw[<-hl]at wy
  have hy:=hW.at (i+n+1)
  have ny:=rnum_pv hy.1 hy.2
  rw[if_pos (show i<l.length/\true=true/\key<=254/\n<=24/\i+n+2<=l.length from⟨c1,rfl,c2,by omega,by omega⟩)]at hR
  rw[cond_dff c4,bs.1,bs.2,gd_tt]
  dsimp only
  rw[wi64 (n:=(Sp.hbs m k:Int)+(i:Int)) (by omega) (by omega),wi64 (n:=(Sp.hbs m k:Int)+(i:Int)+(n:Int)) (by omega) (by omega),wi64 (n:=(Sp.hbs m k:Int)+(i:Int)+(n:Int)+1) (by omega) (by omega),gd_sl3 (by omega) (by omega) (by omega),
   show(i:Int)+(n:Int)+1=((i+n+1:Nat):Int) by push_cast;rfl,show(i:Int)+(n:Int)+2=((i+n+2:Nat):Int) by push_cast;rfl,wy.1,wy.2,gd_tt,ny.1,ny.2,gd_tt,
   show((Sp.hbs m k:Int)+(i:Int)+(n:Int)+1).toNat-((Sp.hbs m k:Int)+(i:Int)).toNat=n+1 by omega,show((Sp.hbs m k:Int)+(i:Int)).toNat=Sp.hbs m k+i by omega,hwr_sub (by omega),<-hl]
  dsimp only
  have next:=ih q (i+n+2) (by omega) (by omega) (by omega) R
  cases hb:(Sp.nmb (l.getD (i+n+1) 0)).2 with
  |false=>
   rw[hb,if_neg (fun a=>Bool.noConfusion a.1)]at hR
   rw[cond_f]
   exact next hR
  |true=>
  have tl:(take (n+1) (drop i l)).length=n+1:=by rw[List.length_take,List.length_drop];omega
  have s:=rsum_pv (W32l.td hW (n+1) i) (by omega)
  rw[cond_t,s.1,s.2,gd_tt]
  dsimp only
  by_cases c5:(Sp.nmb (l.getD (i+n+1) 0)).1=Sp.smw (take (n+1) (drop i l))
  rotate_left
  ·rw[if_neg (fun a=>c5 a.2)]at hR
   rw[cond_eff c5]
   exact next hR
  have dl:(take n (drop (i+1) l)).length<=24:=by rw[List.length_take];omega
  have pt:=rput_pv ha key (data:=take n (drop (i+1) l)) (by omega) (by decide)
  rw[if_pos ⟨hb,c5⟩]at hR
  rw[cond_ett c5,tl,gd_sl3 (by omega) (by omega) (by omega),List.drop_take,List.drop_drop,show n+1-1=n from rfl,pt.1,pt.2,gd_tt]
  have r:=lg1 hw hv hp hk l hl f q (i+n+2) (Sp.putE [] key (take n (drop (i+1) l))) (ha.put key _) (by have:=putE_len [] key (take n (drop (i+1) l));rw[List.length_nil]at this;omega) (by omega) (by omega) (by omega) R hR
  refine⟨.inr ?_,r.2⟩
  refine(congrArg (fun z=>B_99_0_1 z _ _) r.1).trans ?_
  split<;>rfl
theorem blk_s{l:List Int}{j:Nat}(h:j<l.length):Sp.blk l j=((l.getD j 0==4294967295)&&Sp.blk l (j+1)):=by
 unfold Sp.blk
 have dr:l.drop j=l.getD j 0::l.drop (j+1):=by
  rw[List.drop_eq_getElem_cons h,List.getD_eq_getElem?_getD,List.getElem?_eq_getElem h];rfl
 rw[dr,List.all_cons]
theorem blk_e{l:List Int}{j:Nat}(h:l.length<=j):Sp.blk l j=true:=by
 unfold Sp.blk
 rw[List.drop_of_length_le h];rfl
theorem tb0{m:MeT}(hv:Sp.fv m.1=true)(hp:Sp.plc m=true){k:Nat}(hk:k<2)(l:List Int)(hl:l=Sp.hwr m k)(e:Int)(es:List EnT):∀(d q j:Nat),j+d=l.length->d<q->L_99_2 q k l.length e j m es=some (if Sp.blk l j=true then .e1 e es else .e0 l.length es):=by
 have b:=pl_b hv hp
 have hln:l.length=Sp.hsz m:=by rw[hl];exact hwr_len hv hp hk
 intro d
 induction d with
 |zero=>
  intro q j hj hq
  obtain⟨q,rfl⟩:∃k,q=k+1:=⟨q-1,by omega⟩
  rw[L_99_2,S_99_2,cond_dff (by omega),blk_e (by omega),if_pos rfl]
 |succ d ih=>
  intro q j hj hq
  obtain⟨q,rfl⟩:∃k,q=k+1:=⟨q-1,by omega⟩
  have wi:=rwd_pv hv hp hk (i:=j) (by omega)
  rw[<-hl]at wi
  rw[L_99_2,S_99_2,cond_dtt (by omega),wi.1,wi.2,gd_tt,blk_s (by omega)]
  by_cases c:l.getD j 0=4294967295
  ·rw[cond_nff c,beq_iff_eq.2 c,Bool.true_and,wi64 (by omega) (by omega),show(j:Int)+1=((j+1:Nat):Int) by push_cast;rfl]
   exact ih q (j+1) (by omega) (by omega)
  ·rw[cond_ntt c,beq_eq_false_iff_ne.2 c,Bool.false_and,if_neg Bool.false_ne_true]
theorem tb1{m:MeT}(hv:Sp.fv m.1=true)(hp:Sp.plc m=true){k:Nat}(hk:k<2)(l:List Int)(hl:l=Sp.hwr m k)(e:Int)(es:List EnT):∀(d q j:Nat),j+d=l.length->d<q->L_99_2_1 q k l.length es e j m=some (if Sp.blk l j=true then .e1 es e else .e0 l.length es):=by
 have b:=pl_b hv hp
 have hln:l.length=Sp.hsz m:=by rw[hl];exact hwr_len hv hp hk
 intro d
 induction d with
 |zero=>
  intro q j hj hq
  obtain⟨q,rfl⟩:∃k,q=k+1:=⟨q-1,by omega⟩
  rw[L_99_2_1,S_99_2_1,cond_dff (by omega),blk_e (by omega),if_pos rfl]
 |succ d ih=>
  intro q j hj hq
  obtain⟨q,rfl⟩:∃k,q=k+1:=⟨q-1,by omega⟩
  have wi:=rwd_pv hv hp hk (i:=j) (by omega)
  rw[<-hl]at wi
  rw[L_99_2_1,S_99_2_1,cond_dtt (by omega),wi.1,wi.2,gd_tt,blk_s (by omega)]
  by_cases c:l.getD j 0=4294967295
  ·rw[cond_nff c,beq_iff_eq.2 c,Bool.true_and,wi64 (by omega) (by omega),show(j:Int)+1=((j+1:Nat):Int) by push_cast;rfl]
   exact ih q (j+1) (by omega) (by omega)
  ·rw[cond_ntt c,beq_eq_false_iff_ne.2 c,Bool.false_and,if_neg Bool.false_ne_true]
namespace Sp
noncomputable def lgv(l:List Int):List EnT×Int×Unit:=((rdl l l.length 1 []).2,(if blk l (rdl l l.length 1 []).1=true then((rdl l l.length 1 []).1:Int)else(l.length:Int)),())
end Sp
theorem rlog_pv{m:MeT}(hw:W32f m.1)(hv:Sp.fv m.1=true)(hp:Sp.plc m=true){k:Nat}(hk:k<2):(p_99 m k=true/\v_99 m k=Sp.lgv (Sp.hwr m k))/\Asc (Sp.rdv (Sp.hwr m k)).1:=by
 have b:=pl_b hv hp
 have hln:(Sp.hwr m k).length=Sp.hsz m:=hwr_len hv hp hk
 have sz:=rsz_pv hv hp
 have rb:=rdv_b (hw.half k) (by omega) (by omega)
 generalize hl:Sp.hwr m k=l at *
 have g:=lg0 hw hv hp hk l hl.symm l.length 4611686018427387904 1 (by omega) (by omega) (by omega) _ rfl
 refine⟨pv_99 m k ?_,g.2⟩
 unfold F_99 Sp.lgv
 unfold Sp.rdv at rb
 dsimp only at rb
 generalize Sp.rdl l l.length 1 []=R at *
 obtain⟨e,es⟩:=R
 dsimp only at *
 rw[sz.1,sz.2,gd_tt]
 dsimp only
 rw[<-hln]
 rcases g.1 with⟨g1,rfl⟩|g1
 ·refine(congrArg (fun z=>B_99_0 z _ _ _ _) g1).trans ?_
  split
  ·rename_i c
   rw[blk_s c.1,beq_eq_false_iff_ne.2 c.2,Bool.false_and,if_neg Bool.false_ne_true]
   rfl
  ·have t:=tb0 hv hp hk l hl.symm (e:Nat) [] (l.length-e) 4611686018427387904 e (by omega) (by omega)
   unfold B_99_0
   dsimp only
   unfold J_99_1 S_99_1
   rw[t]
   split<;>rfl
 ·refine(congrArg (fun z=>B_99_0 z _ _ _ _) g1).trans ?_
  split
  ·rename_i c
   rw[blk_s c.1,beq_eq_false_iff_ne.2 c.2,Bool.false_and,if_neg Bool.false_ne_true]
   rfl
  ·have t:=tb1 hv hp hk l hl.symm (e:Nat) es (l.length-e) 4611686018427387904 e (by omega) (by omega)
   unfold B_99_0
   dsimp only
   unfold J_99_1_1 S_99_1_1
   rw[t]
   split<;>rfl
set_option maxRecDepth 100000
set_option maxHeartbeats 4000000
theorem u32_b{n:Int}(h:(Lit.int .u32 n).wf=true):0<=n/\n<4294967296:=by
 simp[Lit.wf,IntKind.min,IntKind.max,IntKind.signed,IntKind.bits]at h;omega
theorem swrd_pv(l:List Int)(h:l.length<=1000000):p_63 l l=true/\v_63 l l=(true,()):=by
 refine pv_63 l l ?_
 unfold F_63
 rw[cond_nff rfl]
 have t:=run0 (fun m i(_:Unit)=>L_63_0 m l l i) (n:=l.length) (fun _=>()) (r:=some .e1) (by omega) (fun m j hj=>by
  show L_63_0 (m+1) l l (j:Int)=L_63_0 m l l ((j+1:Nat):Int)
  rw[L_63_0,S_63_0,cond_dtt (by omega),gd_inB (by omega) (by omega),gd_inB (by omega) (by omega),cond_nff rfl,wi64 (by omega) (by omega)]
  push_cast
  rfl) (fun m=>by
  show L_63_0 (m+1) l l l.length=_
  rw[L_63_0,S_63_0,cond_dff (by omega)])
 exact(congrArg (fun z=>B_63_0 z _ _) t).trans rfl
theorem smem_pv(m:MeT)(h:m.1.1.length<=1000000)(h2:m.1.2.1.length<=1000000):p_23 m m=true/\v_23 m m=(true,()):=by
 refine pv_23 m m ?_
 unfold F_23
 rw[cond_nff rfl,cond_nff rfl,cond_nff rfl,cond_nff rfl]
 have t:=run0 (fun q i(_:Unit)=>L_23_0 q i m m) (n:=m.1.2.1.length) (fun _=>()) (r:=some (.e1 m m)) (by omega) (fun q j hj=>by
  show L_23_0 (q+1) (j:Int) m m=L_23_0 q ((j+1:Nat):Int) m m
  rw[L_23_0,S_23_0,cond_dtt (by omega),gd_inB (by omega) (by omega),gd_inB (by omega) (by omega),cond_nff rfl,wi64 (by omega) (by omega)]
  push_cast
  rfl) (fun q=>by
  show L_23_0 (q+1) m.1.2.1.length m m=_
  rw[L_23_0,S_23_0,cond_dff (by omega)])
 have w:=swrd_pv m.1.1 h
 refine(congrArg (fun z=>B_23_0 z _ _) t).trans ?_
 unfold B_23_0
 dsimp only
 rw[w.1,w.2,gd_tt]
theorem rpok_pv(p:PwT):p_62 p=true/\v_62 p=(Sp.pok p,()):=by
 refine pv_62 p ?_
 unfold F_62 Sp.pok
 by_cases h:p.1>=0
 ·rw[cond_dtt h,decide_eq_true (p:=0<=p.1) h,Bool.true_and]
 ·rw[cond_dff h,decide_eq_false (p:=0<=p.1) h,Bool.false_and]
theorem beq_pw(p:PwT):Ty.beq (.pair (.int .i64) (.pair (.int .u32) .unit)) p p=true:=by
 simp[Ty.beq]
namespace Sp
noncomputable def frl(m:MeT):Int:=(rdv (hwr m (acv m))).2.2.1
noncomputable def wrs(m:MeT)(key:Int)(d:List Int):List StT×Int×Unit:=if((rcd key d).length:Int)<=frl m then(pgl (rcd key d) ((hbs m (acv m):Int)+(rdv (hwr m (acv m))).2.1),0,())else cov m (putE (ent m) key d)
noncomputable def wrv(m:MeT)(key:Int)(d:List Int)(p:PwT):OuM:=if mvl m=true/\pok p=true then(if 0<=key/\key<=254/\d.length<=24 then(if(wrs m key d).2.1=0 then dov m (wrs m key d).1 p else(zM,(0,0,()),(wrs m key d).2.1,()))else(zM,(0,0,()),2,()))else(zM,(0,0,()),1,())
end Sp
theorem ent_l{m:MeT}(hw:W32f m.1)(h:Sp.mvl m=true):(Sp.ent m).length<=512:=by
 obtain⟨hv,hp,_⟩:=mvl_d h
 have l:=hwr_len hv hp (acv_lt m)
 have b:=pl_b hv hp
 have r:=rdv_b (hw.half (Sp.acv m)) (by omega) (by omega)
 have:=r.2.1
 unfold Sp.ent
 omega
theorem frl_b{m:MeT}(hw:W32f m.1)(h:Sp.mvl m=true):1<=(Sp.rdv (Sp.hwr m (Sp.acv m))).2.1/\(Sp.rdv (Sp.hwr m (Sp.acv m))).2.1<=(Sp.hsz m:Int)/\(Sp.frl m=(Sp.hsz m:Int)-(Sp.rdv (Sp.hwr m (Sp.acv m))).2.1/\Sp.blk (Sp.hwr m (Sp.acv m)) (Sp.rdl (Sp.hwr m (Sp.acv m)) (Sp.hwr m (Sp.acv m)).length 1 []).1=true\/Sp.frl m=0/\Sp.blk (Sp.hwr m (Sp.acv m)) (Sp.rdl (Sp.hwr m (Sp.acv m)) (Sp.hwr m (Sp.acv m)).length 1 []).1=false):=by
 obtain⟨hv,hp,_⟩:=mvl_d h
 have l:=hwr_len hv hp (acv_lt m)
 have b:=pl_b hv hp
 have r:=rdv_b (hw.half (Sp.acv m)) (by omega) (by omega)
 refine⟨r.2.2.1,by have:=r.2.2.2;omega,?_⟩
 unfold Sp.frl Sp.rdv
 dsimp only
 cases hb:Sp.blk (Sp.hwr m (Sp.acv m)) (Sp.rdl (Sp.hwr m (Sp.acv m)) (Sp.hwr m (Sp.acv m)).length 1 []).1
 ·rw[if_neg Bool.false_ne_true]
  exact .inr ⟨rfl,rfl⟩
 ·rw[if_pos rfl,l]
  exact .inl ⟨rfl,rfl⟩
theorem cov_sv{m:MeT}(hv:Sp.fv m.1=true)(hp:Sp.plc m=true){es:List EnT}(c:(Sp.cov m es).2.1=0):(Sp.cov m es).1=Sp.cst m es/\Sp.wor m.1 (Sp.hc m) (Sp.frs m)=false/\(∀x∈(Sp.cov m es).1,SV m.1 x)/\(Sp.cov m es).1.length<=1000000:=by
 revert c
 unfold Sp.cov
 split
 ·intro c;cases c
 split
 ·intro c;cases c
 split
 ·intro c;cases c
 ·rename_i h1 h2 h3
  intro _
  have:=cst_sv hv hp (es:=es) (by omega)
  exact⟨rfl,Bool.eq_false_iff.2 h2,this.1,this.2⟩
theorem wrs_sv{m:MeT}(hw:W32f m.1)(hm:Sp.mvl m=true){key:Int}{d:List Int}(c:(Sp.wrs m key d).2.1=0):((∀x∈(Sp.wrs m key d).1,SV m.1 x)/\(Sp.wrs m key d).1.length<=1000000)/\∀p:PwT,0<=p.1->p.1<=1099511627776->SG m.1 (Sp.dol (Sp.wrs m key d).1 (m.1,p,0,())):=by
 obtain⟨hv,hp,_⟩:=mvl_d hm
 have b:=pl_b hv hp
 have bk:=pl_k hv hp (acv_lt m)
 have fb:=frl_b hw hm
 revert c
 unfold Sp.wrs
 split
 ·rename_i h
  intro _
  have hl:((Sp.rcd key d).length:Int)<=(Sp.hsz m:Int)-(Sp.rdv (Sp.hwr m (Sp.acv m))).2.1:=by
   rcases fb.2.2 with q|q
   ·omega
   ·have:=rcd_len key d
    omega
  refine⟨⟨pgl_sv _ _ (by omega) (by omega),by rw[pgl_len];omega⟩,fun p h0 h1=> ?_⟩
  exact dol_pg _ (pgl_f _ _) (SG.init hv hw h0 h1)
 ·intro c
  have s:=cov_sv hv hp c
  refine⟨s.2.2,fun p h0 h1=> ?_⟩
  rw[s.1]
  exact cst_sg hw hv hp h0 h1 _ s.2.1
theorem wrv_pv{m:MeT}(hw:W32f m.1){key:Int}{d:List Int}(hd:W32l d)(p:PwT):p_61 m key d p=true/\v_61 m key d p=Sp.wrv m key d p:=by
 have v:=mvl_pv hw
 have pw:=pow_pv p
 refine pv_61 m key d p ?_
 unfold F_61 Sp.wrv
 rw[v.1,v.2,gd_tt]
 dsimp only
 by_cases hm:Sp.mvl m=true
 rotate_left
 ·rw[Bool.eq_false_iff.2 hm,if_neg (fun z=>Bool.noConfusion z.1)];rfl
 rw[hm,Bool.not_true,cond_f,pw.1,pw.2,gd_tt]
 dsimp only
 cases hp:Sp.pok p
 ·rw[if_neg (fun z=>Bool.noConfusion z.2)];rfl
 have hpb:0<=p.1/\p.1<=1099511627776:=by unfold Sp.pok at hp;simpa using hp
 rw[Bool.not_true,cond_f,if_pos ⟨rfl,rfl⟩]
 by_cases k0:key<0
 ·rw[cond_dtt k0,if_neg (fun z=>by omega)];rfl
 by_cases k1:key>254
 ·rw[cond_dff k0,cond_dtt k1,if_neg (fun z=>by omega)];rfl
 by_cases k2:(d.length:Int)>24
 ·rw[cond_dff k0,cond_dff k1,cond_dtt k2,if_neg (fun z=>by omega)];rfl
 obtain⟨hv,hpl,_⟩:=mvl_d hm
 have b:=pl_b hv hpl
 have bk:=pl_k hv hpl (acv_lt m)
 have fb:=frl_b hw hm
 have a:=acv_pv hw hv hpl
 have r:=read_pv hw hv hpl (acv_lt m)
 have rc:=rcd_pv (key:=key) (d:=d) (by omega) (by omega) (by omega) hd
 have rl:=rcd_len key d
 have eb:=ent_b hw hm
 have el:=ent_l hw hm
 have sv:=wrs_sv (key:=key) (d:=d) hw hm
 rw[cond_dff k0,cond_dff k1,cond_dff k2,if_pos ⟨by omega,by omega,by omega⟩,a.1,a.2,gd_tt]
 dsimp only
 rw[r.1,r.2,gd_tt,rc.1,rc.2,gd_tt]
 dsimp only
 rw[show(Sp.rdv (Sp.hwr m (Sp.acv m))).2.2.1=Sp.frl m from rfl,show(Sp.rdv (Sp.hwr m (Sp.acv m))).1=Sp.ent m from rfl]
 revert sv
 unfold Sp.wrs
 by_cases c:((Sp.rcd key d).length:Int)<=Sp.frl m
 ·intro sv
  rw[if_pos c]at sv⊢
  have sv:=sv rfl
  have ad:=adr_pv hv hpl (acv_lt m) (i:=(Sp.rdv (Sp.hwr m (Sp.acv m))).2.1) (by omega) (by omega)
  have pg:=pgl_pv (l:=Sp.rcd key d) (by omega) (a:=(Sp.hbs m (Sp.acv m):Int)+(Sp.rdv (Sp.hwr m (Sp.acv m))).2.1) (by omega) (by omega)
  have dd:=do_pv hv hw hpb.1 hpb.2 sv.1.1 sv.1.2
  rw[cond_dtt c,ad.1,ad.2,gd_tt]
  dsimp only
  rw[pg.1,pg.2,gd_tt]
  dsimp only at dd⊢
  rw[dd.1,dd.2,gd_tt,if_pos rfl]
 ·intro sv
  rw[if_neg c]at sv⊢
  have pt:=put_pv eb.1 (key:=key) (by omega) (by omega) (by omega) (data:=d) (by omega)
  have kp:=eb.1.put (key:=key) (by omega) (by omega) (data:=d) (by omega) hd
  have pl:=putE_len (Sp.ent m) key d
  have cv:=cov_pv hw hv hpl kp (by omega)
  rw[cond_dff c,pt.1,pt.2,gd_tt]
  dsimp only
  rw[cv.1,cv.2,gd_tt]
  by_cases e:(Sp.cov m (Sp.putE (Sp.ent m) key d)).2.1=0
  ·have sv:=sv e
   have dd:=do_pv hv hw hpb.1 hpb.2 sv.1.1 sv.1.2
   rw[cond_nff e,if_pos e,dd.1,dd.2,gd_tt]
  ·rw[cond_ntt e,if_neg e]
   rfl
theorem rwrs_w{m:MeT}(hw:W32f m.1)(hm:Sp.mvl m=true){key:Int}(k0:0<=key)(k1:key<=254){d:List Int}(k2:d.length<=24)(hd:W32l d):p_65 m key d=true/\v_65 m key d=Sp.wrs m key d:=by
 obtain⟨hv,hpl,hac⟩:=mvl_d hm
 have b:=pl_b hv hpl
 have bk:=pl_k hv hpl (acv_lt m)
 have fb:=frl_b hw hm
 have hln:=hwr_len hv hpl (acv_lt m)
 have a:=rac_pv hw hv hpl
 rw[show Sp.rac m=(Sp.acv m:Int) by unfold Sp.rac;rw[if_pos hac]]at a
 have lg:=rlog_pv hw hv hpl (acv_lt m)
 have rc:=rrcd_pv (key:=key) (d:=d) k0 k1 k2 hd
 have rl:=rcd_len key d
 have eb:=ent_b hw hm
 have el:=ent_l hw hm
 have sz:=rsz_pv hv hpl
 have bs:=rbs_pv hv hpl (acv_lt m)
 refine pv_65 m key d ?_
 unfold F_65 Sp.wrs
 rw[a.1,a.2,gd_tt]
 dsimp only
 rw[lg.1.1,lg.1.2,gd_tt,rc.1,rc.2,gd_tt,sz.1,sz.2,gd_tt]
 have e1:(Sp.lgv (Sp.hwr m (Sp.acv m))).1=Sp.ent m:=rfl
 have e2:(Sp.rdv (Sp.hwr m (Sp.acv m))).2.1=((Sp.rdl (Sp.hwr m (Sp.acv m)) (Sp.hwr m (Sp.acv m)).length 1 []).1:Int):=rfl
 have e3:(Sp.lgv (Sp.hwr m (Sp.acv m))).2.1=(if Sp.blk (Sp.hwr m (Sp.acv m)) (Sp.rdl (Sp.hwr m (Sp.acv m)) (Sp.hwr m (Sp.acv m)).length 1 []).1=true then(Sp.rdv (Sp.hwr m (Sp.acv m))).2.1 else((Sp.hwr m (Sp.acv m)).length:Int)):=rfl
 rw[e1,e3]
 dsimp only
 have elg:wrap .i64 ((if Sp.blk (Sp.hwr m (Sp.acv m)) (Sp.rdl (Sp.hwr m (Sp.acv m)) (Sp.hwr m (Sp.acv m)).length 1 []).1=true then(Sp.rdv (Sp.hwr m (Sp.acv m))).2.1 else((Sp.hwr m (Sp.acv m)).length:Int))+((Sp.rcd key d).length:Int))<=(Sp.hsz m:Int)↔((Sp.rcd key d).length:Int)<=Sp.frl m:=by
  rcases fb.2.2 with⟨q1,q2⟩|⟨q1,q2⟩
  ·rw[if_pos q2,wi64 (by omega) (by omega),q1];omega
  ·rw[q2,if_neg Bool.false_ne_true,wi64 (by omega) (by omega),q1];omega
 by_cases c:((Sp.rcd key d).length:Int)<=Sp.frl m
 ·have q:Sp.frl m=(Sp.hsz m:Int)-(Sp.rdv (Sp.hwr m (Sp.acv m))).2.1/\Sp.blk (Sp.hwr m (Sp.acv m)) (Sp.rdl (Sp.hwr m (Sp.acv m)) (Sp.hwr m (Sp.acv m)).length 1 []).1=true:=by
   rcases fb.2.2 with q|q
   ·exact q
   ·omega
  have ws:=rwrs_pv (l:=Sp.rcd key d) (by omega) (a:=(Sp.hbs m (Sp.acv m):Int)+(Sp.rdv (Sp.hwr m (Sp.acv m))).2.1) (by omega) (by omega)
  rw[cond_dtt (elg.2 c),if_pos c,gd_tt,bs.1,bs.2,gd_tt]
  dsimp only
  rw[if_pos q.2,wi64 (n:=(Sp.hbs m (Sp.acv m):Int)+(Sp.rdv (Sp.hwr m (Sp.acv m))).2.1) (by omega) (by omega),ws.1,ws.2,gd_tt]
 ·have el2:(Sp.rdv (Sp.hwr m (Sp.acv m))).1.length<=100000:=Nat.le_trans (show(Sp.ent m).length<=512 from el) (by decide)
  have pt:=rput_pv lg.2 key (data:=d) (by omega) el2
  have pt:p_105 (Sp.ent m) key d=true/\v_105 (Sp.ent m) key d=(Sp.putE (Sp.ent m) key d,()):=pt
  have kp:=eb.1.put (key:=key) k0 k1 (data:=d) k2 hd
  have pl:=putE_len (Sp.ent m) key d
  have cv:=rcov_pv hw hm kp (by omega)
  rw[cond_dff (fun z=>c (elg.1 z)),if_neg c,pt.1,pt.2,gd_tt]
  dsimp only
  rw[cv.1,cv.2,gd_tt]
set_option maxRecDepth 100000
set_option maxHeartbeats 4000000
namespace Sp
noncomputable def rom(m:MeT):Int:=(rdv (hwr m (acv m))).2.2.1
noncomputable def romv(m:MeT):Int×Int×Unit:=if mvl m=true then(rom m,0,())else(0,1,())
end Sp
set_option maxRecDepth 100000
set_option maxHeartbeats 4000000
theorem pgl_w{f0:FlT}:∀(ws:List Int)(a:Nat){t:RsT},SG f0 t->t.2.2.1=0->W32l ws->a+ws.length<=f0.1.length->(∀i,a<=i->i<a+ws.length->t.1.1.getD i 0=4294967295)->(Sp.dol (Sp.pgl ws a) t).2.2.1=0->
 SG f0 (Sp.dol (Sp.pgl ws a) t)/\(∀i,a<=i->i<a+ws.length->(Sp.dol (Sp.pgl ws a) t).1.1.getD i 0=ws.getD (i-a) 0)/\(∀i,i<a\/a+ws.length<=i->(Sp.dol (Sp.pgl ws a) t).1.1.getD i 0=t.1.1.getD i 0)
 |[],a,t,g,e,hw,hl,hb,h0=>⟨g,fun i h1 h2=>by rw[List.length_nil]at h2;omega,fun _ _=>rfl⟩
 |w::ws,a,t,g,e,hw,hl,hb,h0=>by
  rw[List.length_cons]at hl hb
  have hw0:=hw w (List.mem_cons_self ..)
  rw[Sp.pgl,Sp.dol,if_pos e]at h0⊢
  have es:Sp.dop t (false,(a:Int),w,())=Sp.prg t.1 a w t.2.1:=by
   unfold Sp.dop
   dsimp only
   rw[if_neg Bool.false_ne_true,Int.toNat_natCast]
  rw[es,show(a:Int)+1=((a+1:Nat):Int) by push_cast;rfl]at h0⊢
  have g2:=prg_sg g a w
  have e2:(Sp.prg t.1 a w t.2.1).2.2.1=0:=by
   rcases g2.e with z|z
   ·exact z
   ·exfalso
    rw[dol_stop _ (by rw[z];decide),z]at h0
    exact absurd h0 (by decide)
  have hf:=prg_b hw0.1 hw0.2 (by rw[g.l];omega) (hb a (Nat.le_refl _) (by omega)) e2
  have gt:∀i,(Sp.prg t.1 a w t.2.1).1.1.getD i 0=if a=i then w else t.1.1.getD i 0:=fun i=>by
   rw[hf];exact getD_set _ _ _ _ _ (by rw[g.l];omega)
  obtain⟨r1,r2,r3⟩:=pgl_w ws (a+1) g2 e2 (fun x hx=>hw x (List.mem_cons_of_mem _ hx)) (by omega) (fun i h1 h2=>by rw[gt,if_neg (by omega)];exact hb i (by omega) (by omega)) h0
  refine⟨r1,fun i h1 h2=> ?_,fun i hi=> ?_⟩
  ·rw[List.length_cons]at h2
   by_cases c:i=a
   ·rw[r3 i (by omega),gt,if_pos c.symm,c,Nat.sub_self];rfl
   ·rw[r2 i (by omega) (by omega)]
    obtain⟨d,rfl⟩:∃d,i=a+(d+1):=⟨i-a-1,by omega⟩
    rw[show a+(d+1)-(a+1)=d by omega,show a+(d+1)-a=d+1 by omega]
    rfl
  ·rw[List.length_cons]at hi
   rw[r3 i (by omega),gt,if_neg (by omega)]
theorem nmb_rcd{key:Int}{d:List Int}(h0:0<=key)(h1:key<=254)(hd:d.length<=24):Sp.nmb (Sp.prw (256*key+d.length))=(key*256+(d.length:Int),true):=by
 rw[(prw_b (n:=256*key+d.length) (by omega) (by omega)).2.2,Int.mul_comm]
theorem getD_mid(a b:List Int)(i:Nat):(a++b).getD (a.length+i) 0=b.getD i 0:=by
 rw[List.getD_eq_getElem?_getD,List.getD_eq_getElem?_getD,List.getElem?_append_right (by omega),show a.length+i-a.length=i by omega]
theorem put_end{acc:List EnT}{key:Int}(h:Asc acc)(hk:∀i,i<acc.length->(acc.getD i Sp.dE).1<key)(d:List Int):Sp.putE acc key d=acc++[(key,d,())]:=by
 have pe:Sp.plE acc key=acc.length:=by
  have:=plE_le acc key
  by_cases c:Sp.plE acc key<acc.length
  ·have a1:=(plE_at h key).2 _ (Nat.le_refl _) c
   have a2:=hk _ c
   omega
  ·omega
 have sk:skE acc key=0:=by unfold skE;rw[if_neg (fun z=>by have:=z.1;omega)]
 rw[putE_eq,sk,pe,List.take_length,Nat.add_zero,List.drop_length,List.append_nil]
theorem rdl_rcs(k:Nat):∀(post acc:List EnT)(hd:List Int)(f:Nat),Asc (acc++post)->KOK post->
 ∀l,l=hd++(Sp.rcs post++replicate k 4294967295)->post.length<f->Sp.rdl l f hd.length acc=(hd.length+(Sp.rcs post).length,acc++post)
 |[],acc,hd,f,ha,hk,l,hl,hf=>by
  obtain⟨f,rfl⟩:∃j,f=j+1:=⟨f-1,by simp at hf;omega⟩
  have hl:l=hd++replicate k 4294967295:=hl
  have:¬(hd.length<l.length/\(Sp.nmb (l.getD hd.length 0)).2=true):=fun z=>by
   rw[hl,List.length_append,List.length_replicate]at z
   have e:=getD_mid hd (replicate k 4294967295) 0
   rw[Nat.add_zero]at e
   rw[e,List.getD_eq_getElem?_getD,List.getElem?_replicate,if_pos (by omega)]at z
   exact absurd z.2 (by decide)
  rw[Sp.rdl,if_neg (fun z=>this ⟨z.1,z.2.1⟩),List.append_nil]
  rfl
 |e::post,acc,hd,f,ha,hk,l,hl,hf=>by
  obtain⟨f,rfl⟩:∃j,f=j+1:=⟨f-1,by simp at hf;omega⟩
  obtain⟨key,d,⟨⟩⟩:=e
  have hk1:=hk _ (List.mem_cons_self ..)
  dsimp only at hk1
  obtain⟨⟨k0,k1⟩,kd,kw⟩:=hk1
  have rl:=rcd_len key d
  have e0:Sp.rcs ((key,d,())::post)=Sp.rcd key d++Sp.rcs post:=by unfold Sp.rcs;rw[List.flatMap_cons]
  have hl2:l=hd++(Sp.rcd key d++(Sp.rcs post++replicate k 4294967295)):=by rw[hl,e0,List.append_assoc]
  have g:∀i,i<d.length+2->l.getD (hd.length+i) 0=(Sp.rcd key d).getD i 0:=fun i hi=>by
   rw[hl2,getD_mid,List.getD_eq_getElem?_getD,List.getD_eq_getElem?_getD,List.getElem?_append_left (by omega)]
  have ll:l.length=hd.length+(d.length+2+((Sp.rcs post).length+k)):=by
   rw[hl2,List.length_append,List.length_append,List.length_append,List.length_replicate,rl]
  have w0:l.getD hd.length 0=Sp.prw (256*key+d.length):=by
   have:=g 0 (by omega)
   rw[Nat.add_zero]at this
   rw[this];rfl
  have hD:HD l hd.length d.length key true:=⟨by rw[w0];exact nmb_rcd k0 k1 kd,by omega,k0,by omega⟩
  have dr:drop hd.length l=Sp.rcd key d++(Sp.rcs post++replicate k 4294967295):=by rw[hl2,List.drop_left]
  have tk:take (d.length+1) (drop hd.length l)=[Sp.prw (256*key+d.length)]++d:=by
   rw[dr]
   unfold Sp.rcd
   rw[List.append_assoc ([_]++d)]
   exact List.take_left' (by rw[List.length_append,List.length_singleton];omega)
  have td:take d.length (drop (hd.length+1) l)=d:=by
   rw[<-List.drop_drop,dr]
   unfold Sp.rcd
   rw[List.append_assoc,List.append_assoc,List.singleton_append,List.drop_one,List.tail_cons]
   exact List.take_left' rfl
  have w1:l.getD (hd.length+d.length+1) 0=Sp.prw (Sp.smw ([Sp.prw (256*key+d.length)]++d)):=by
   rw[Nat.add_assoc,g (d.length+1) (by omega)]
   unfold Sp.rcd
   have e:=getD_mid ([Sp.prw (256*key+d.length)]++d) [Sp.prw (Sp.smw ([Sp.prw (256*key+d.length)]++d))] 0
   rw[List.length_append,List.length_singleton,Nat.add_zero,Nat.add_comm 1]at e
   rw[e];rfl
  have sb:=smw_b ([Sp.prw (256*key+d.length)]++d) 0 (by decide) (by decide)
  have n1:Sp.nmb (Sp.prw (Sp.smw ([Sp.prw (256*key+d.length)]++d)))=(Sp.smw ([Sp.prw (256*key+d.length)]++d),true):=(prw_b (n:=Sp.smw ([Sp.prw (256*key+d.length)]++d)) sb.1 sb.2).2.2
  have ac:Asc acc:=fun i j h1 h2=>by
   have:=ha i j h1 (by rw[List.length_append];omega)
   rw[List.getD_eq_getElem?_getD,List.getD_eq_getElem?_getD,List.getElem?_append_left (by omega),List.getElem?_append_left h2,<-List.getD_eq_getElem?_getD,<-List.getD_eq_getElem?_getD]at this
   exact this
  have pe:=put_end (key:=key) ac (fun i hi=>by
   have:=ha i acc.length hi (by rw[List.length_append,List.length_cons];omega)
   rw[List.getD_eq_getElem?_getD,List.getD_eq_getElem?_getD,List.getElem?_append_left hi,List.getElem?_append_right (Nat.le_refl _),Nat.sub_self,<-List.getD_eq_getElem?_getD]at this
   exact this) d
  rw[rdl_s hD,if_pos ⟨by omega,rfl,k1,kd,by omega⟩,w1,n1,tk,if_pos ⟨rfl,rfl⟩,td,pe]
  have ih:=rdl_rcs k post (acc++[(key,d,())]) (hd++Sp.rcd key d) f (by rw[List.append_assoc];exact ha) (fun x hx=>hk x (List.mem_cons_of_mem _ hx)) l (by rw[hl2,List.append_assoc]) (by rw[List.length_cons]at hf;omega)
  rw[List.length_append,rl]at ih
  rw[show hd.length+d.length+2=hd.length+(d.length+2) by omega,ih,e0,List.length_append,rl,List.append_assoc]
  refine Prod.ext (by dsimp only;omega) rfl
theorem rcs_w:∀ {es:List EnT},KOK es->W32l (Sp.rcs es)
 |[],_=>fun x hx=>by cases hx
 |e::es,h=>fun x hx=>by
  unfold Sp.rcs at hx
  rw[List.flatMap_cons]at hx
  rcases List.mem_append.1 hx with hx|hx
  ·have he:=h e (List.mem_cons_self ..)
   unfold Sp.rcd at hx
   rcases List.mem_append.1 hx with hx|hx
   ·exact rcd_w he.1.1 he.1.2 he.2.1 he.2.2 x hx
   ·rw[List.mem_singleton.1 hx]
    have sb:=smw_b ([Sp.prw (256*e.1+e.2.1.length)]++e.2.1) 0 (by decide) (by decide)
    have:=prw_b (n:=Sp.smw ([Sp.prw (256*e.1+e.2.1.length)]++e.2.1)) sb.1 sb.2
    exact⟨this.1,this.2.1⟩
  ·exact rcs_w (fun y hy=>h y (List.mem_cons_of_mem _ hy)) x hx
theorem col_ok{m:MeT}(hw:W32f m.1)(hm:Sp.mvl m=true){es:List EnT}(hk:KOK es)(ha:Asc es)(hl:es.length<=600){p:PwT}(h0:0<=p.1)(h1:p.1<=1099511627776)(hz:1+(Sp.rcs es).length<=Sp.hsz m)(hwo:Sp.wor m.1 (Sp.hc m) (Sp.frs m)=false)(hg:Sp.gnr m (Sp.acv m)≠65535)
 (s:RsT) (hs:s=Sp.dol (Sp.cst m es) (m.1,p,0,())) (e0:s.2.2.1=0):SG m.1 s/\Sp.mvl (s.1,m.2)=true/\Sp.ent (s.1,m.2)=es/\Sp.acv (s.1,m.2)=Sp.oh m/\(Sp.rdv (Sp.hwr (s.1,m.2) (Sp.acv (s.1,m.2)))).2.2.1=(Sp.hsz m:Int)-(1+(Sp.rcs es).length):=by
 obtain⟨hv,hp,hac⟩:=mvl_d hm
 obtain⟨p1,p2,p3,p4,p5⟩:=plc_iff.1 hp
 have ob:=oh_b hv hp
 have b:=pl_b hv hp
 have v:=fv_iff.1 hv
 have bo:=pl_k hv hp ob.1
 have gb:=gnr_b hw (Sp.acv m)
 have E:=erl_b (f0:=m.1) (a:=Sp.frs m) (Sp.hc m) 0 (EB.init hv hw h0 h1 (Sp.frs m)) (by omega) (by rw[Nat.add_zero];exact hwo)
 rw[Nat.add_zero,Nat.zero_add]at E
 unfold Sp.cst at hs
 rw[List.append_assoc,dol_app,dol_app,dol_one]at hs
 generalize Sp.dol (Sp.erl (Sp.hc m) (Sp.frs m)) (m.1,p,0,())=t at E hs
 rw[show(Sp.hbs m (Sp.oh m):Int)+1=((Sp.hbs m (Sp.oh m)+1:Nat):Int) by push_cast;rfl]at hs
 generalize hu:Sp.dol (Sp.pgl (Sp.rcs es) ((Sp.hbs m (Sp.oh m)+1:Nat):Int)) t=u at hs
 have eu:u.2.2.1=0:=by
  by_cases c:u.2.2.1=0
  ·exact c
  ·rw[if_neg c]at hs
   rw[hs]at e0
   exact absurd e0 c
 have et:t.2.2.1=0:=by
  by_cases c:t.2.2.1=0
  ·exact c
  ·rw[dol_stop _ c]at hu
   rw[hu]at c
   exact absurd eu c
 have tb:=E.b et
 have W:=pgl_w (f0:=m.1) (Sp.rcs es) (Sp.hbs m (Sp.oh m)+1) E.g et (rcs_w hk) (by omega) (fun i h1 h2=>tb i (by omega) (by omega)) (by rw[hu];exact eu)
 rw[hu]at W
 obtain⟨gu,ui,uo⟩:=W
 rw[if_pos eu]at hs
 have hs:s=Sp.prg u.1 (Sp.hbs m (Sp.oh m)) (Sp.prw (Sp.gnr m (Sp.acv m)+1)) u.2.1:=by
  rw[hs]
  unfold Sp.dop
  dsimp only
  rw[if_neg Bool.false_ne_true,Int.toNat_natCast]
 have G:=prg_sg gu (Sp.hbs m (Sp.oh m)) (Sp.prw (Sp.gnr m (Sp.acv m)+1))
 rw[<-hs]at G
 have pw:=prw_b (n:=Sp.gnr m (Sp.acv m)+1) (by omega) (by omega)
 have ub:u.1.1.getD (Sp.hbs m (Sp.oh m)) 0=4294967295:=by
  rw[uo _ (by omega)]
  exact tb _ (by omega) (by omega)
 have hf:=prg_b (p:=u.2.1) pw.1 pw.2.1 (by rw[gu.l];omega) ub (by rw[<-hs];exact e0)
 rw[<-hs]at hf
 have gs:∀i,s.1.1.getD i 0=if Sp.hbs m (Sp.oh m)=i then Sp.prw (Sp.gnr m (Sp.acv m)+1)else u.1.1.getD i 0:=fun i=>by
  rw[hf];exact getD_set _ _ _ _ _ (by rw[gu.l];omega)
 have hp2:Sp.plc (s.1,m.2)=true:=plc_iff.2 ⟨p1,p2,p3,p4,(by dsimp only;rw[G.n];exact p5)⟩
 have bs:∀k,Sp.hbs (s.1,m.2) k=Sp.hbs m k:=fun _=>rfl
 have zs:Sp.hsz (s.1,m.2)=Sp.hsz m:=rfl
 have nl:=hwr_len (m:=(s.1,m.2)) G.v hp2 ob.1
 have old:Sp.hwr (s.1,m.2) (Sp.acv m)=Sp.hwr m (Sp.acv m):=by
  have l1:=hwr_len (m:=(s.1,m.2)) G.v hp2 (acv_lt m)
  have l2:=hwr_len hv hp (acv_lt m)
  refine list_ext 0 (by rw[l1,l2];rfl) (fun i hi=> ?_)
  rw[l1,zs]at hi
  have out:Sp.hbs m (Sp.acv m)+i<64*Sp.frs m\/64*(Sp.frs m+Sp.hc m)<=Sp.hbs m (Sp.acv m)+i:=by
   have ha:=acv_lt m
   have hbe:Sp.hbs m (Sp.acv m)=64*m.2.1.toNat+Sp.acv m*Sp.hsz m:=rfl
   have hbo:Sp.hbs m (Sp.oh m)=64*m.2.1.toNat+Sp.oh m*Sp.hsz m:=rfl
   have oe:Sp.oh m=1-Sp.acv m:=rfl
   match hh:Sp.acv m,ha with
   |0,_=>
    rw[hh]at oe hbe
    have o2:Sp.oh m*Sp.hsz m=Sp.hsz m:=by rw[show Sp.oh m=1 from oe,Nat.one_mul]
    left;omega
   |1,_=>
    rw[hh]at oe hbe
    have o2:Sp.oh m*Sp.hsz m=0:=by rw[show Sp.oh m=0 from oe,Nat.zero_mul]
    right;omega
  rw[<-hwr_at (m:=(s.1,m.2)) G.v hp2 (acv_lt m) hi,<-hwr_at hv hp (acv_lt m) hi,bs,gs,if_neg (by omega),uo _ (by omega)]
  exact E.o _ out
 have new:Sp.hwr (s.1,m.2) (Sp.oh m)=[Sp.prw (Sp.gnr m (Sp.acv m)+1)]++(Sp.rcs es++replicate (Sp.hsz m-(1+(Sp.rcs es).length)) 4294967295):=by
  refine list_ext 0 (by rw[nl,zs,List.length_append,List.length_append,List.length_replicate,List.length_singleton];omega) (fun i hi=> ?_)
  rw[nl,zs]at hi
  rw[<-hwr_at (m:=(s.1,m.2)) G.v hp2 ob.1 hi,bs,gs]
  cases i with
  |zero=>rw[Nat.add_zero,if_pos rfl];rfl
  |succ i=>
   rw[if_neg (by omega)]
   show _=(Sp.rcs es++replicate (Sp.hsz m-(1+(Sp.rcs es).length)) 4294967295).getD i 0
   by_cases c:i<(Sp.rcs es).length
   ·rw[ui _ (by omega) (by omega),show Sp.hbs m (Sp.oh m)+(i+1)-(Sp.hbs m (Sp.oh m)+1)=i by omega,List.getD_eq_getElem?_getD,List.getD_eq_getElem?_getD,List.getElem?_append_left c]
   ·rw[uo _ (by omega),tb _ (by omega) (by omega),List.getD_eq_getElem?_getD,List.getElem?_append_right (by omega),List.getElem?_replicate,if_pos (by omega)]
    rfl
 have gO:Sp.gnr (s.1,m.2) (Sp.oh m)=Sp.gnr m (Sp.acv m)+1:=by
  have w:(Sp.hwr (s.1,m.2) (Sp.oh m)).getD 0 0=Sp.prw (Sp.gnr m (Sp.acv m)+1):=by rw[new];rfl
  show(bif(Sp.nmb ((Sp.hwr (s.1,m.2) (Sp.oh m)).getD 0 0)).2 then(Sp.nmb ((Sp.hwr (s.1,m.2) (Sp.oh m)).getD 0 0)).1 else 0)=_
  rw[w,pw.2.2];rfl
 have gA:Sp.gnr (s.1,m.2) (Sp.acv m)=Sp.gnr m (Sp.acv m):=by unfold Sp.gnr;rw[old]
 have av:Sp.acv (s.1,m.2)=Sp.oh m/\Sp.acb (s.1,m.2)=true:=by
  have ha:=acv_lt m
  have oe:Sp.oh m=1-Sp.acv m:=rfl
  match hh:Sp.acv m,ha with
  |0,_=>
   rw[hh]at oe gO gA gb
   have oe:Sp.oh m=1:=oe
   rw[oe]at gO⊢
   unfold Sp.acv Sp.acb
   rw[gO,gA,decide_eq_true (by omega)]
   exact⟨rfl,rfl⟩
  |1,_=>
   rw[hh]at oe gO gA gb
   have oe:Sp.oh m=0:=oe
   rw[oe]at gO⊢
   unfold Sp.acv Sp.acb
   rw[gO,gA,decide_eq_false (by omega),decide_eq_true (p:=Sp.gnr m 1+1>0) (by omega)]
   exact⟨rfl,rfl⟩
 have R:=rdl_rcs (Sp.hsz m-(1+(Sp.rcs es).length)) es [] [Sp.prw (Sp.gnr m (Sp.acv m)+1)] (Sp.hwr (s.1,m.2) (Sp.oh m)).length (by rw[List.nil_append];exact ha) hk _ new (by
  rw[nl,zs]
  have:∀ {es:List EnT},2*es.length<=(Sp.rcs es).length:=by
   intro es
   induction es with
   |nil=>exact Nat.zero_le _
   |cons e es ih=>
    unfold Sp.rcs at ih⊢
    rw[List.flatMap_cons,List.length_append,rcd_len,List.length_cons]
    omega
  have:= @this es
  omega)
 rw[List.length_singleton,List.nil_append]at R
 refine⟨G,?_,?_,av.1,?_⟩
 ·unfold Sp.mvl;rw[G.v,hp2,av.2];rfl
 ·unfold Sp.ent Sp.rdv
  rw[av.1,R]
 ·unfold Sp.rdv
  rw[av.1,R]
  dsimp only
  have bk:Sp.blk (Sp.hwr (s.1,m.2) (Sp.oh m)) (1+(Sp.rcs es).length)=true:=by
   unfold Sp.blk
   rw[new,<-List.append_assoc,List.drop_left' (by rw[List.length_append,List.length_singleton]),List.all_replicate]
   split<;>rfl
  rw[bk,if_pos rfl,nl,zs]
  push_cast
  rfl
theorem prg_o{f:FlT}{k:Nat}{w:Int}{p:PwT}{i:Nat}(h:i≠k):(Sp.prg f k w p).1.1.getD i 0=f.1.getD i 0:=by
 have q:∀b,(Sp.pw f k w b).1.getD i 0=f.1.getD i 0:=fun b=>by
  unfold Sp.pw
  dsimp only
  rw[List.getD_eq_getElem?_getD,List.getElem?_set_ne (Ne.symm h),<-List.getD_eq_getElem?_getD]
 unfold Sp.prg
 split
 ·rfl
 split
 ·exact q _
 ·exact q _
theorem pgl_o:∀(ws:List Int)(a:Nat)(s:RsT)(i:Nat),i<a\/a+ws.length<=i->(Sp.dol (Sp.pgl ws a) s).1.1.getD i 0=s.1.1.getD i 0
 |[],_,_,_,_=>rfl
 |w::ws,a,s,i,h=>by
  rw[List.length_cons]at h
  rw[Sp.pgl,Sp.dol]
  split
  ·rw[show(a:Int)+1=((a+1:Nat):Int) by push_cast;rfl,pgl_o ws (a+1) _ i (by omega)]
   unfold Sp.dop
   dsimp only
   rw[if_neg Bool.false_ne_true,Int.toNat_natCast]
   exact prg_o (by omega)
  ·rfl
theorem pg_o{m:MeT}(hw:W32f m.1)(hm:Sp.mvl m=true){key:Int}{d:List Int}(h:((Sp.rcd key d).length:Int)<=Sp.frl m){p:PwT}(s:RsT)(g:SG m.1 s)(hp2:Sp.plc (s.1,m.2)=true)(hs:s=Sp.dol (Sp.pgl (Sp.rcd key d) ((Sp.hbs m (Sp.acv m):Int)+(Sp.rdv (Sp.hwr m (Sp.acv m))).2.1)) (m.1,p,0,())) :
 ∀k,k<2->∀i,i<Sp.hsz m->(i:Int)<(Sp.rdv (Sp.hwr m (Sp.acv m))).2.1\/k≠Sp.acv m\/(Sp.rdv (Sp.hwr m (Sp.acv m))).2.1+((Sp.rcd key d).length:Int)<=i->(Sp.hwr (s.1,m.2) k).getD i 0=(Sp.hwr m k).getD i 0:=by
 intro k hk i hz hi
 obtain⟨hv,hp,_⟩:=mvl_d hm
 have b:=pl_b hv hp
 have fb:=frl_b hw hm
 have rl:=rcd_len key d
 have ps:(Sp.hbs m (Sp.acv m):Int)+(Sp.rdv (Sp.hwr m (Sp.acv m))).2.1=((Sp.hbs m (Sp.acv m)+(Sp.rdv (Sp.hwr m (Sp.acv m))).2.1.toNat:Nat):Int):=by omega
 have al:=acv_lt m
 rw[<-hwr_at (m:=(s.1,m.2)) g.v hp2 hk (i:=i) hz,<-hwr_at hv hp hk (i:=i) hz,show Sp.hbs (s.1,m.2) k=Sp.hbs m k from rfl,hs,ps]
 refine pgl_o _ _ _ _ ?_
 have hbe:Sp.hbs m (Sp.acv m)=64*m.2.1.toNat+Sp.acv m*Sp.hsz m:=rfl
 have hbk:Sp.hbs m k=64*m.2.1.toNat+k*Sp.hsz m:=rfl
 have hl:((Sp.rcd key d).length:Int)<=(Sp.hsz m:Int)-(Sp.rdv (Sp.hwr m (Sp.acv m))).2.1:=by
  rcases fb.2.2 with q|q
  ·omega
  ·omega
 generalize (Sp.rdv (Sp.hwr m (Sp.acv m))).2.1=e at *
 generalize Sp.hbs m (Sp.acv m)=ba at *
 generalize Sp.hbs m k=bk at *
 generalize (Sp.rcd key d).length=n at *
 rw[hbe,hbk]
 rcases Nat.lt_or_ge k 1 with c1|c1
 ·have k0:k=0:=by omega
  subst k0
  rcases Nat.lt_or_ge (Sp.acv m) 1 with c2|c2
  ·have a0:Sp.acv m=0:=by omega
   rw[a0]at hi⊢
   rw[Nat.zero_mul]
   omega
  ·have a1:Sp.acv m=1:=by omega
   rw[a1,Nat.zero_mul,Nat.one_mul]
   omega
 ·have k1:k=1:=by omega
  subst k1
  rcases Nat.lt_or_ge (Sp.acv m) 1 with c2|c2
  ·have a0:Sp.acv m=0:=by omega
   rw[a0,Nat.zero_mul,Nat.one_mul]
   omega
  ·have a1:Sp.acv m=1:=by omega
   rw[a1]at hi⊢
   rw[Nat.one_mul]
   omega
theorem pg_g{m:MeT}(hw:W32f m.1)(hm:Sp.mvl m=true){key:Int}{d:List Int}(h:((Sp.rcd key d).length:Int)<=Sp.frl m){p:PwT}(s:RsT)(g:SG m.1 s)(hs:s=Sp.dol (Sp.pgl (Sp.rcd key d) ((Sp.hbs m (Sp.acv m):Int)+(Sp.rdv (Sp.hwr m (Sp.acv m))).2.1)) (m.1,p,0,())) :
 Sp.plc (s.1,m.2)=true/\Sp.mvl (s.1,m.2)=true/\Sp.acv (s.1,m.2)=Sp.acv m:=by
 obtain⟨hv,hp,hac⟩:=mvl_d hm
 obtain⟨p1,p2,p3,p4,p5⟩:=plc_iff.1 hp
 have b:=pl_b hv hp
 have fb:=frl_b hw hm
 have hp2:Sp.plc (s.1,m.2)=true:=plc_iff.2 ⟨p1,p2,p3,p4,(by dsimp only;rw[g.n];exact p5)⟩
 have gn:∀k,k<2->Sp.gnr (s.1,m.2) k=Sp.gnr m k:=fun k hk=>by unfold Sp.gnr;rw[pg_o hw hm h s g hp2 hs k hk 0 (by omega) (by omega)]
 refine⟨hp2,?_,?_⟩
 ·unfold Sp.mvl Sp.acb at *
  rw[gn 0 (by omega),gn 1 (by omega)]
  dsimp only
  rw[g.v,hp2,hac]
  rfl
 ·unfold Sp.acv
  rw[gn 0 (by omega),gn 1 (by omega)]
theorem wr_ok{m:MeT}(hw:W32f m.1)(hm:Sp.mvl m=true){key:Int}{d:List Int}(k0:0<=key)(k1:key<=254)(k2:d.length<=24)(hd:W32l d){p:PwT}(h0:0<=p.1)(h1:p.1<=1099511627776)(c:(Sp.wrs m key d).2.1=0)
 (s:RsT) (hs:s=Sp.dol (Sp.wrs m key d).1 (m.1,p,0,())) (e0:s.2.2.1=0):SG m.1 s/\Sp.mvl (s.1,m.2)=true:=by
 have g:=(wrs_sv hw hm c).2 p h0 h1
 rw[<-hs]at g
 refine⟨g,?_⟩
 obtain⟨hv,hp,hac⟩:=mvl_d hm
 revert c hs
 unfold Sp.wrs
 split
 ·rename_i h
  intro _ hs
  exact(pg_g hw hm h s g hs).2.1
 ·intro c hs
  have s1:=cov_sv hv hp c
  rw[s1.1]at hs
  have eb:=ent_b hw hm
  have el:=ent_l hw hm
  have kp:=eb.1.put (key:=key) (by omega) (by omega) (data:=d) (by omega) hd
  have pl:=putE_len (Sp.ent m) key d
  have ha:Asc (Sp.ent m):=(rlog_pv hw hv hp (acv_lt m)).2
  have c2:=c
  unfold Sp.cov at c2
  split at c2
  ·cases c2
  split at c2
  ·cases c2
  split at c2
  ·cases c2
  rename_i z1 z2 z3
  exact(col_ok hw hm kp (ha.put key d) (by omega) h0 h1 (by omega) s1.2.1 z3 s hs e0).2.1
abbrev CfT:=Int×Int×Int×Int×Int×Int×Bool×Int×Unit
abbrev FaT:=Int×Int×Int×Int×Int×List Int×Int×Unit
abbrev FsT:=List CfT×List FaT×Int×Bool×Unit
namespace Sp
noncomputable def inr(x l h:Int):Bool:=decide (x>=l)&&decide (x<=h)
noncomputable def cfg(c:CfT):Bool:=inr c.1 1 16777215&&(inr c.2.1 1 100&&(inr c.2.2.1 1 100&&(inr c.2.2.2.1 1 100&&(inr c.2.2.2.2.1 c.2.2.2.1 255&&(inr c.2.2.2.2.2.1 0 255&&inr c.2.2.2.2.2.2.2.1 0 8)))))
noncomputable def val(x:Int):Bool:=inr x (-1099511627776) 1099511627776
noncomputable def vals(l:List Int):Bool:=(List.range l.length).all fun j=>val (l.getD j 0)
noncomputable def bt(f:FaT)(k:Int):Bool:=andI .i64 f.1 k==k
noncomputable def kno(f:FaT):Bool:=decide (f.2.2.2.2.1>=1)&&(decide (f.2.2.1>=1)&&decide (f.2.2.2.2.2.2.1>=1))
noncomputable def unk(f:FaT):Bool:=(f.2.2.1==0)&&((f.2.2.2.1==0)&&((f.2.2.2.2.1==0)&&(f.2.2.2.2.2.2.1==0)))
noncomputable def q2(f:FaT):Bool:= !(bt f 2&&(f.2.2.2.1 !=0))
noncomputable def q1(c:CfT)(f:FaT):Bool:=(bt f 4==(f.2.2.1==2))&&(!bt f 16||(bt f 4&&c.2.2.2.2.2.2.1))
noncomputable def q0(cyc:Int)(f:FaT):Bool:= !bt f 1||((bt f 2&&bt f 8)&&(f.2.2.2.2.2.2.1==cyc))
noncomputable def rngs(c:CfT)(f:FaT)(cyc:Int):Bool:=inr f.1 0 31&&(inr f.2.1 (0-c.2.2.1) c.2.1&&(inr f.2.2.1 0 2&&(inr f.2.2.2.1 0 (c.2.2.2.2.1-1)&&(inr f.2.2.2.2.1 0 255&&inr f.2.2.2.2.2.2.1 0 cyc))))
noncomputable def frq(c:CfT)(f:FaT):Bool:=(((f.2.2.2.2.2.1.length:Int)==0)||((f.2.2.2.2.2.1.length:Int)==c.2.2.2.2.2.2.2.1))&&vals f.2.2.2.2.2.1
noncomputable def fin(c:CfT)(f:FaT):Bool:=bif bt f 2||bt f 4 then kno f&&((f.2.2.2.2.2.1.length:Int)==c.2.2.2.2.2.2.2.1)else unk f&&((f.2.2.2.2.2.1.length:Int)==0)
noncomputable def rgt(c:CfT)(f:FaT)(cyc:Int):Bool:=rngs c f cyc&&(frq c f&&((q0 cyc f&&(q1 c f&&q2 f))&&fin c f))
end Sp
theorem inr_iff{x l h:Int}:Sp.inr x l h=true↔l<=x/\x<=h:=by simp[Sp.inr]
theorem wit_ok(x l h:Int):F_84 x l h=some (Sp.inr x l h,()):=by
 unfold F_84 Sp.inr
 cases decide (x>=l)<;>rfl
theorem wit_pv(x l h:Int):p_84 x l h=true/\v_84 x l h=(Sp.inr x l h,()):=pv_84 x l h (wit_ok x l h)
theorem cfg_ok(c:CfT):F_117 c=some (Sp.cfg c,()):=by
 unfold F_117 Sp.cfg
 simp only[wit_pv,gd_tt]
 cases Sp.inr c.1 1 16777215<;>try rfl
 cases Sp.inr c.2.1 1 100<;>try rfl
 cases Sp.inr c.2.2.1 1 100<;>try rfl
 cases Sp.inr c.2.2.2.1 1 100<;>try rfl
 cases Sp.inr c.2.2.2.2.1 c.2.2.2.1 255<;>try rfl
 cases Sp.inr c.2.2.2.2.2.1 0 255<;>rfl
theorem cfg_pv(c:CfT):p_117 c=true/\v_117 c=(Sp.cfg c,()):=pv_117 c (cfg_ok c)
theorem has_pv(f:FaT)(k:Int):p_119 f k=true/\v_119 f k=(Sp.bt f k,()):=pv_119 f k rfl
theorem tab(P:Int->Bool)(h:(List.range 32).all (fun n=>P (n:Int))=true){s:Int}(h0:0<=s)(h1:s<=31):P s=true:=by
 obtain⟨n,rfl⟩:=Int.eq_ofNat_of_zero_le h0
 rw[List.all_eq_true]at h
 exact h n (by rw[List.mem_range];omega)
theorem bt_ne{s:Int}(h0:0<=s)(h1:s<=31):((Sp.andI .i64 s 1 !=0)=(Sp.andI .i64 s 1==1)/\(Sp.andI .i64 s 2 !=0)=(Sp.andI .i64 s 2==2)/\(Sp.andI .i64 s 4 !=0)=(Sp.andI .i64 s 4==4))/\((Sp.andI .i64 s 8 !=0)=(Sp.andI .i64 s 8==8)/\(Sp.andI .i64 s 16 !=0)=(Sp.andI .i64 s 16==16))/\(Sp.andI .i64 s 10==10)=((Sp.andI .i64 s 2==2)&&(Sp.andI .i64 s 8==8))/\(Sp.andI .i64 s 6 !=0)=((Sp.andI .i64 s 2==2)||(Sp.andI .i64 s 4==4)):=by
 have:=tab (fun s=>((((Sp.andI .i64 s 1 !=0)==(Sp.andI .i64 s 1==1))&&((Sp.andI .i64 s 2 !=0)==(Sp.andI .i64 s 2==2))&&((Sp.andI .i64 s 4 !=0)==(Sp.andI .i64 s 4==4))))&&((((Sp.andI .i64 s 8 !=0)==(Sp.andI .i64 s 8==8))&&((Sp.andI .i64 s 16 !=0)==(Sp.andI .i64 s 16==16))))&&((Sp.andI .i64 s 10==10)==((Sp.andI .i64 s 2==2)&&(Sp.andI .i64 s 8==8)))&&((Sp.andI .i64 s 6 !=0)==((Sp.andI .i64 s 2==2)||(Sp.andI .i64 s 4==4)))) (by decide+kernel) h0 h1
 simp only[Bool.and_eq_true,beq_iff_eq]at this
 exact⟨⟨this.1.1.1.1.1,this.1.1.1.1.2,this.1.1.1.2⟩,this.1.1.2,this.1.2,this.2⟩
set_option maxRecDepth 100000
set_option maxHeartbeats 4000000
namespace Sp
noncomputable def wi(x h:Int):Bool:=decide (x>=0)&&decide (x<=h)
noncomputable def bval(x:Int):Bool:=decide (x>= -1099511627776)&&decide (x<=1099511627776)
noncomputable def bvals(l:List Int):Bool:=(fnd (fun j=> !bval (l.getD j 0)) l.length 0).isNone
noncomputable def good(f:FaT):Bool:=wi f.1 31&&(wi f.2.2.1 2&&(wi f.2.2.2.1 254&&(wi f.2.2.2.2.1 255&&(wi f.2.2.2.2.2.2.1 1073741824&&(decide ((f.2.2.2.2.2.1.length:Int)<=8)&&bvals f.2.2.2.2.2.1)))))
noncomputable def flat:List Int->List Int
 |[]=>[]
 |v::l=>((v+1099511627776)/4294967296)::((v+1099511627776)%4294967296)::flat l
noncomputable def unflat:List Int->List Int
 |a::b::l=>(a*4294967296+b-1099511627776)::unflat l
 |_=>[]
noncomputable def hdr(f:FaT):Int:=andI .i64 f.1 22+256*f.2.2.1+65536*f.2.2.2.1+16777216*f.2.2.2.2.1
noncomputable def wpk(f:FaT):List Int:=[hdr f,f.2.2.2.2.2.2.1,(f.2.2.2.2.2.1.length:Int)]++flat f.2.2.2.2.2.1
noncomputable def xof(l:List Int):FaT:=(andI .i64 (l.getD 0 0) 255,0,andI .i64 (Int.fdiv (l.getD 0 0) 256) 255,andI .i64 (Int.fdiv (l.getD 0 0) 65536) 255,Int.fdiv (l.getD 0 0) 16777216,unflat (l.drop 3),l.getD 1 0,())
noncomputable def cond(l:List Int):Bool:= !decide ((l.length:Int)<3)&&(!decide (l.getD 2 0>8)&&(((l.length:Int)==3+2*l.getD 2 0)&&(!decide (l.getD 1 0>1073741824)&&((andnI .i64 (andI .i64 (l.getD 0 0) 255) 22==0)&&((fnd (fun j=>decide (l.getD (3+2*j) 0>512)) (l.getD 2 0).toNat 0).isNone&&good (xof l))))))
end Sp
theorem aw:F_7=some (true,()):=by kernel_rfl
theorem aw_pv:p_7=true/\v_7=(true,()):=pv_7 aw
theorem wi_pv(x h:Int):p_72 x h=true/\v_72 x h=(Sp.wi x h,()):=by
 refine pv_72 x h ?_
 unfold F_72 Sp.wi
 cases decide (x>=0)<;>rfl
theorem bval_pv(x:Int):p_75 x=true/\v_75 x=(Sp.bval x,()):=by
 refine pv_75 x ?_
 unfold F_75 Sp.bval
 cases decide (x>= -1099511627776)<;>rfl
theorem wi_iff{x h:Int}:Sp.wi x h=true↔0<=x/\x<=h:=by simp[Sp.wi]
theorem bvals_iff{l:List Int}:Sp.bvals l=true↔∀x∈l,-1099511627776<=x/\x<=1099511627776:=by
 unfold Sp.bvals
 rw[Option.isNone_iff_eq_none,fnd_none]
 constructor
 ·intro h x hx
  obtain⟨j,hj,rfl⟩:=List.getElem_of_mem hx
  have:=h j (by omega) (by omega)
  rw[getD_at 0 hj]at this
  simpa[Sp.bval]using this
 ·intro h j _ hj
  have hj:j<l.length:=by omega
  rw[getD_at 0 hj]
  have:=h l[j] (List.getElem_mem hj)
  simpa[Sp.bval]using this
theorem good_iff{f:FaT}:Sp.good f=true↔(0<=f.1/\f.1<=31)/\(0<=f.2.2.1/\f.2.2.1<=2)/\(0<=f.2.2.2.1/\f.2.2.2.1<=254)/\(0<=f.2.2.2.2.1/\f.2.2.2.2.1<=255)/\(0<=f.2.2.2.2.2.2.1/\f.2.2.2.2.2.2.1<=1073741824)/\f.2.2.2.2.2.1.length<=8/\∀x∈f.2.2.2.2.2.1,-1099511627776<=x/\x<=1099511627776:=by
 simp only[Sp.good,Bool.and_eq_true,wi_iff,decide_eq_true_eq,bvals_iff]
 constructor<;>rintro⟨a,b,c,d,e,g,h⟩<;>exact⟨a,b,c,d,e,by omega,h⟩
theorem and_mod{n:Int}(k:Nat)(hk:k<=40)(h0:0<=n)(h1:n<4611686018427387904):Sp.andI .i64 n (((2^k-1:Nat):Int))=n%((2^k:Nat):Int):=by
 obtain⟨a,rfl⟩:=Int.eq_ofNat_of_zero_le h0
 have ha:a<2^62:=by
  have:(2:Nat)^62=4611686018427387904:=by decide
  omega
 have hb:(2:Nat)^k<=2^40:=Nat.pow_le_pow_right (by decide) hk
 have hb2:(2:Nat)^40<2^62:=by decide
 rw[andI_nat 62 (by decide) ha (by omega),Nat.and_two_pow_sub_one_eq_mod,Int.natCast_emod]
theorem and_32{n:Int}(h0:0<=n)(h1:n<4611686018427387904):Sp.andI .i64 n 4294967295=n%4294967296:=and_mod 32 (by decide) h0 h1
theorem or_sum{a b:Int}(k:Nat)(hk:k<=30)(h0:0<=a)(h1:a<((2^k:Nat):Int))(h2:0<=b)(h3:b<1024):Sp.orI .i64 a (b*((2^k:Nat):Int))=a+b*((2^k:Nat):Int):=by
 obtain⟨x,rfl⟩:=Int.eq_ofNat_of_zero_le h0
 obtain⟨y,rfl⟩:=Int.eq_ofNat_of_zero_le h2
 have hb:(2:Nat)^k<=2^30:=Nat.pow_le_pow_right (by decide) hk
 have e30:(2:Nat)^30=1073741824:=by decide
 have e62:(2:Nat)^62=4611686018427387904:=by decide
 have hxy:y*2^k<=1024*1073741824:=Nat.mul_le_mul (by omega) (by omega)
 have hx:x<2^k:=by exact_mod_cast h1
 rw[<-Int.natCast_mul,orI_nat 62 (by decide) (by omega) (by omega),Nat.or_comm,or_add k hx]
 push_cast
 omega
theorem btab(P:Int->Bool)(N:Nat)(h:(List.range N).all (fun n=>P (n:Int))=true){s:Int}(h0:0<=s)(h1:s<N):P s=true:=by
 obtain⟨n,rfl⟩:=Int.eq_ofNat_of_zero_le h0
 rw[List.all_eq_true]at h
 exact h n (by rw[List.mem_range];omega)
theorem st_22{s:Int}(h0:0<=s)(h1:s<=31):0<=Sp.andI .i64 s 22/\Sp.andI .i64 s 22<=31/\Sp.andnI .i64 (Sp.andI .i64 s 22) 22=0/\Sp.andI .i64 (Sp.andI .i64 s 22) 22=Sp.andI .i64 s 22:=by
 have:=btab (fun s=>decide (0<=Sp.andI .i64 s 22/\Sp.andI .i64 s 22<=31/\Sp.andnI .i64 (Sp.andI .i64 s 22) 22=0/\Sp.andI .i64 (Sp.andI .i64 s 22) 22=Sp.andI .i64 s 22)) 32 (by decide+kernel) h0 (by omega)
 exact of_decide_eq_true this
theorem pfl_len:∀l:List Int,(Sp.flat l).length=2*l.length
 |[]=>rfl
 |_::l=>by simp only[Sp.flat,List.length_cons,pfl_len l];omega
theorem flat_app:∀a b:List Int,Sp.flat (a++b)=Sp.flat a++Sp.flat b
 |[],_=>rfl
 |v::a,b=>by simp[Sp.flat,flat_app a b]
theorem hdr_ok{f:FaT}(h:Sp.good f=true):wrap .u32 (Sp.orI .i64 (Sp.orI .i64 (Sp.orI .i64 (Sp.andI .i64 f.1 (22:Int)) (wrap .i64 (f.2.2.1*(256:Int)))) (wrap .i64 (f.2.2.2.1*(65536:Int)))) (wrap .i64 (f.2.2.2.2.1*(16777216:Int))))=Sp.hdr f:=by
 obtain⟨h1,h2,h3,h4,h5,h6,h7⟩:=good_iff.1 h
 have hs:=st_22 h1.1 h1.2
 unfold Sp.hdr
 rw[wi64 (n:=f.2.2.1*256) (by omega) (by omega),wi64 (n:=f.2.2.2.1*65536) (by omega) (by omega),wi64 (n:=f.2.2.2.2.1*16777216) (by omega) (by omega)]
 generalize Sp.andI .i64 f.1 22=s at *
 have e1:Sp.orI .i64 s (f.2.2.1*256)=s+f.2.2.1*256:=or_sum 8 (by decide) hs.1 (by omega) h2.1 (by omega)
 have e2:Sp.orI .i64 (s+f.2.2.1*256) (f.2.2.2.1*65536)=s+f.2.2.1*256+f.2.2.2.1*65536:=or_sum 16 (by decide) (by omega) (by omega) h3.1 (by omega)
 have e3:Sp.orI .i64 (s+f.2.2.1*256+f.2.2.2.1*65536) (f.2.2.2.2.1*16777216)=s+f.2.2.1*256+f.2.2.2.1*65536+f.2.2.2.2.1*16777216:=or_sum 24 (by decide) (by omega) (by omega) h4.1 (by omega)
 rw[e1,e2,e3,wu32' (by omega) (by omega)]
 omega
theorem pack_loop(fr base:List Int)(hv:∀x∈fr,-1099511627776<=x/\x<=1099511627776)(hl:fr.length<=8)(hb:base.length<=3):L_34_0 4611686018427387904 fr fr.length 0 base=some (.e0 (base++Sp.flat fr)):=by
 have h:=run0 (fun m i o=>L_34_0 m fr fr.length i o) (n:=fr.length) (fun j=>base++Sp.flat (fr.take j)) (r:=some (.e0 (base++Sp.flat fr))) (by omega) (fun m j hj=>by
  show L_34_0 (m+1) fr fr.length (j:Int) (base++Sp.flat (fr.take j))=L_34_0 m fr fr.length ((j+1:Nat):Int) (base++Sp.flat (fr.take (j+1)))
  have hlen:(base++Sp.flat (fr.take j)).length<=100:=by
   rw[List.length_append,pfl_len,List.length_take];omega
  have hx:fr.getD j 0=fr[j]:=getD_at 0 hj
  have hvj:=hv fr[j] (List.getElem_mem hj)
  rw[List.take_succ_eq_append_getElem hj,flat_app,L_34_0,S_34_0,cond_dtt (by omega),gd_inB (by omega) (by omega),Int.toNat_natCast,hx]
  generalize fr[j]=v at *
  rw[<-List.append_assoc]
  generalize base++Sp.flat (fr.take j)=o at *
  rw[gd_room (by omega) (by omega),gd_room (by rw[List.length_append,List.length_singleton];omega) (by rw[List.length_append,List.length_singleton];omega),wi64 (n:=v+1099511627776) (by omega) (by omega),wi64 (n:=(j:Int)+1) (by omega) (by omega),Int.fdiv_eq_ediv_of_nonneg _ (by decide),and_32 (by omega) (by omega),wu32' (n:=(v+1099511627776)/4294967296) (by omega) (by omega),wu32' (n:=(v+1099511627776)%4294967296) (by omega) (by omega)]
  push_cast
  simp[Sp.flat,List.append_assoc]) (fun m=>by
  show L_34_0 (m+1) fr fr.length fr.length (base++Sp.flat (fr.take fr.length))=_
  rw[L_34_0,S_34_0,cond_dff (by omega),List.take_length])
 simpa[Sp.flat]using h
theorem pack_ok(f:FaT):F_34 f=some (bif Sp.good f then(Sp.wpk f,0,())else([],1,())):=by
 cases hg:Sp.good f
 ·
  have hg2:=hg
  unfold Sp.good at hg2
  unfold F_34
  simp only[wi_pv,gd_tt]
  cases h1:Sp.wi f.1 31
  ·rfl
  cases h2:Sp.wi f.2.2.1 2
  ·rfl
  cases h3:Sp.wi f.2.2.2.1 254
  ·rfl
  cases h4:Sp.wi f.2.2.2.2.1 255
  ·rfl
  cases h5:Sp.wi f.2.2.2.2.2.2.1 1073741824
  ·rfl
  simp only[Bool.not_true,cond_f]
  by_cases h6:(f.2.2.2.2.2.1.length:Int)>8
  ·rw[cond_dtt h6]
  rw[h1,h2,h3,h4,h5,decide_eq_true (by omega)]at hg2
  simp only[Bool.true_and]at hg2
  unfold Sp.bvals at hg2
  have hf:=find0 (fun m i=>L_34_114_0_0 m f.2.2.2.2.2.1 f.2.2.2.2.2.1.length i f) (n:=f.2.2.2.2.2.1.length) (fun j=> !Sp.bval (f.2.2.2.2.2.1.getD j 0)) (ex:=fun j=>some (.e0 (j:Int) f)) (e1:=some (.e1 f)) (by omega) (fun m j hj=>by
   show L_34_114_0_0 (m+1) f.2.2.2.2.2.1 f.2.2.2.2.2.1.length j f=bif !Sp.bval (f.2.2.2.2.2.1.getD j 0)then some (.e0 (j:Int) f)else L_34_114_0_0 m f.2.2.2.2.2.1 f.2.2.2.2.2.1.length ((j+1:Nat):Int) f
   rw[L_34_114_0_0,S_34_114_0_0,cond_dtt (by omega),gd_inB (by omega) (by omega),Int.toNat_natCast,(bval_pv _).1,(bval_pv _).2,gd_tt,wi64 (by omega) (by omega)]
   push_cast
   rfl) (fun m=>by
   show L_34_114_0_0 (m+1) f.2.2.2.2.2.1 f.2.2.2.2.2.1.length f.2.2.2.2.2.1.length f=_
   rw[L_34_114_0_0,S_34_114_0_0,cond_dff (by omega)])
  rw[cond_dff h6,hf]
  cases hk:fnd (fun j=> !Sp.bval (f.2.2.2.2.2.1.getD j 0)) f.2.2.2.2.2.1.length 0 with
  |none=>rw[hk]at hg2;cases hg2
  |some k=>
   simp only[B_34_114_0_0]
   rw[cond_dtt (by omega)]
 ·obtain⟨h1,h2,h3,h4,h5,h6,h7⟩:=good_iff.1 hg
  unfold F_34
  simp only[wi_pv,gd_tt]
  rw[wi_iff.2 h1,wi_iff.2 h2,wi_iff.2 h3,wi_iff.2 h4,wi_iff.2 h5]
  simp only[Bool.not_true,cond_f]
  have hf:=run0 (fun m i(_:Unit)=>L_34_114_0_0 m f.2.2.2.2.2.1 f.2.2.2.2.2.1.length i f) (n:=f.2.2.2.2.2.1.length) (fun _=>()) (r:=some (.e1 f)) (by omega) (fun m j hj=>by
   show L_34_114_0_0 (m+1) f.2.2.2.2.2.1 f.2.2.2.2.2.1.length j f=L_34_114_0_0 m f.2.2.2.2.2.1 f.2.2.2.2.2.1.length ((j+1:Nat):Int) f
   have hvj:=h7 f.2.2.2.2.2.1[j] (List.getElem_mem hj)
   rw[L_34_114_0_0,S_34_114_0_0,cond_dtt (by omega),gd_inB (by omega) (by omega),Int.toNat_natCast,(bval_pv _).1,(bval_pv _).2,gd_tt,getD_at 0 hj,wi64 (by omega) (by omega)]
   have hv:Sp.bval f.2.2.2.2.2.1[j]=true:=by simp[Sp.bval,hvj]
   rw[hv]
   push_cast
   rfl) (fun m=>by
   show L_34_114_0_0 (m+1) f.2.2.2.2.2.1 f.2.2.2.2.2.1.length f.2.2.2.2.2.1.length f=_
   rw[L_34_114_0_0,S_34_114_0_0,cond_dff (by omega)])
  have hf':L_34_114_0_0 4611686018427387904 f.2.2.2.2.2.1 f.2.2.2.2.2.1.length 0 f=_:=hf
  rw[cond_dff (by omega),hf']
  simp only[B_34_114_0_0]
  rw[hdr_ok hg,wu32' (n:=f.2.2.2.2.2.2.1) (by omega) (by omega),wu32' (n:=(f.2.2.2.2.2.1.length:Int)) (by omega) (by omega),pack_loop _ _ h7 h6 (by simp)]
  rfl
theorem pack_pv(f:FaT):p_34 f=true/\v_34 f=(bif Sp.good f then(Sp.wpk f,0,())else([],1,())):=pv_34 f (pack_ok f)
set_option maxRecDepth 100000
set_option maxHeartbeats 4000000
theorem rpack_pv{f:FaT}(h:Sp.good f=true):p_106 f=true/\v_106 f=(Sp.wpk f,()):=by
 obtain⟨g1,g2,g3,g4,g5,g6,g7⟩:=good_iff.1 h
 have s:=st_22 g1.1 g1.2
 have e0:wrap .u32 (wrap .i64 (wrap .i64 (wrap .i64 (Sp.andI .i64 f.1 22+wrap .i64 (f.2.2.1*256))+wrap .i64 (f.2.2.2.1*65536))+wrap .i64 (f.2.2.2.2.1*16777216)))=Sp.hdr f:=by
  have s0:=s.1
  have s1:=s.2.1
  unfold Sp.hdr
  generalize Sp.andI .i64 f.1 22=a at *
  rw[wi64 (n:=f.2.2.1*256) (by omega) (by omega),wi64 (n:=f.2.2.2.1*65536) (by omega) (by omega),wi64 (n:=f.2.2.2.2.1*16777216) (by omega) (by omega),wi64 (n:=a+f.2.2.1*256) (by omega) (by omega),wi64 (n:=a+f.2.2.1*256+f.2.2.2.1*65536) (by omega) (by omega),wi64 (by omega) (by omega),wu32' (by omega) (by omega)]
  omega
 refine pv_106 f ?_
 unfold F_106 Sp.wpk
 rw[e0,wu32' (n:=f.2.2.2.2.2.2.1) (by omega) (by omega),wu32' (n:=(f.2.2.2.2.2.1.length:Int)) (by omega) (by omega)]
 have t:=run0 (fun m i acc=>L_106_0 m i f acc) (n:=f.2.2.2.2.2.1.length) (fun j=>[Sp.hdr f,f.2.2.2.2.2.2.1,(f.2.2.2.2.2.1.length:Int)]++Sp.flat (f.2.2.2.2.2.1.take j)) (r:=some (.e0 ([Sp.hdr f,f.2.2.2.2.2.2.1,(f.2.2.2.2.2.1.length:Int)]++Sp.flat f.2.2.2.2.2.1))) (by omega) (fun m j hj=>by
  show L_106_0 (m+1) (j:Int) f ([Sp.hdr f,f.2.2.2.2.2.2.1,(f.2.2.2.2.2.1.length:Int)]++Sp.flat (f.2.2.2.2.2.1.take j))=L_106_0 m ((j+1:Nat):Int) f ([Sp.hdr f,f.2.2.2.2.2.2.1,(f.2.2.2.2.2.1.length:Int)]++Sp.flat (f.2.2.2.2.2.1.take (j+1)))
  have v:=g7 _ (List.getElem_mem hj)
  rw[<-getD_at 0 hj]at v
  have fl:=pfl_len (f.2.2.2.2.2.1.take j)
  rw[List.length_take]at fl
  have ll:([Sp.hdr f,f.2.2.2.2.2.2.1,(f.2.2.2.2.2.1.length:Int)]++Sp.flat (f.2.2.2.2.2.1.take j)).length<=100:=by
   rw[List.length_append,fl];simp only[List.length_cons,List.length_nil];omega
  have tk:f.2.2.2.2.2.1.take (j+1)=f.2.2.2.2.2.1.take j++[f.2.2.2.2.2.1.getD j 0]:=by
   rw[List.take_succ_eq_append_getElem hj,getD_at 0 hj]
  rw[L_106_0,S_106_0,cond_dtt (by omega),gd_inB (by omega) (by omega),Int.toNat_natCast,gd_room (by omega) (by omega),wi64 (n:=(j:Int)+1) (by omega) (by omega),show(j:Int)+1=((j+1:Nat):Int) by push_cast;rfl,tk,flat_app]
  generalize f.2.2.2.2.2.1.getD j 0=x at *
  rw[wi64 (n:=x+1099511627776) (by omega) (by omega),Int.fdiv_eq_ediv_of_nonneg _ (by decide),Int.tmod_eq_emod_of_nonneg (by omega),wu32' (n:=(x+1099511627776)/4294967296) (by omega) (by omega),wu32' (n:=(x+1099511627776)%4294967296) (by omega) (by omega),List.append_assoc]
  rfl) (fun m=>by
  show L_106_0 (m+1) (f.2.2.2.2.2.1.length:Int) f ([Sp.hdr f,f.2.2.2.2.2.2.1,(f.2.2.2.2.2.1.length:Int)]++Sp.flat (f.2.2.2.2.2.1.take f.2.2.2.2.2.1.length))=_
  rw[L_106_0,S_106_0,cond_dff (by omega),List.take_length])
 have t:L_106_0 4611686018427387904 0 f ([Sp.hdr f,f.2.2.2.2.2.2.1,(f.2.2.2.2.2.1.length:Int)]++[])=_:=t
 rw[List.append_nil]at t
 exact(congrArg (fun z=>B_106_0 z _) t).trans rfl
noncomputable def Sp.zeroF:FaT:=(0,0,0,0,0,[],0,())
noncomputable def Sp.sto(f:FaT):Bool:=Sp.andI .i64 f.1 6 !=0
theorem sto_pv(f:FaT):p_43 f=true/\v_43 f=(Sp.sto f,()):=pv_43 f rfl
theorem rac_v{m:MeT}(h:Sp.mvl m=true):Sp.rac m=(Sp.acv m:Int):=by
 unfold Sp.rac
 rw[if_pos (mvl_d h).2.2]
theorem rent_pv{m:MeT}(hw:W32f m.1)(h:Sp.mvl m=true):p_87 m=true/\v_87 m=(Sp.ent m,()):=by
 obtain⟨hv,hp,_⟩:=mvl_d h
 have a:=rac_pv hw hv hp
 rw[rac_v h]at a
 have l:=(rlog_pv hw hv hp (acv_lt m)).1
 refine pv_87 m ?_
 unfold F_87
 rw[a.1,a.2,gd_tt]
 dsimp only
 rw[l.1,l.2,gd_tt]
 rfl
theorem rety_pv{m:MeT}(hw:W32f m.1)(h:Sp.mvl m=true){key:Int}(h0:0<=key)(h1:key<=254):p_51 m key=true/\v_51 m key=((Sp.rdk m key).1,(Sp.rdk m key).2.1==0,()):=by
 have en:=rent_pv hw h
 have eb:=ent_b hw h
 refine pv_51 m key ?_
 unfold F_51 Sp.rdk
 rw[en.1,en.2,gd_tt,if_pos h,if_neg (fun z=>by omega)]
 dsimp only
 generalize Sp.ent m=es at *
 have hf:=find0 (fun q i=>L_51_0 q key es i) (n:=es.length) (fun j=>(es.getD j Sp.dE).1==key) (ex:=fun j=>some (.e0 es (j:Int))) (e1:=some .e1) (by omega) (fun q j hj=>by
  show L_51_0 (q+1) key es (j:Int)=bif(es.getD j Sp.dE).1==key then some (.e0 es (j:Int))else L_51_0 q key es ((j+1:Nat):Int)
  rw[L_51_0,S_51_0,cond_dtt (by omega),gd_inB (by omega) (by omega),Int.toNat_natCast,gd_inB (by omega) (by omega),wi64 (by omega) (by omega)]
  push_cast
  rfl) (fun q=>by
  show L_51_0 (q+1) key es (es.length:Int)=_
  rw[L_51_0,S_51_0,cond_dff (by omega)])
 rw[show fnd (fun j=>(es.getD j Sp.dE).1==key) es.length 0=Sp.fky es key from rfl]at hf
 refine(congrArg (fun z=>B_51_0 z _ _) hf).trans ?_
 cases Sp.fky es key with
 |none=>rfl
 |some j=>
  show some ((getD es (toNat (j:Int)) _).2.1,true,())=_
  rw[Int.toNat_natCast]
  rfl
theorem rkno_pv(f:FaT):p_53 f=true/\v_53 f=(Sp.sto f,()):=pv_53 f rfl
theorem rin_ok(x l h:Int):F_55 x l h=some (Sp.inr x l h,()):=by
 unfold F_55 Sp.inr
 cases decide (x>=l)<;>rfl
theorem rin_pv(x l h:Int):p_55 x l h=true/\v_55 x l h=(Sp.inr x l h,()):=pv_55 x l h (rin_ok x l h)
theorem rcfg_ok(c:CfT):F_48 c=some (Sp.cfg c,()):=by
 unfold F_48 Sp.cfg
 simp only[rin_pv,gd_tt]
 cases Sp.inr c.1 1 16777215<;>try rfl
 cases Sp.inr c.2.1 1 100<;>try rfl
 cases Sp.inr c.2.2.1 1 100<;>try rfl
 cases Sp.inr c.2.2.2.1 1 100<;>try rfl
 cases Sp.inr c.2.2.2.2.1 c.2.2.2.1 255<;>try rfl
 cases Sp.inr c.2.2.2.2.2.1 0 255<;>rfl
theorem rcfg_pv(c:CfT):p_48 c=true/\v_48 c=(Sp.cfg c,()):=pv_48 c (rcfg_ok c)
theorem vals_ok(l:List Int)(h:l.length<4611686018427387904):F_89 l=some (Sp.vals l,()):=by
 have:=all0 (fun m i=>L_89_0 m l i) (n:=l.length) (fun j=>Sp.val (l.getD j 0)) (e0:=some .e0) (e1:=some .e1) h (fun m j hj=>by
  show L_89_0 (m+1) l j=bif Sp.val (l.getD j 0)then L_89_0 m l ((j+1:Nat):Int)else some .e0
  rw[L_89_0,S_89_0,cond_dtt (by omega),gd_inB (by omega) (by omega),(rin_pv _ _ _).1,(rin_pv _ _ _).2,gd_tt,Int.toNat_natCast,wi64 (by omega) (by omega)]
  push_cast
  show(bif !Sp.val (l.getD j 0)then _ else _)=_
  cases Sp.val (l.getD j 0)<;>rfl) (fun m=>by
  show L_89_0 (m+1) l l.length=_
  rw[L_89_0,S_89_0,cond_dff (by omega)])
 unfold F_89
 rw[this]
 unfold Sp.vals
 cases (List.range l.length).all (fun j=>Sp.val (l.getD j 0))<;>rfl
theorem vals_pv(l:List Int)(h:l.length<4611686018427387904):p_89 l=true/\v_89 l=(Sp.vals l,()):=pv_89 l (vals_ok l h)
section
variable{c:CfT}{f:FaT}{cyc:Int}
theorem rhas_pv{k:Int}(hk:k=1\/k=2\/k=4\/k=8\/k=16)(h0:0<=f.1)(h1:f.1<=31):p_90 f k=true/\v_90 f k=(Sp.bt f k,()):=by
 refine pv_90 f k ?_
 unfold F_90 Sp.bt
 have:=bt_ne h0 h1
 rcases hk with rfl|rfl|rfl|rfl|rfl<;>simp only[this]
theorem rJ3(k:Bool):J_54_3 k c f=some (bif k then(bif Sp.kno f then .e0 c f else .e1)else bif Sp.unk f then .e2 f else .e1):=by
 unfold J_54_3 S_54_3 Sp.kno Sp.unk
 cases k
 ·cases f.2.2.1==0<;>try rfl
  cases f.2.2.2.1==0<;>try rfl
  cases f.2.2.2.2.1==0<;>try rfl
  cases f.2.2.2.2.2.2.1==0<;>rfl
 ·cases decide (f.2.2.2.2.1>=1)<;>try rfl
  cases decide (f.2.2.1>=1)<;>try rfl
  cases decide (f.2.2.2.2.2.2.1>=1)<;>rfl
theorem rJ2(k:Bool)(h0:0<=f.1)(h1:f.1<=31):J_54_2 k c f=some (bif Sp.q2 f then(bif k then(bif Sp.kno f then .e1 c f else .e0)else bif Sp.unk f then .e2 f else .e0)else .e0):=by
 unfold J_54_2 S_54_2 Sp.q2
 rw[(rhas_pv (by decide) h0 h1).1,(rhas_pv (by decide) h0 h1).2,gd_tt,rJ3]
 cases Sp.bt f 2<;>cases f.2.2.2.1 !=0<;>cases k<;>cases Sp.kno f<;>cases Sp.unk f<;>rfl
theorem rJ1(k:Bool)(h0:0<=f.1)(h1:f.1<=31):J_54_1 k c f=some (bif Sp.q1 c f&&Sp.q2 f then(bif k then(bif Sp.kno f then .e1 c f else .e0)else bif Sp.unk f then .e2 f else .e0)else .e0):=by
 unfold J_54_1 S_54_1 Sp.q1
 rw[(rhas_pv (k:=4) (by decide) h0 h1).1,(rhas_pv (k:=4) (by decide) h0 h1).2,(rhas_pv (k:=16) (by decide) h0 h1).1,(rhas_pv (k:=16) (by decide) h0 h1).2,gd_tt,gd_tt,gd_tt,rJ2 k h0 h1]
 dsimp only
 cases Sp.bt f 4<;>cases f.2.2.1==2<;>cases Sp.bt f 16<;>cases c.2.2.2.2.2.2.1<;>cases Sp.q2 f<;>cases k<;>cases Sp.kno f<;>cases Sp.unk f<;>rfl
theorem rJ0(k:Bool)(h0:0<=f.1)(h1:f.1<=31):J_54_0 cyc k c f=some (bif Sp.q0 cyc f&&(Sp.q1 c f&&Sp.q2 f)then(bif k then(bif Sp.kno f then .e1 c f else .e0)else bif Sp.unk f then .e2 f else .e0)else .e0):=by
 unfold J_54_0 S_54_0 Sp.q0
 rw[(rhas_pv (k:=1) (by decide) h0 h1).1,(rhas_pv (k:=1) (by decide) h0 h1).2,(rhas_pv (k:=2) (by decide) h0 h1).1,(rhas_pv (k:=2) (by decide) h0 h1).2,(rhas_pv (k:=8) (by decide) h0 h1).1,(rhas_pv (k:=8) (by decide) h0 h1).2,gd_tt,gd_tt,gd_tt,rJ1 k h0 h1]
 dsimp only
 cases Sp.bt f 1<;>cases Sp.bt f 2<;>cases Sp.bt f 8<;>cases f.2.2.2.2.2.2.1==cyc<;>cases Sp.q1 c f<;>cases Sp.q2 f<;>cases k<;>cases Sp.kno f<;>cases Sp.unk f<;>rfl
theorem rfault_ok(hc:Sp.cfg c=true)(hfr:f.2.2.2.2.2.1.length<4611686018427387904):F_54 c f cyc=some (Sp.rgt c f cyc,()):=by
 simp only[Sp.cfg,Bool.and_eq_true,inr_iff]at hc
 unfold F_54 Sp.rgt Sp.rngs
 simp only[rin_pv,gd_tt]
 rw[wi64 (n:=0-c.2.2.1) (by omega) (by omega),wi64 (n:=c.2.2.2.2.1-1) (by omega) (by omega)]
 cases h1:Sp.inr f.1 0 31
 ·rfl
 have hb:=inr_iff.1 h1
 cases Sp.inr f.2.1 (0-c.2.2.1) c.2.1
 ·rfl
 cases Sp.inr f.2.2.1 0 2
 ·rfl
 cases Sp.inr f.2.2.2.1 0 (c.2.2.2.2.1-1)
 ·rfl
 cases Sp.inr f.2.2.2.2.1 0 255
 ·rfl
 cases Sp.inr f.2.2.2.2.2.2.1 0 cyc
 ·rfl
 simp only[Bool.not_true,cond_f,Bool.and_true,Bool.true_and]
 simp only[vals_pv _ hfr,rhas_pv (k:=2) (by decide) hb.1 hb.2,rhas_pv (k:=4) (by decide) hb.1 hb.2,gd_tt,rJ0 _ hb.1 hb.2]
 unfold Sp.frq Sp.fin
 cases e1:((f.2.2.2.2.2.1.length:Int)==c.2.2.2.2.2.2.2.1)<;>cases he:((f.2.2.2.2.2.1.length:Int)==0)<;>cases Sp.vals f.2.2.2.2.2.1<;>cases Sp.bt f 2<;>cases Sp.bt f 4<;>cases Sp.q0 cyc f&&(Sp.q1 c f&&Sp.q2 f)<;>cases Sp.kno f<;>cases Sp.unk f<;>simp only[bne,he,e1,B_54_0,Bool.not_true,Bool.not_false,cond_true,cond_false,Bool.and_true,Bool.and_false,Bool.true_and,Bool.false_and,Bool.or_true,Bool.or_false,Bool.true_or,Bool.false_or]
end
theorem fnd_all(P:Nat->Bool)(n:Nat):(fnd (fun j=> !P j) n 0=none)↔(List.range n).all P=true:=by
 rw[fnd_none,List.all_eq_true]
 constructor
 ·intro h x hx
  have:=h x (by omega) (by rw[List.mem_range]at hx;omega)
  simpa using this
 ·intro h i _ hi
  rw[h i (by rw[List.mem_range];omega)]
  rfl
namespace Sp
noncomputable def frm(c:CfT)(l:List Int):Bool:=((l.length:Int)==c.2.2.2.2.2.2.2.1)&&vals l
noncomputable def cfgs(l:List CfT):Bool:=(List.range l.length).all fun j=>cfg (l.getD j Zd1)
noncomputable def rgts(F:FsT):Bool:=(List.range F.2.1.length).all fun j=>rgt (F.1.getD j Zd1) (F.2.1.getD j Zd0) F.2.2.1
noncomputable def vf(F:FsT):Bool:=decide (F.1.length<=64)&&(cfgs F.1&&(dst (F.1.map fun c=>c.1)&&(((F.2.1.length:Int)==F.1.length)&&(inr F.2.2.1 0 1073741824&&((!F.2.2.2.1||decide (F.2.2.1>=1))&&rgts F)))))
end Sp
theorem val_pv(x:Int):p_145 x=true/\v_145 x=(Sp.val x,()):=by
 refine pv_145 x ?_
 unfold F_145
 rw[(wit_pv _ _ _).1,(wit_pv _ _ _).2,gd_tt]
 rfl
theorem frm_ok(c:CfT)(l:List Int)(h:l.length<4611686018427387904):F_118 c l=some (Sp.frm c l,()):=by
 unfold F_118 Sp.frm
 cases (l.length:Int)==c.2.2.2.2.2.2.2.1
 ·rfl
 have hf:=find0 (fun m i=>L_118_114_0_0 m l l.length i c) (n:=l.length) (fun j=> !Sp.val (l.getD j 0)) (ex:=fun j=>some (.e0 (j:Int) c)) (e1:=some (.e1 c)) h (fun m j hj=>by
  show L_118_114_0_0 (m+1) l l.length j c=bif !Sp.val (l.getD j 0)then some (.e0 (j:Int) c)else L_118_114_0_0 m l l.length ((j+1:Nat):Int) c
  rw[L_118_114_0_0,S_118_114_0_0,cond_dtt (by omega),gd_inB (by omega) (by omega),Int.toNat_natCast,(val_pv _).1,(val_pv _).2,gd_tt,wi64 (by omega) (by omega)]
  push_cast
  rfl) (fun m=>by
  show L_118_114_0_0 (m+1) l l.length l.length c=_
  rw[L_118_114_0_0,S_118_114_0_0,cond_dff (by omega)])
 rw[hf,cond_t]
 cases hk:fnd (fun j=> !Sp.val (l.getD j 0)) l.length 0 with
 |none=>
  have:Sp.vals l=true:=(fnd_all (fun j=>Sp.val (l.getD j 0)) l.length).1 hk
  rw[this]
  rfl
 |some k=>
  have:Sp.vals l=false:=by
   cases hv:Sp.vals l
   ·rfl
   ·have:=(fnd_all (fun j=>Sp.val (l.getD j 0)) l.length).2 hv
    rw[this]at hk;cases hk
  rw[this]
  simp only[B_118_114_0_0]
  rw[decide_eq_true (by omega)]
  rfl
theorem frm_pv(c:CfT)(l:List Int)(h:l.length<4611686018427387904):p_118 c l=true/\v_118 c l=(Sp.frm c l,()):=pv_118 c l (frm_ok c l h)
section
variable{c:CfT}{f:FaT}{cyc:Int}
theorem kn_pv(h0:0<=f.1)(h1:f.1<=31):p_120 f=true/\v_120 f=(Sp.bt f 2||Sp.bt f 4,()):=by
 refine pv_120 f ?_
 unfold F_120 Sp.bt
 rw[(bt_ne h0 h1).2.2.2]
theorem bt10(h0:0<=f.1)(h1:f.1<=31):Sp.bt f 10=(Sp.bt f 2&&Sp.bt f 8):=(bt_ne h0 h1).2.2.1
theorem gJ3(h0:0<=f.1)(h1:f.1<=31):J_85_3 c f=some (bif Sp.bt f 2||Sp.bt f 4 then(bif Sp.kno f then .e0 c f else .e1)else .e2 c f):=by
 unfold J_85_3 S_85_3 Sp.kno
 rw[(kn_pv h0 h1).1,(kn_pv h0 h1).2,gd_tt]
 cases Sp.bt f 2||Sp.bt f 4<;>try rfl
 cases decide (f.2.2.2.2.1>=1)<;>try rfl
 cases decide (f.2.2.1>=1)<;>try rfl
 cases decide (f.2.2.2.2.2.2.1>=1)<;>rfl
theorem gJ2(h0:0<=f.1)(h1:f.1<=31):J_85_2 c f=some (bif Sp.q2 f then(bif Sp.bt f 2||Sp.bt f 4 then(bif Sp.kno f then .e1 c f else .e0)else .e2 c f)else .e0):=by
 unfold J_85_2 S_85_2 Sp.q2
 simp only[has_pv,gd_tt,gJ3 h0 h1]
 cases Sp.bt f 2<;>cases f.2.2.2.1 !=0<;>cases Sp.bt f 4<;>cases Sp.kno f<;>rfl
theorem gJ1(h0:0<=f.1)(h1:f.1<=31):J_85_1 c f=some (bif Sp.q1 c f&&Sp.q2 f then(bif Sp.bt f 2||Sp.bt f 4 then(bif Sp.kno f then .e1 c f else .e0)else .e2 c f)else .e0):=by
 unfold J_85_1 S_85_1 Sp.q1
 simp only[has_pv,gd_tt,gJ2 h0 h1]
 cases Sp.bt f 4<;>cases f.2.2.1==2<;>cases Sp.bt f 16<;>cases c.2.2.2.2.2.2.1<;>cases Sp.q2 f<;>cases Sp.bt f 2<;>cases Sp.kno f<;>rfl
theorem gJ0(h0:0<=f.1)(h1:f.1<=31):J_85_0 cyc c f=some (bif Sp.q0 cyc f&&(Sp.q1 c f&&Sp.q2 f)then(bif Sp.bt f 2||Sp.bt f 4 then(bif Sp.kno f then .e1 c f else .e0)else bif Sp.unk f then .e2 f else .e0)else .e0):=by
 unfold J_85_0 S_85_0 Sp.q0 Sp.unk
 simp only[has_pv,gd_tt,gJ1 h0 h1,bt10 h0 h1]
 have hz:∀x y:Int,(bif !(x==y)then(some (E_85_0.e0):Option E_85_0)else none)=(bif x !=y then some (E_85_0.e0)else none):=fun _ _=>rfl
 cases e1:f.2.2.1==0<;>cases e2:f.2.2.2.1==0<;>cases e3:f.2.2.2.2.1==0<;>cases e4:f.2.2.2.2.2.2.1==0<;>cases e5:f.2.2.2.2.2.2.1==cyc<;>cases Sp.q1 c f&&Sp.q2 f<;>cases Sp.bt f 1<;>cases Sp.bt f 2<;>cases Sp.bt f 8<;>cases Sp.bt f 4<;>cases Sp.kno f<;>simp only[bne,e1,e2,e3,e4,e5,B_85_1,Bool.not_true,Bool.not_false,cond_true,cond_false,Bool.and_true,Bool.and_false,Bool.true_and,Bool.false_and,Bool.or_true,Bool.or_false,Bool.true_or,Bool.false_or]
theorem right_ok(hc:Sp.cfg c=true)(hfr:f.2.2.2.2.2.1.length<4611686018427387904):F_85 c f cyc=some (Sp.rgt c f cyc,()):=by
 simp only[Sp.cfg,Bool.and_eq_true,inr_iff]at hc
 unfold F_85 Sp.rgt Sp.rngs
 simp only[wit_pv,gd_tt]
 rw[wi64 (n:=0-c.2.2.1) (by omega) (by omega),wi64 (n:=c.2.2.2.2.1-1) (by omega) (by omega)]
 cases h1:Sp.inr f.1 0 31
 ·rfl
 have hb:=inr_iff.1 h1
 cases Sp.inr f.2.1 (0-c.2.2.1) c.2.1
 ·rfl
 cases Sp.inr f.2.2.1 0 2
 ·rfl
 cases Sp.inr f.2.2.2.1 0 (c.2.2.2.2.1-1)
 ·rfl
 cases Sp.inr f.2.2.2.2.1 0 255
 ·rfl
 cases Sp.inr f.2.2.2.2.2.2.1 0 cyc
 ·rfl
 simp only[Bool.not_true,cond_f,Bool.and_true,Bool.true_and]
 simp only[frm_pv _ _ hfr,gd_tt,gJ0 hb.1 hb.2]
 unfold Sp.frq Sp.fin Sp.frm
 by_cases hl:f.2.2.2.2.2.1=[]
 ·have hv:Sp.vals f.2.2.2.2.2.1=true:=by rw[hl];rfl
  have hz:((f.2.2.2.2.2.1.length:Int)==0)=true:=by rw[hl];rfl
  rw[cond_dff (by rw[hl];decide),hv,hz]
  cases e1:((f.2.2.2.2.2.1.length:Int)==c.2.2.2.2.2.2.2.1)<;>cases Sp.bt f 2<;>cases Sp.bt f 4<;>cases Sp.q0 cyc f&&(Sp.q1 c f&&Sp.q2 f)<;>cases Sp.kno f<;>cases Sp.unk f<;>simp only[bne,hz,e1,B_85_0,Bool.not_true,Bool.not_false,cond_true,cond_false,Bool.and_true,Bool.and_false,Bool.true_and,Bool.false_and,Bool.or_true,Bool.or_false,Bool.true_or,Bool.false_or]
 ·have hp:0<f.2.2.2.2.2.1.length:=List.length_pos_iff.2 hl
  have hz:((f.2.2.2.2.2.1.length:Int)==0)=false:=beq_eq_false_iff_ne.2 (by omega)
  rw[cond_dtt (by omega),hz]
  cases e1:((f.2.2.2.2.2.1.length:Int)==c.2.2.2.2.2.2.2.1)<;>cases Sp.vals f.2.2.2.2.2.1<;>cases Sp.bt f 2<;>cases Sp.bt f 4<;>cases Sp.q0 cyc f&&(Sp.q1 c f&&Sp.q2 f)<;>cases Sp.kno f<;>cases Sp.unk f<;>simp only[bne,hz,e1,B_85_0,Bool.not_true,Bool.not_false,cond_true,cond_false,Bool.and_true,Bool.and_false,Bool.true_and,Bool.false_and,Bool.or_true,Bool.or_false,Bool.true_or,Bool.false_or]
theorem right_pv(hc:Sp.cfg c=true)(hfr:f.2.2.2.2.2.1.length<4611686018427387904):p_85 c f cyc=true/\v_85 c f cyc=(Sp.rgt c f cyc,()):=pv_85 c f cyc (right_ok hc hfr)
end
structure Sm(F:FsT):Prop where
 l:F.2.1.length<4611686018427387904
 f:∀j,j<F.2.1.length->(F.2.1.getD j Zd0).2.2.2.2.2.1.length<4611686018427387904
theorem cfgs_at{l:List CfT}(h:Sp.cfgs l=true){j:Nat}(hj:j<l.length):Sp.cfg (l.getD j Zd1)=true:=by
 unfold Sp.cfgs at h
 rw[List.all_eq_true]at h
 exact h j (by rw[List.mem_range];exact hj)
theorem vJ0{F:FsT}(hs:Sm F)(hc:Sp.cfgs F.1=true)(hl:F.2.1.length=F.1.length):J_44_0 F=some (bif Sp.rgts F then .e1 else .e0):=by
 have:=all0 (fun m i=>L_44_1 m F.2.1 F.2.1.length i F) (n:=F.2.1.length) (fun j=>Sp.rgt (F.1.getD j Zd1) (F.2.1.getD j Zd0) F.2.2.1) (e0:=some .e0) (e1:=some .e1) hs.l (fun m j hj=>by
  show L_44_1 (m+1) F.2.1 F.2.1.length j F=bif Sp.rgt (F.1.getD j Zd1) (F.2.1.getD j Zd0) F.2.2.1 then L_44_1 m F.2.1 F.2.1.length ((j+1:Nat):Int) F else some .e0
  have hr:=right_pv (cyc:=F.2.2.1) (cfgs_at hc (j:=j) (by omega)) (hs.f j hj)
  rw[L_44_1,S_44_1,cond_dtt (by omega),gd_inB (by omega) (by omega),gd_inB (by omega) (by omega),Int.toNat_natCast,hr.1,hr.2,gd_tt,wi64 (by have:=hs.l;omega) (by have:=hs.l;omega)]
  push_cast
  cases Sp.rgt (F.1.getD j Zd1) (F.2.1.getD j Zd0) F.2.2.1<;>rfl) (fun m=>by
  show L_44_1 (m+1) F.2.1 F.2.1.length F.2.1.length F=_
  rw[L_44_1,S_44_1,cond_dff (by omega)])
 unfold J_44_0 S_44_0
 rw[this]
 unfold Sp.rgts
 cases (List.range F.2.1.length).all fun j=>Sp.rgt (F.1.getD j Zd1) (F.2.1.getD j Zd0) F.2.2.1<;>rfl
theorem vf_ok{F:FsT}(hs:Sm F):F_44 F=some (Sp.vf F,()):=by
 unfold F_44 Sp.vf
 by_cases h1:(F.1.length:Int)>64
 ·rw[cond_dtt h1,decide_eq_false (by omega)];rfl
 rw[cond_dff h1,decide_eq_true (p:=F.1.length<=64) (by omega),Bool.true_and]
 have hf:=find0 (fun m i=>L_44_116_0_0 m F.1 F.1.length i F) (n:=F.1.length) (fun j=> !Sp.cfg (F.1.getD j Zd1)) (ex:=fun j=>some (.e0 (j:Int) F)) (e1:=some (.e1 F)) (by omega) (fun m j hj=>by
  show L_44_116_0_0 (m+1) F.1 F.1.length j F=bif !Sp.cfg (F.1.getD j Zd1)then some (.e0 (j:Int) F)else L_44_116_0_0 m F.1 F.1.length ((j+1:Nat):Int) F
  rw[L_44_116_0_0,S_44_116_0_0,cond_dtt (by omega),gd_inB (by omega) (by omega),Int.toNat_natCast,(cfg_pv _).1,(cfg_pv _).2,gd_tt,wi64 (by omega) (by omega)]
  push_cast
  rfl) (fun m=>by
  show L_44_116_0_0 (m+1) F.1 F.1.length F.1.length F=_
  rw[L_44_116_0_0,S_44_116_0_0,cond_dff (by omega)])
 rw[hf]
 cases hk:fnd (fun j=> !Sp.cfg (F.1.getD j Zd1)) F.1.length 0 with
 |some k=>
  have:Sp.cfgs F.1=false:=by
   cases hv:Sp.cfgs F.1
   ·rfl
   ·have:=(fnd_all (fun j=>Sp.cfg (F.1.getD j Zd1)) F.1.length).2 hv
    rw[this]at hk;cases hk
  rw[this]
  simp only[B_44_116_0_0]
  rw[cond_dtt (by omega)]
  rfl
 |none=>
  have hc:Sp.cfgs F.1=true:=(fnd_all (fun j=>Sp.cfg (F.1.getD j Zd1)) F.1.length).1 hk
  rw[hc]
  simp only[B_44_116_0_0,Bool.true_and]
  have em:(List.map (fun(y:Ty.den CfgTy)=>Prod.fst y) F.1)=(F.1.map fun c=>c.1):=rfl
  rw[em]
  cases Sp.dst (F.1.map fun c=>c.1)
  ·rfl
  simp only[Bool.not_true,cond_f,Bool.true_and]
  by_cases hl:(F.2.1.length:Int)=(F.1.length:Int)
  rotate_left
  ·rw[cond_ntt hl,beq_eq_false_iff_ne.2 hl];rfl
  rw[cond_nff hl,beq_iff_eq.2 hl,Bool.true_and,(wit_pv _ _ _).1,(wit_pv _ _ _).2,gd_tt]
  cases Sp.inr F.2.2.1 0 1073741824
  ·rfl
  simp only[Bool.not_true,cond_f,Bool.true_and]
  rw[vJ0 hs hc (by omega)]
  cases F.2.2.2.1
  ·cases Sp.rgts F<;>rfl
  ·by_cases hy:F.2.2.1<1
   ·rw[cond_t,cond_dtt hy,decide_eq_false (by omega)]
    rfl
   ·rw[cond_t,cond_dff hy,decide_eq_true (p:=F.2.2.1>=1) (by omega)]
    cases Sp.rgts F<;>rfl
theorem vf_pv{F:FsT}(hs:Sm F):p_44 F=true/\v_44 F=(Sp.vf F,()):=pv_44 F (vf_ok hs)
set_option maxRecDepth 100000
set_option maxHeartbeats 4000000
namespace Sp
noncomputable def codesL(l:List CfT):List Int:=l.map fun c=>c.1
noncomputable def rcc(l:List CfT):Int:=bif decide (l.length<=64)then(bif cfgs l then(bif dst (codesL l)then 0 else 8)else 1)else 5
noncomputable def newF(l:List CfT):FsT×Int×Unit:=bif rcc l==0 then((l,replicate l.length Zd0,0,false,()),0,())else(([],[],0,false,()),rcc l,())
end Sp
theorem codesL_at(l:List CfT){j:Nat}(h:j<l.length):(Sp.codesL l).getD j 0=(l.getD j Zd1).1:=by
 unfold Sp.codesL
 rw[getD_at _ h,getD_at 0 (by simpa using h),List.getElem_map]
set_option maxRecDepth 100000
set_option maxHeartbeats 4000000
theorem dst_all(l:List Int):Sp.dst l=(List.range l.length).all fun i=>(List.range i).all fun k=> !(l.getD k 0==l.getD i 0):=by
 rw[Bool.eq_iff_iff,Sp.dst_nodup,List.Nodup,List.pairwise_iff_getElem]
 simp only[List.all_eq_true,List.mem_range,Bool.not_eq_true',beq_eq_false_iff_ne]
 constructor
 ·intro h i hi k hk
  rw[getD_at 0 (show k<l.length by omega),getD_at 0 hi]
  exact h k i (by omega) hi hk
 ·intro h i j hi hj hij
  have:=h j hj i hij
  rwa [getD_at 0 hi,getD_at 0 hj]at this
theorem rcc_ok(l:List CfT):F_12 l=some (Sp.rcc l,()):=by
 unfold F_12 Sp.rcc
 by_cases h1:(l.length:Int)>64
 ·rw[cond_dtt h1,decide_eq_false (by omega)];rfl
 rw[cond_dff h1,decide_eq_true (p:=l.length<=64) (by omega),cond_t]
 have ha:=all0 (fun m i=>L_12_0 m l i) (n:=l.length) (fun j=>Sp.cfg (l.getD j Zd1)) (e0:=some .e0) (e1:=some (.e1 l)) (by omega) (fun m j hj=>by
  show L_12_0 (m+1) l j=bif Sp.cfg (l.getD j Zd1)then L_12_0 m l ((j+1:Nat):Int)else some .e0
  rw[L_12_0,S_12_0,cond_dtt (by omega),gd_inB (by omega) (by omega),Int.toNat_natCast,(rcfg_pv _).1,(rcfg_pv _).2,gd_tt,wi64 (by omega) (by omega)]
  push_cast
  cases Sp.cfg (l.getD j Zd1)<;>rfl) (fun m=>by
  show L_12_0 (m+1) l l.length=_
  rw[L_12_0,S_12_0,cond_dff (by omega)])
 rw[ha]
 have ec:(List.range l.length).all (fun j=>Sp.cfg (l.getD j Zd1))=Sp.cfgs l:=rfl
 rw[ec]
 cases Sp.cfgs l
 ·rfl
 simp only[cond_t,B_12_0]
 have hin:∀i,i<l.length->L_12_2 4611686018427387904 l (i:Int) 0=bif(List.range i).all (fun k=> !((l.getD k Zd1).1==(l.getD i Zd1).1))then some (.e1 l i)else some .e0:=by
  intro i hi
  exact all0 (fun m k=>L_12_2 m l (i:Int) k) (n:=i) (fun k=> !((l.getD k Zd1).1==(l.getD i Zd1).1)) (e0:=some .e0) (e1:=some (.e1 l i)) (by omega) (fun m k hk=>by
   show L_12_2 (m+1) l (i:Int) (k:Int)=bif !((l.getD k Zd1).1==(l.getD i Zd1).1)then L_12_2 m l (i:Int) ((k+1:Nat):Int)else some .e0
   rw[L_12_2,S_12_2,cond_dtt (by omega),gd_inB (by omega) (by omega),gd_inB (by omega) (by omega),Int.toNat_natCast,Int.toNat_natCast,wi64 (by omega) (by omega)]
   push_cast
   cases (l.getD k Zd1).1==(l.getD i Zd1).1<;>rfl) (fun m=>by
   show L_12_2 (m+1) l (i:Int) (i:Int)=_
   rw[L_12_2,S_12_2,cond_dff (by omega)])
 have ho:=all0 (fun m i=>L_12_1 m l i) (n:=l.length) (fun i=>(List.range i).all (fun k=> !((l.getD k Zd1).1==(l.getD i Zd1).1))) (e0:=some .e0) (e1:=some .e1) (by omega) (fun m i hi=>by
  show L_12_1 (m+1) l i=bif(List.range i).all (fun k=> !((l.getD k Zd1).1==(l.getD i Zd1).1))then L_12_1 m l ((i+1:Nat):Int)else some .e0
  rw[L_12_1,S_12_1,cond_dtt (by omega),hin i hi]
  cases (List.range i).all (fun k=> !((l.getD k Zd1).1==(l.getD i Zd1).1))
  ·rfl
  ·simp only[cond_t,B_12_2]
   rw[wi64 (by omega) (by omega)]
   push_cast
   rfl) (fun m=>by
  show L_12_1 (m+1) l l.length=_
  rw[L_12_1,S_12_1,cond_dff (by omega)])
 rw[ho]
 have ed:(List.range l.length).all (fun i=>(List.range i).all (fun k=> !((l.getD k Zd1).1==(l.getD i Zd1).1)))=Sp.dst (Sp.codesL l):=by
  rw[dst_all,show(Sp.codesL l).length=l.length by simp[Sp.codesL],Bool.eq_iff_iff]
  simp only[List.all_eq_true,List.mem_range]
  constructor
  ·intro h i hi k hk
   rw[codesL_at l hi,codesL_at l (show k<l.length by omega)]
   exact h i hi k hk
  ·intro h i hi k hk
   have:=h i hi k hk
   rwa [codesL_at l hi,codesL_at l (show k<l.length by omega)]at this
 rw[ed]
 cases Sp.dst (Sp.codesL l)<;>rfl
theorem rcc_pv(l:List CfT):p_12 l=true/\v_12 l=(Sp.rcc l,()):=pv_12 l (rcc_ok l)
theorem rvf_ok{F:FsT}(hs:Sm F):F_16 F=some (Sp.vf F,()):=by
 unfold F_16 Sp.vf
 rw[(rcc_pv _).1,(rcc_pv _).2,gd_tt]
 unfold Sp.rcc
 dsimp only
 by_cases h1:F.1.length<=64
 rotate_left
 ·rw[decide_eq_false h1];rfl
 rw[decide_eq_true h1,cond_t,Bool.true_and]
 cases hc:Sp.cfgs F.1
 ·rfl
 rw[cond_t,Bool.true_and]
 have em:(F.1.map fun c=>c.1)=Sp.codesL F.1:=rfl
 rw[em]
 cases Sp.dst (Sp.codesL F.1)
 ·rfl
 rw[cond_t,cond_nff rfl,Bool.true_and]
 by_cases hl:(F.2.1.length:Int)=(F.1.length:Int)
 rotate_left
 ·rw[cond_ntt hl,beq_eq_false_iff_ne.2 hl];rfl
 rw[cond_nff hl,beq_iff_eq.2 hl,Bool.true_and,(rin_pv _ _ _).1,(rin_pv _ _ _).2,gd_tt]
 cases Sp.inr F.2.2.1 0 1073741824
 ·rfl
 have hJ:J_16_0 F=some (bif Sp.rgts F then .e1 else .e0):=by
  have:=all0 (fun m i=>L_16_1 m i F) (n:=F.2.1.length) (fun j=>Sp.rgt (F.1.getD j Zd1) (F.2.1.getD j Zd0) F.2.2.1) (e0:=some .e0) (e1:=some .e1) hs.l (fun m j hj=>by
   show L_16_1 (m+1) j F=bif Sp.rgt (F.1.getD j Zd1) (F.2.1.getD j Zd0) F.2.2.1 then L_16_1 m ((j+1:Nat):Int) F else some .e0
   have hr:=pv_54 _ _ _ (rfault_ok (cyc:=F.2.2.1) (cfgs_at hc (j:=j) (by omega)) (hs.f j hj))
   rw[L_16_1,S_16_1,cond_dtt (by omega),gd_inB (by omega) (by omega),gd_inB (by omega) (by omega),Int.toNat_natCast,hr.1,hr.2,gd_tt,wi64 (by have:=hs.l;omega) (by have:=hs.l;omega)]
   push_cast
   cases Sp.rgt (F.1.getD j Zd1) (F.2.1.getD j Zd0) F.2.2.1<;>rfl) (fun m=>by
   show L_16_1 (m+1) F.2.1.length F=_
   rw[L_16_1,S_16_1,cond_dff (by omega)])
  unfold J_16_0 S_16_0
  rw[this]
  unfold Sp.rgts
  cases (List.range F.2.1.length).all fun j=>Sp.rgt (F.1.getD j Zd1) (F.2.1.getD j Zd0) F.2.2.1<;>rfl
 simp only[Bool.not_true,cond_f,Bool.true_and,hJ]
 cases F.2.2.2.1
 ·cases Sp.rgts F<;>rfl
 ·by_cases hy:F.2.2.1<1
  ·rw[cond_t,cond_dtt hy,decide_eq_false (by omega)]
   rfl
  ·rw[cond_t,cond_dff hy,decide_eq_true (p:=F.2.2.1>=1) (by omega)]
   cases Sp.rgts F<;>rfl
theorem rvf_pv{F:FsT}(hs:Sm F):p_16 F=true/\v_16 F=(Sp.vf F,()):=pv_16 F (rvf_ok hs)
end Go.Ev
