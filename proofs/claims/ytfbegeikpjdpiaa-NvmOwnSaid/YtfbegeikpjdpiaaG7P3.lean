/- Helpers: functions of the program as Lean functions, and what they compute. No condition. -/
import Derived.Test.YtfbegeikpjdpiaaE7P5
import Derived.Test.YtfbegeikpjdpiaaE7P4
import Derived.Test.YtfbegeikpjdpiaaG7P0
import Derived.Test.YtfbegeikpjdpiaaG7P1
import Derived.SizedLaws
import Derived.ChangeArms
import Derived.Test.YtfbegeikpjdpiaaG7P2
set_option maxRecDepth 10000
set_option linter.unusedVariables false
set_option linter.unusedSimpArgs false
open Go.IntKind (wrap i64 i32 i16 i8 u64 u32 u16 u8)
open List (getD length take drop replicate)
open Int (toNat)
open Go.Ev.Sp
set_option linter.unusedSimpArgs false
set_option linter.unusedVariables false
namespace Go.Ev
open Go
set_option maxRecDepth 100000
set_option maxHeartbeats 4000000
abbrev FlT:=List Int×List Int×Int×Unit
abbrev PwT:=Int×Int×Unit
abbrev OpT:=Bool×Int×Int×Unit
abbrev RsT:=FlT×PwT×Int×Unit
namespace Sp
noncomputable def wb(f:FlT)(j:Nat):Bool:=decide (f.2.1.getD j 0<0)||decide (f.2.1.getD j 0>f.2.2.1)
noncomputable def fv(f:FlT):Bool:=decide (1<=f.2.1.length)&&(decide (f.2.1.length<=64)&&(decide (f.1.length=f.2.1.length*64)&&(decide (1<=f.2.2.1)&&(decide (f.2.2.1<=1000000)&&(fnd (wb f) f.2.1.length 0).isNone))))
noncomputable def pw(f:FlT)(k:Nat)(w bits:Int):FlT:=(f.1.set k (andnI .u32 (f.1.getD k 0) (andnI .u32 bits w)),f.2.1,f.2.2.1,())
noncomputable def prg(f:FlT)(k:Nat)(w:Int)(p:PwT):RsT:=if p.1=0 then(f,p,18,())else if p.1=1 then(pw f k w p.2.1,(0,p.2),18,())else(pw f k w 4294967295,(p.1-1,p.2),0,())
noncomputable def orW(ws:List Int)(o:Nat)(bits:Int)(n:Nat):List Int:=ws.mapIdx (fun i x=>if o<=i/\i<o+n then orI .u32 x bits else x)
noncomputable def ew(f:FlT)(s:Nat)(bits:Int):FlT:=(orW f.1 (s*64) bits 64,f.2.1.set s (f.2.1.getD s 0+1),f.2.2.1,())
noncomputable def ers(f:FlT)(s:Nat)(p:PwT):RsT:=if f.2.1.getD s 0=f.2.2.1 then(([],[],0,()),(0,0,()),19,())else if p.1=0 then(f,p,18,())else if p.1=1 then(ew f s p.2.1,(0,p.2),18,())else(ew f s 4294967295,(p.1-1,p.2),0,())
end Sp
theorem fv_iff{f:FlT}:Sp.fv f=true↔1<=f.2.1.length/\f.2.1.length<=64/\f.1.length=f.2.1.length*64/\1<=f.2.2.1/\f.2.2.1<=1000000/\∀j,j<f.2.1.length->0<=f.2.1.getD j 0/\f.2.1.getD j 0<=f.2.2.1:=by
 simp only[Sp.fv,Bool.and_eq_true,decide_eq_true_eq,Option.isNone_iff_eq_none,fnd_none,Sp.wb,Bool.or_eq_false_iff,decide_eq_false_iff_not]
 constructor
 ·rintro⟨a,b,c,d,e,g⟩
  refine⟨a,b,c,d,e,fun j hj=> ?_⟩
  have:=g j (by omega) (by omega)
  omega
 ·rintro⟨a,b,c,d,e,g⟩
  refine⟨a,b,c,d,e,fun j _ hj=> ?_⟩
  have:=g j (by omega)
  omega
theorem fv_ok(f:FlT):F_43 f=some (Sp.fv f,()):=by
 unfold F_43 Sp.fv
 by_cases h1:(f.2.1.length:Int)<1
 ·rw[cond_dtt h1,decide_eq_false (by omega)];rfl
 rw[cond_dff h1,decide_eq_true (p:=1<=f.2.1.length) (by omega),Bool.true_and]
 by_cases h2:(f.2.1.length:Int)>64
 ·rw[cond_dtt h2,decide_eq_false (by omega)];rfl
 rw[cond_dff h2,decide_eq_true (p:=f.2.1.length<=64) (by omega),Bool.true_and,wi64 (by omega) (by omega)]
 by_cases h3:(f.1.length:Int)=(f.2.1.length:Int)*64
 rotate_left
 ·rw[cond_ntt h3,decide_eq_false (p:=f.1.length=_) (by omega)];rfl
 rw[cond_nff h3,decide_eq_true (p:=f.1.length=_) (by omega),Bool.true_and]
 by_cases h4:f.2.2.1<1
 ·rw[cond_dtt h4,decide_eq_false (by omega)];rfl
 rw[cond_dff h4,decide_eq_true (p:=1<=f.2.2.1) (by omega),Bool.true_and]
 by_cases h5:f.2.2.1>1000000
 ·rw[cond_dtt h5,decide_eq_false (by omega)];rfl
 rw[cond_dff h5,decide_eq_true (p:=f.2.2.1<=1000000) (by omega),Bool.true_and]
 have hf:=find0 (fun m i=>L_43_92_0_0 m f.2.1 f.2.1.length i f) (n:=f.2.1.length) (Sp.wb f) (ex:=fun j=>some (.e0 (j:Int) f)) (e1:=some (.e1 f)) (by omega) (fun m j hj=>by
  show L_43_92_0_0 (m+1) f.2.1 f.2.1.length j f=bif Sp.wb f j then some (.e0 (j:Int) f)else L_43_92_0_0 m f.2.1 f.2.1.length ((j+1:Nat):Int) f
  rw[L_43_92_0_0,S_43_92_0_0,cond_dtt (by omega),gd_inB (by omega) (by omega),Int.toNat_natCast,wi64 (by omega) (by omega)]
  unfold Sp.wb
  push_cast
  grind) (fun m=>by
  show L_43_92_0_0 (m+1) f.2.1 f.2.1.length f.2.1.length f=_
  rw[L_43_92_0_0,S_43_92_0_0,cond_dff (by omega)])
 rw[hf]
 cases fnd (Sp.wb f) f.2.1.length 0 with
 |none=>rfl
 |some k=>
  simp only[B_43_92_0_0,Option.isNone]
  rw[decide_eq_true (by omega)]
  rfl
theorem fv_pv(f:FlT):p_43 f=true/\v_43 f=(Sp.fv f,()):=pv_43 f (fv_ok f)
theorem chk_pv{f:FlT}{p:PwT}{a n:Int}(h:Sp.fv f=true)(h0:0<=p.1)(h1:p.1<=1099511627776)(h2:0<=a)(h3:a<n):p_93 f p a n=true/\v_93 f p a n=(0,()):=by
 refine pv_93 f p a n ?_
 unfold F_93
 rw[(fv_pv f).1,(fv_pv f).2,gd_tt,h,Bool.not_true,cond_f,cond_dff (by omega),cond_dff (by omega),cond_dff (by omega),cond_dff (by omega)]
theorem prg_ok{f:FlT}{p:PwT}{k:Nat}{w:Int}(h:Sp.fv f=true)(h0:0<=p.1)(h1:p.1<=1099511627776)(h2:k<f.1.length):F_74 f k w p=some (Sp.prg f k w p):=by
 have hv:=fv_iff.1 h
 unfold F_74 Sp.prg Sp.pw
 rw[(chk_pv h h0 h1 (by omega) (by omega)).1,(chk_pv h h0 h1 (by omega) (by omega)).2,gd_tt,cond_nff rfl,gd_room (by omega) (by omega),gd_room (by omega) (by omega)]
 simp only[gd_inB (show(0:Int)<=(k:Int) by omega) (show(k:Int)<((f.1.length:Nat):Int) by omega),Int.toNat_natCast,Bool.and_true,gd_dec h2]
 by_cases e0:p.1=0
 ·rw[cond_ett e0,if_pos e0]
 rw[cond_eff e0,if_neg e0]
 by_cases e1:p.1=1
 ·rw[cond_ett e1,if_pos e1]
 rw[cond_eff e1,if_neg e1,wi64 (by omega) (by omega)]
theorem prg_pv{f:FlT}{p:PwT}{k:Nat}{w:Int}(h:Sp.fv f=true)(h0:0<=p.1)(h1:p.1<=1099511627776)(h2:k<f.1.length):p_74 f k w p=true/\v_74 f k w p=Sp.prg f k w p:=pv_74 f k w p (prg_ok h h0 h1 h2)
theorem getD_set{α:Type}(l:List α)(i j:Nat)(x d:α)(h:i<l.length):(l.set i x).getD j d=if i=j then x else l.getD j d:=by
 simp only[List.getD_eq_getElem?_getD,List.getElem?_set]
 split
 ·simp[h]
 ·rfl
set_option maxRecDepth 100000
set_option maxHeartbeats 4000000
abbrev MeT:=FlT×Int×Int×Unit
abbrev EnT:=Int×List Int×Unit
abbrev W32f(f:FlT):Prop:=∀x∈f.1,0<=x/\x<4294967296
theorem W32f.at{f:FlT}(h:W32f f)(k:Nat):0<=f.1.getD k 0/\f.1.getD k 0<4294967296:=by
 rw[List.getD_eq_getElem?_getD]
 cases e:f.1[k]? with
 |none=>decide
 |some x=>exact h x (List.mem_of_getElem? e)
namespace Sp
noncomputable def prw(n:Int):Int:=n*65536+(65535-n)
noncomputable def nmb(w:Int):Int×Bool:=(w/65536,prw (w/65536)==w)
noncomputable def plc(m:MeT):Bool:=decide (2<=m.2.2.1)&&(decide (m.2.2.1<=16)&&((m.2.2.1%2==0)&&(decide (0<=m.2.1)&&decide (m.2.1<=(m.1.2.1.length:Int)-m.2.2.1))))
noncomputable def hsz(m:MeT):Nat:=32*m.2.2.1.toNat
noncomputable def hbs(m:MeT)(k:Nat):Nat:=64*m.2.1.toNat+k*hsz m
noncomputable def hwr(m:MeT)(k:Nat):List Int:=take (hsz m) (drop (hbs m k) m.1.1)
noncomputable def gnr(m:MeT)(k:Nat):Int:=bif(nmb ((hwr m k).getD 0 0)).2 then(nmb ((hwr m k).getD 0 0)).1 else 0
noncomputable def acv(m:MeT):Nat:=bif decide (gnr m 1>gnr m 0)then 1 else 0
noncomputable def acb(m:MeT):Bool:=decide (gnr m 1>gnr m 0)||decide (gnr m 0>0)
noncomputable def mvl(m:MeT):Bool:=fv m.1&&(plc m&&acb m)
noncomputable def stp(s w:Int):Int:=(31*s+w/65536+7*(w%65536))%65536
noncomputable def smw(l:List Int):Int:=l.foldl stp 0
end Sp
theorem xor_n{n:Nat}(h:n<65536):Sp.andI .i64 (Sp.xorI .i64 (-1) (n:Int)) 65535=65535-(n:Int):=by
 have e0:(BitVec.ofInt 64 (-1) ^^^ BitVec.ofInt 64 (n:Int)).toNat=18446744073709551615-n:=by
  have:BitVec.ofInt 64 (-1) ^^^ BitVec.ofInt 64 (n:Int)= ~~~ BitVec.ofInt 64 (n:Int):=by
   rw[show BitVec.ofInt 64 (-1)=BitVec.allOnes 64 from rfl,BitVec.allOnes_xor]
  rw[this,BitVec.toNat_not]
  have:(BitVec.ofInt 64 (n:Int)).toNat=n:=by
   rw[BitVec.ofInt_natCast,BitVec.toNat_ofNat];omega
  omega
 have e1:Sp.xorI .i64 (-1) (n:Int)= -1-(n:Int):=by
  unfold Sp.xorI
  show wrap .i64 ((BitVec.ofInt 64 (-1) ^^^ BitVec.ofInt 64 (n:Int)).toNat:Int)=_
  rw[e0,IntKind.wrap_i64]
  omega
 rw[e1]
 unfold Sp.andI
 show wrap .i64 ((BitVec.ofInt 64 (-1-(n:Int))&&&BitVec.ofInt 64 65535).toNat:Int)=_
 have e2:(BitVec.ofInt 64 (-1-(n:Int))).toNat=18446744073709551615-n:=by
  rw[BitVec.toNat_ofInt];omega
 rw[BitVec.toNat_and,e2,show(BitVec.ofInt 64 65535).toNat=2^16-1 from rfl,Nat.and_two_pow_sub_one_eq_mod,wi64 (by omega) (by omega)]
 omega
theorem pair_pv{n:Int}(h0:0<=n)(h1:n<65536):p_50 n=true/\v_50 n=(Sp.prw n,()):=by
 refine pv_50 n ?_
 obtain⟨k,rfl⟩:=Int.eq_ofNat_of_zero_le h0
 unfold F_50 Sp.prw
 have h1':k<65536:=by omega
 rw[xor_n h1',u32_wrap_nat (by omega),show(k:Int)*65536=((k*65536:Nat):Int)from(Int.natCast_mul k 65536).symm,u32_wrap_nat (by omega),show 65535-(k:Int)=((65535-k:Nat):Int) by omega,u32_wrap_nat (by omega),orU_nat (by omega) (by omega),show k*65536=k*2^16 from rfl,or_add 16 (by omega)]
 congr 2
theorem prw_b{n:Int}(h0:0<=n)(h1:n<65536):0<=Sp.prw n/\Sp.prw n<4294967296/\Sp.nmb (Sp.prw n)=(n,true):=by
 have e:Sp.prw n/65536=n:=by unfold Sp.prw;omega
 refine⟨by unfold Sp.prw;omega,by unfold Sp.prw;omega,?_⟩
 unfold Sp.nmb
 rw[e,beq_self_eq_true]
theorem num_pv{w:Int}(h0:0<=w)(h1:w<4294967296):p_100 w=true/\v_100 w=((Sp.nmb w).1,(Sp.nmb w).2,()):=by
 refine pv_100 w ?_
 unfold F_100
 have e:Int.fdiv w 65536=w/65536:=Int.fdiv_eq_ediv_of_nonneg _ (by decide)
 rw[e,wi64 (by omega) (by omega),(pair_pv (n:=w/65536) (by omega) (by omega)).1,(pair_pv (n:=w/65536) (by omega) (by omega)).2,gd_tt]
 rfl
theorem nmb_b{w:Int}(h0:0<=w)(h1:w<4294967296):0<=(Sp.nmb w).1/\(Sp.nmb w).1<65536:=by
 unfold Sp.nmb
 dsimp only
 omega
theorem plc_pv(m:MeT)(h:m.1.2.1.length<=1000000):p_45 m=true/\v_45 m=(Sp.plc m,()):=by
 refine pv_45 m ?_
 unfold F_45 Sp.plc
 by_cases h1:2<=m.2.2.1
 rotate_left
 ·rw[cond_dff (by omega),decide_eq_false h1];rfl
 rw[cond_dtt (by omega),decide_eq_true h1,Bool.true_and]
 by_cases h2:m.2.2.1<=16
 rotate_left
 ·rw[cond_dff h2,decide_eq_false h2];rfl
 rw[cond_dtt h2,decide_eq_true h2,Bool.true_and,Int.tmod_eq_emod_of_nonneg (by omega),wi64 (by omega) (by omega)]
 by_cases h3:m.2.2.1%2=0
 rotate_left
 ·rw[cond_eff h3,beq_eq_false_iff_ne.2 h3];rfl
 rw[cond_ett h3,beq_iff_eq.2 h3,Bool.true_and]
 by_cases h4:0<=m.2.1
 ·rw[cond_dtt (by omega),decide_eq_true h4,Bool.true_and]
 ·rw[cond_dff (by omega),decide_eq_false h4];rfl
theorem plc_iff{m:MeT}:Sp.plc m=true↔2<=m.2.2.1/\m.2.2.1<=16/\m.2.2.1%2=0/\0<=m.2.1/\m.2.1<=(m.1.2.1.length:Int)-m.2.2.1:=by
 unfold Sp.plc
 simp only[Bool.and_eq_true,decide_eq_true_eq,beq_iff_eq]
theorem pl_b{m:MeT}(hv:Sp.fv m.1=true)(hp:Sp.plc m=true):64<=Sp.hsz m/\Sp.hsz m<=512/\Sp.hbs m 1+Sp.hsz m<=m.1.1.length/\Sp.hbs m 0+Sp.hsz m<=m.1.1.length/\m.1.1.length<=4096/\(Sp.hsz m:Int)=32*m.2.2.1/\(Sp.hbs m 0:Int)=64*m.2.1/\(Sp.hbs m 1:Int)=64*m.2.1+32*m.2.2.1:=by
 obtain⟨p1,p2,p3,p4,p5⟩:=plc_iff.1 hp
 have v:=fv_iff.1 hv
 unfold Sp.hbs Sp.hsz
 omega
theorem pl_k{m:MeT}(hv:Sp.fv m.1=true)(hp:Sp.plc m=true){k:Nat}(hk:k<2):Sp.hbs m k+Sp.hsz m<=m.1.1.length/\(Sp.hbs m k:Int)=64*m.2.1+(k:Int)*(32*m.2.2.1):=by
 have:=pl_b hv hp
 match k,hk with
 |0,_=>exact⟨this.2.2.2.1,by rw[this.2.2.2.2.2.2.1];simp⟩
 |1,_=>exact⟨this.2.2.1,by rw[this.2.2.2.2.2.2.2];simp⟩
theorem msz_pv{m:MeT}(hv:Sp.fv m.1=true)(hp:Sp.plc m=true):p_83 m=true/\v_83 m=((Sp.hsz m:Int),()):=by
 obtain⟨p1,p2,p3,p4,p5⟩:=plc_iff.1 hp
 have b:=pl_b hv hp
 refine pv_83 m ?_
 unfold F_83
 rw[wi64 (n:=64*m.2.2.1) (by omega) (by omega),Int.tdiv_eq_ediv_of_nonneg (by omega),wi64 (by omega) (by omega),b.2.2.2.2.2.1]
 congr 2
 omega
theorem adr_pv{m:MeT}(hv:Sp.fv m.1=true)(hp:Sp.plc m=true){k:Nat}(hk:k<2){i:Int}(h0:0<=i)(h1:i<=1000000):p_49 m k i=true/\v_49 m k i=((Sp.hbs m k:Int)+i,()):=by
 obtain⟨p1,p2,p3,p4,p5⟩:=plc_iff.1 hp
 have v:=fv_iff.1 hv
 have b:=pl_b hv hp
 have bk:=pl_k hv hp hk
 refine pv_49 m k i ?_
 unfold F_49
 have e:Int.tdiv (wrap .i64 ((k:Int)*m.2.2.1)) 2=(k:Int)*(m.2.2.1/2):=by
  match k,hk with
  |0,_=>simp;rfl
  |1,_=>rw[show((1:Nat):Int)=1 from rfl,Int.one_mul,wi64 (by omega) (by omega),Int.tdiv_eq_ediv_of_nonneg (by omega),Int.one_mul]
 have e2:0<=(k:Int)*(m.2.2.1/2)/\(k:Int)*(m.2.2.1/2)<=8/\64*((k:Int)*(m.2.2.1/2))=(k:Int)*(32*m.2.2.1):=by
  match k,hk with
  |0,_=>simp
  |1,_=>simp;omega
 rw[e,wi64 (n:=(k:Int)*(m.2.2.1/2)) (by omega) (by omega),wi64 (n:=m.2.1+(k:Int)*(m.2.2.1/2)) (by omega) (by omega),wi64 (n:=64*(m.2.1+(k:Int)*(m.2.2.1/2))) (by omega) (by omega),bk.2,wi64 (by omega) (by omega)]
 congr 2
 omega
theorem wrd_pv{m:MeT}(hv:Sp.fv m.1=true)(hp:Sp.plc m=true){k:Nat}(hk:k<2){α:Type}{K:List Int->Option α}:gd (p_49 m k 0) (gd (p_83 m) (gd (p_49 m k (v_83 m).1) (gd (sl3 (v_49 m k 0).1 (v_49 m k (v_83 m).1).1 (m.1.1.length:Int)) (K (take ((v_49 m k (v_83 m).1).1.toNat-(v_49 m k 0).1.toNat) (drop (v_49 m k 0).1.toNat m.1.1))))))=K (Sp.hwr m k):=by
 have b:=pl_b hv hp
 have bk:=pl_k hv hp hk
 have s:=msz_pv hv hp
 have a:=adr_pv hv hp hk (i:=0) (by omega) (by omega)
 have a2:=adr_pv hv hp hk (i:=(Sp.hsz m:Int)) (by omega) (by omega)
 rw[a.1,a.2,gd_tt,s.1,s.2,gd_tt]
 dsimp only
 rw[a2.1,a2.2,gd_tt]
 dsimp only
 rw[gd_sl3 (by omega) (by omega) (by omega)]
 unfold Sp.hwr
 rw[show((Sp.hbs m k:Int)+(Sp.hsz m:Int)).toNat-((Sp.hbs m k:Int)+0).toNat=Sp.hsz m by omega,show((Sp.hbs m k:Int)+0).toNat=Sp.hbs m k by omega]
theorem hwr_len{m:MeT}(hv:Sp.fv m.1=true)(hp:Sp.plc m=true){k:Nat}(hk:k<2):(Sp.hwr m k).length=Sp.hsz m:=by
 have bk:=pl_k hv hp hk
 unfold Sp.hwr
 rw[List.length_take,List.length_drop]
 omega
abbrev W32l(l:List Int):Prop:=∀x∈l,0<=x/\x<4294967296
theorem W32l.at{l:List Int}(h:W32l l)(k:Nat):0<=l.getD k 0/\l.getD k 0<4294967296:=by
 rw[List.getD_eq_getElem?_getD]
 cases e:l[k]? with
 |none=>decide
 |some x=>exact h x (List.mem_of_getElem? e)
theorem W32l.td{l:List Int}(h:W32l l)(a b:Nat):W32l (take a (drop b l)):=fun x hx=>h x (List.mem_of_mem_drop (List.mem_of_mem_take hx))
theorem W32f.half{m:MeT}(h:W32f m.1)(k:Nat):W32l (Sp.hwr m k):=W32l.td (l:=m.1.1) h _ _
theorem gnr_pv{m:MeT}(hw:W32f m.1)(hv:Sp.fv m.1=true)(hp:Sp.plc m=true){k:Nat}(hk:k<2):p_77 m k=true/\v_77 m k=(Sp.gnr m k,()):=by
 have l:=hwr_len hv hp hk
 have b:=pl_b hv hp
 have h0:=(hw.half k).at 0
 have n:=num_pv h0.1 h0.2
 refine pv_77 m k ?_
 unfold F_77 Sp.gnr
 refine(wrd_pv hv hp hk (K:=fun l=>gd (inB (0:Int) (length l)) (gd (p_100 (getD l 0 0)) (bif !(v_100 (getD l 0 0)).2.1 then some ((0:Int),())else some ((v_100 (getD l 0 0)).1,()))))).trans ?_
 rw[gd_inB (by omega) (by omega),n.1,n.2,gd_tt]
 dsimp only
 cases (Sp.nmb ((Sp.hwr m k).getD 0 0)).2<;>rfl
theorem gnr_b{m:MeT}(hw:W32f m.1)(k:Nat):0<=Sp.gnr m k/\Sp.gnr m k<65536:=by
 have h0:=(hw.half k).at 0
 have:=nmb_b h0.1 h0.2
 unfold Sp.gnr
 cases (Sp.nmb ((Sp.hwr m k).getD 0 0)).2
 ·exact⟨Int.le_refl 0,(by decide:(0:Int)<65536)⟩
 ·exact this
theorem acv_pv{m:MeT}(hw:W32f m.1)(hv:Sp.fv m.1=true)(hp:Sp.plc m=true):p_57 m=true/\v_57 m=((Sp.acv m:Int),Sp.acb m,()):=by
 have g0:=gnr_pv hw hv hp (k:=0) (by decide)
 have g1:=gnr_pv hw hv hp (k:=1) (by decide)
 refine pv_57 m ?_
 unfold F_57 Sp.acv Sp.acb
 rw[show(0:Int)=((0:Nat):Int)from rfl,show(1:Int)=((1:Nat):Int)from rfl,g0.1,g0.2,gd_tt,g1.1,g1.2,gd_tt]
 dsimp only
 cases decide (Sp.gnr m 1>Sp.gnr m 0)<;>rfl
theorem acv_lt(m:MeT):Sp.acv m<2:=by
 unfold Sp.acv
 cases decide (Sp.gnr m 1>Sp.gnr m 0)<;>decide
theorem mvl_pv{m:MeT}(hw:W32f m.1):p_26 m=true/\v_26 m=(Sp.mvl m,()):=by
 have v:=fv_pv m.1
 refine pv_26 m ?_
 unfold F_26 Sp.mvl
 rw[v.1,v.2,gd_tt]
 dsimp only
 cases hv:Sp.fv m.1
 ·rfl
 have hl:=fv_iff.1 hv
 have p:=plc_pv m (by omega)
 rw[Bool.not_true,cond_f,p.1,p.2,gd_tt]
 dsimp only
 cases hp:Sp.plc m
 ·rfl
 have a:=acv_pv hw hv hp
 rw[Bool.not_true,cond_f,a.1,a.2,gd_tt]
 rfl
theorem mvl_d{m:MeT}(h:Sp.mvl m=true):Sp.fv m.1=true/\Sp.plc m=true/\Sp.acb m=true:=by
 unfold Sp.mvl at h
 simpa only[Bool.and_eq_true]using h
theorem andU_mod{w:Int}(h0:0<=w)(h1:w<4294967296):Sp.andI .u32 w 65535=w%65536:=by
 obtain⟨k,rfl⟩:=Int.eq_ofNat_of_zero_le h0
 have e:Sp.andI .u32 (k:Int) ((65535:Nat):Int)=((k&&&65535:Nat):Int):=andU_nat (by omega) (by decide)
 rw[show(65535:Int)=((65535:Nat):Int)from rfl,e,show 65535=2^16-1 from rfl,Nat.and_two_pow_sub_one_eq_mod,Int.natCast_emod]
 rfl
theorem smw_b(l:List Int):∀s,0<=s->s<65536->0<=l.foldl Sp.stp s/\l.foldl Sp.stp s<65536:=by
 induction l with
 |nil=>intro s h0 h1;exact⟨h0,h1⟩
 |cons x l ih=>intro s h0 h1;exact ih _ (by unfold Sp.stp;omega) (by unfold Sp.stp;omega)
theorem sum_l{l:List Int}(hw:W32l l)(hl:l.length<1000000):∀(d m j:Nat)(s:Int),0<=s->s<65536->j+d=l.length->d<m->L_82_0 m s l l.length j=some (.e0 ((l.drop j).foldl Sp.stp s)):=by
 intro d
 induction d with
 |zero=>
  intro m j s _ _ hj hm
  obtain⟨m,rfl⟩:∃k,m=k+1:=⟨m-1,by omega⟩
  rw[L_82_0,S_82_0,cond_dff (by omega),List.drop_of_length_le (by omega)]
  rfl
 |succ d ih=>
  intro m j s h0 h1 hj hm
  obtain⟨m,rfl⟩:∃k,m=k+1:=⟨m-1,by omega⟩
  have hx:=hw.at j
  have e:Int.fdiv (l.getD j 0) 65536=l.getD j 0/65536:=Int.fdiv_eq_ediv_of_nonneg _ (by decide)
  have e3:l.drop j=l.getD j 0::l.drop (j+1):=by
   have hj':j<l.length:=by omega
   rw[List.drop_eq_getElem_cons hj',List.getD_eq_getElem?_getD,List.getElem?_eq_getElem hj'];rfl
  have r:=ih m (j+1) (Sp.stp s (l.getD j 0)) (by unfold Sp.stp;omega) (by unfold Sp.stp;omega) (by omega) (by omega)
  rw[L_82_0,S_82_0,cond_dtt (by omega),gd_inB (by omega) (by omega),Int.toNat_natCast,e,andU_mod hx.1 hx.2,e3,List.foldl_cons]
  generalize l.getD j 0=x at *
  rw[wi64 (n:=31*s) (by omega) (by omega),wi64 (n:=x/65536) (by omega) (by omega),wi64 (n:=31*s+x/65536) (by omega) (by omega),wi64 (n:=x%65536) (by omega) (by omega),wi64 (n:=7*(x%65536)) (by omega) (by omega),wi64 (n:=31*s+x/65536+7*(x%65536)) (by omega) (by omega),Int.tmod_eq_emod_of_nonneg (by omega),wi64 (by omega) (by omega),show(j:Int)+1=((j+1:Nat):Int) by push_cast;rfl]
  exact r
theorem sum_pv{l:List Int}(hw:W32l l)(hl:l.length<1000000):p_82 l=true/\v_82 l=(Sp.smw l,()):=by
 refine pv_82 l ?_
 unfold F_82
 have:=sum_l hw hl l.length 4611686018427387904 0 0 (by decide) (by decide) (by omega) (by omega)
 rw[List.drop_zero]at this
 exact(congrArg (fun z=>B_82_0 z _) this).trans rfl
set_option maxRecDepth 100000
set_option maxHeartbeats 4000000
namespace Sp
noncomputable def dE:EnT:=Ty.dflt (.pair (.int .i64) (.pair (.slice (.int .u32)) .unit))
noncomputable def bsl(es:List EnT)(key:Int):Nat->Nat->Nat->Nat
 |0,lo,_=>lo
 |f+1,lo,hi=>if lo<hi then(if(es.getD ((lo+hi)/2) dE).1<key then bsl es key f ((lo+hi)/2+1) hi else bsl es key f lo ((lo+hi)/2))else lo
noncomputable def plE(es:List EnT)(key:Int):Nat:=bsl es key es.length 0 es.length
noncomputable def putE(es:List EnT)(key:Int)(data:List Int):List EnT:=
 if plE es key<es.length/\(es.getD (plE es key) dE).1=key then es.set (plE es key) (key,data,())else es.take (plE es key)++([(key,data,())]++es.drop (plE es key))
noncomputable def rdl(l:List Int):Nat->Nat->List EnT->Nat×List EnT
 |0,i,es=>(i,es)
 |f+1,i,es=>if i<l.length/\(nmb (l.getD i 0)).2=true/\(nmb (l.getD i 0)).1/256<=254/\(nmb (l.getD i 0)).1%256<=24/\i+((nmb (l.getD i 0)).1%256).toNat+2<=l.length then
  rdl l f (i+((nmb (l.getD i 0)).1%256).toNat+2)
   (if(nmb (l.getD (i+((nmb (l.getD i 0)).1%256).toNat+1) 0)).2=true/\(nmb (l.getD (i+((nmb (l.getD i 0)).1%256).toNat+1) 0)).1=smw (take (((nmb (l.getD i 0)).1%256).toNat+1) (drop i l))then putE es ((nmb (l.getD i 0)).1/256) (take ((nmb (l.getD i 0)).1%256).toNat (drop (i+1) l))else es)
  else(i,es)
noncomputable def blk(l:List Int)(e:Nat):Bool:=(drop e l).all (fun w=>w==4294967295)
noncomputable def rdv(l:List Int):List EnT×Int×Int×Unit:=((rdl l l.length 1 []).2,((rdl l l.length 1 []).1:Int),(if blk l (rdl l l.length 1 []).1=true then(l.length:Int)-((rdl l l.length 1 []).1:Int)else 0),())
end Sp
noncomputable def KOK(es:List EnT):Prop:=∀e∈es,(0<=e.1/\e.1<=254)/\e.2.1.length<=24/\W32l e.2.1
theorem KOK.at{es:List EnT}(h:KOK es)(j:Nat):0<=(es.getD j Sp.dE).1/\(es.getD j Sp.dE).1<=254:=by
 rw[List.getD_eq_getElem?_getD]
 cases e:es[j]? with
 |none=>
  exact⟨Int.le_refl 0,(by decide:(0:Int)<=254)⟩
 |some x=>exact(h x (List.mem_of_getElem? e)).1
theorem bsl_le(es:List EnT)(key:Int):∀(f lo hi:Nat),lo<=hi->lo<=Sp.bsl es key f lo hi/\Sp.bsl es key f lo hi<=hi
 |0,lo,hi,h=>⟨Nat.le_refl _,h⟩
 |f+1,lo,hi,h=>by
  rw[Sp.bsl]
  split
  ·split
   ·have:=bsl_le es key f ((lo+hi)/2+1) hi (by omega)
    omega
   ·have:=bsl_le es key f lo ((lo+hi)/2) (by omega)
    omega
  ·omega
theorem plE_le(es:List EnT)(key:Int):Sp.plE es key<=es.length:=(bsl_le es key es.length 0 es.length (Nat.zero_le _)).2
theorem putE_len(es:List EnT)(key:Int)(data:List Int):(Sp.putE es key data).length<=es.length+1:=by
 have:=plE_le es key
 unfold Sp.putE
 split
 ·rw[List.length_set];omega
 ·rw[List.length_append,List.length_append,List.length_take,List.length_drop,List.length_singleton];omega
theorem KOK.put{es:List EnT}(h:KOK es){key:Int}(h0:0<=key)(h1:key<=254){data:List Int}(hd:data.length<=24)(hw:W32l data):KOK (Sp.putE es key data):=by
 have hn:(0<=key/\key<=254)/\data.length<=24/\W32l data:=⟨⟨h0,h1⟩,hd,hw⟩
 intro e he
 unfold Sp.putE at he
 split at he
 ·rcases List.mem_or_eq_of_mem_set he with h2|rfl
  ·exact h e h2
  ·exact hn
 ·rcases List.mem_append.1 he with h2|h2
  ·exact h e (List.mem_of_mem_take h2)
  ·rcases List.mem_append.1 h2 with h3|h3
   ·rw[List.mem_singleton.1 h3];exact hn
   ·exact h e (List.mem_of_mem_drop h3)
theorem bs2{es:List EnT}(hk:KOK es){key:Int}(h0:0<=key)(h1:key<=254)(hl:es.length<=1000000)(n:Int):∀(f m lo hi:Nat),hi-lo<=f->lo<=hi->hi<=es.length->f<m->
 L_61_84_0_0 m key n lo hi es=some (.e0 key n (Sp.bsl es key f lo hi) es):=by
 intro f
 induction f with
 |zero=>
  intro m lo hi h2 h3 h4 hm
  obtain⟨m,rfl⟩:∃k,m=k+1:=⟨m-1,by omega⟩
  rw[L_61_84_0_0,S_61_84_0_0,cond_dff (by omega),Sp.bsl]
 |succ f ih=>
  intro m lo hi h2 h3 h4 hm
  obtain⟨m,rfl⟩:∃k,m=k+1:=⟨m-1,by omega⟩
  rw[Sp.bsl]
  by_cases c:lo<hi
  rotate_left
  ·rw[L_61_84_0_0,S_61_84_0_0,cond_dff (by omega),if_neg c]
  have e:wrap .i64 (Int.fdiv (wrap .u64 (wrap .i64 ((lo:Int)+(hi:Int)))) 2)=(((lo+hi)/2:Nat):Int):=by
   rw[wi64 (n:=(lo:Int)+(hi:Int)) (by omega) (by omega),wu64 (by omega) (by omega),Int.fdiv_eq_ediv_of_nonneg _ (by decide),wi64 (by omega) (by omega)]
   omega
  have ka:=hk.at ((lo+hi)/2)
  have ka:0<=(es.getD ((lo+hi)/2) Zd1).1/\(es.getD ((lo+hi)/2) Zd1).1<=254:=ka
  rw[L_61_84_0_0,S_61_84_0_0,cond_dtt (by omega),e,gd_inB (by omega) (by omega),Int.toNat_natCast,Bool.and_true,gd_dec (by omega),if_pos c,wi64 (n:=(es.getD ((lo+hi)/2) Zd1).1-key) (by omega) (by omega)]
  by_cases c2:(es.getD ((lo+hi)/2) Sp.dE).1<key
  ·have c2':(es.getD ((lo+hi)/2) Zd1).1<key:=c2
   rw[cond_dtt (by omega),if_pos c2,wi64 (by omega) (by omega),show(((lo+hi)/2:Nat):Int)+1=(((lo+hi)/2+1:Nat):Int) by omega]
   exact ih m _ hi (by omega) (by omega) h4 (by omega)
  ·have c2':¬(es.getD ((lo+hi)/2) Zd1).1<key:=c2
   rw[cond_dff (by omega),if_neg c2]
   exact ih m lo _ (by omega) (by omega) (by omega) (by omega)
theorem put_pv{es:List EnT}(hk:KOK es){key:Int}(h0:0<=key)(h1:key<=254)(hl:es.length<=1000){data:List Int}(hd:data.length<=100000):p_61 es key data=true/\v_61 es key data=(Sp.putE es key data,()):=by
 have pl:=plE_le es key
 have ka:=hk.at (Sp.plE es key)
 have b:=bs2 hk h0 h1 (by omega) (es.length:Int) es.length 4611686018427387904 0 es.length (by omega) (by omega) (by omega) (by omega)
 refine pv_61 es key data ?_
 unfold F_61 Sp.putE
 refine(congrArg (fun z=>B_61_84_0_0 z _) b).trans ?_
 unfold B_61_84_0_0
 dsimp only
 rw[show Sp.bsl es key es.length 0 es.length=Sp.plE es key from rfl]
 by_cases c:Sp.plE es key<es.length
 ·rw[cond_dtt (by omega),gd_inB (by omega) (by omega),Int.toNat_natCast,Bool.and_true,gd_dec c,gd_room (by omega) (by omega),show(es.getD (Sp.plE es key) Zd1).1=(es.getD (Sp.plE es key) Sp.dE).1 from rfl,wi64 (by omega) (by omega)]
  by_cases c2:(es.getD (Sp.plE es key) Sp.dE).1=key
  ·rw[cond_ett (by omega),gd_inB (by omega) (by omega),Bool.and_true,gd_dec c,if_pos ⟨c,c2⟩]
  ·rw[cond_eff (by omega),gd_and,gd_and,gd_dec (by omega),gd_dec (by omega),gd_room (by omega) (by omega),if_neg (fun a=>c2 a.2)]
 ·rw[cond_dff (by omega),gd_room (by omega) (by omega),gd_and,gd_and,gd_dec (by omega),gd_dec (by omega),gd_room (by omega) (by omega),if_neg (fun a=>c a.1),Int.toNat_natCast]
set_option maxRecDepth 100000
set_option maxHeartbeats 4000000
structure HD(l:List Int)(i n:Nat)(k:Int)(ok:Bool):Prop where
 e:Sp.nmb (l.getD i 0)=(k*256+n,ok)
 n:n<256
 k0:0<=k
 k1:k<256
theorem hd_at{l:List Int}(hw:W32l l)(i:Nat):∃n k ok,HD l i n k ok:=by
 have h:=hw.at i
 have b:=nmb_b h.1 h.2
 refine⟨((Sp.nmb (l.getD i 0)).1%256).toNat,(Sp.nmb (l.getD i 0)).1/256,(Sp.nmb (l.getD i 0)).2,?_,by omega,by omega,by omega⟩
 refine Prod.ext ?_ rfl
 show(Sp.nmb (l.getD i 0)).1=_
 omega
theorem rdl_s{l:List Int}{i n:Nat}{k:Int}{ok:Bool}(h:HD l i n k ok)(f:Nat)(es:List EnT):Sp.rdl l (f+1) i es=if i<l.length/\ok=true/\k<=254/\n<=24/\i+n+2<=l.length then
 Sp.rdl l f (i+n+2) (if(Sp.nmb (l.getD (i+n+1) 0)).2=true/\(Sp.nmb (l.getD (i+n+1) 0)).1=Sp.smw (take (n+1) (drop i l))then Sp.putE es k (take n (drop (i+1) l))else es)else(i,es):=by
 have e1:(k*256+(n:Int))/256=k:=by have:=h.n;omega
 have e2:(k*256+(n:Int))%256=(n:Int):=by have:=h.n;omega
 rw[Sp.rdl,h.e]
 dsimp only
 rw[e1,e2,Int.toNat_natCast]
 by_cases c:i<l.length/\ok=true/\k<=254/\n<=24/\i+n+2<=l.length
 ·rw[if_pos c,if_pos ⟨c.1,c.2.1,c.2.2.1,by omega,c.2.2.2.2⟩]
 ·rw[if_neg c,if_neg (fun a=>c ⟨a.1,a.2.1,a.2.2.1,by omega,a.2.2.2.2⟩)]
theorem r1{l:List Int}(hw:W32l l)(hl:l.length<=600)(A B:List Int)(C:Int×Unit)(D z:PwT)(fr:Int×Unit):∀(f m i:Nat)(es:List EnT),KOK es->es.length<=i->i<=l.length->l.length-i<=f->f<m->
 (L_58_101_0_1 m i A B C D z ((i:Int),fr) l es=some (.e0 A B C D z (((Sp.rdl l f i es).1:Int),fr) l (Sp.rdl l f i es).2)\/L_58_101_0_1 m i A B C D z ((i:Int),fr) l es=some (.e1 A B C D z (((Sp.rdl l f i es).1:Int),fr) l (Sp.rdl l f i es).2))/\KOK (Sp.rdl l f i es).2/\(Sp.rdl l f i es).2.length<=(Sp.rdl l f i es).1/\i<=(Sp.rdl l f i es).1/\(Sp.rdl l f i es).1<=l.length:=by
 intro f
 induction f with
 |zero=>
  intro m i es hk hn hi hf hm
  obtain⟨m,rfl⟩:∃k,m=k+1:=⟨m-1,by omega⟩
  refine⟨.inr ?_,hk,hn,Nat.le_refl _,hi⟩
  rw[L_58_101_0_1,S_58_101_0_1,cond_dff (by omega),Sp.rdl]
 |succ f ih=>
  intro m i es hk hn hi hf hm
  obtain⟨m,rfl⟩:∃k,m=k+1:=⟨m-1,by omega⟩
  obtain⟨n,k,ok,h⟩:=hd_at hw i
  have hn2:=h.n
  have hk0:=h.k0
  have hk1:=h.k1
  rw[rdl_s h]
  by_cases c1:i<l.length
  rotate_left
  ·rw[if_neg (fun a=>c1 a.1)]
   refine⟨.inr ?_,hk,hn,Nat.le_refl _,hi⟩
   rw[L_58_101_0_1,S_58_101_0_1,cond_dff (by omega)]
  have hx:=hw.at i
  have nv:=num_pv hx.1 hx.2
  rw[L_58_101_0_1,S_58_101_0_1,cond_dtt (by omega),gd_inB (by omega) (by omega),Int.toNat_natCast,nv.1,nv.2,gd_tt,h.e]
  dsimp only
  cases ok with
  |false=>
   rw[if_neg (fun a=>Bool.noConfusion a.2.1),Bool.not_false,cond_t]
   exact⟨.inl rfl,hk,hn,Nat.le_refl _,hi⟩
  |true=>
  have e1:Int.tdiv (k*256+(n:Int)) 256=k:=by rw[Int.tdiv_eq_ediv_of_nonneg (by omega)];omega
  have e2:Int.tmod (k*256+(n:Int)) 256=(n:Int):=by rw[Int.tmod_eq_emod_of_nonneg (by omega)];omega
  rw[Bool.not_true,cond_f,e1,e2,wi64 (n:=k) (by omega) (by omega)]
  by_cases c2:k>254
  ·rw[cond_dtt c2,if_neg (fun a=>by omega)]
   exact⟨.inl rfl,hk,hn,Nat.le_refl _,hi⟩
  rw[cond_dff c2]
  by_cases c3:(n:Int)>24
  ·rw[cond_dtt c3,if_neg (fun a=>by omega)]
   exact⟨.inl rfl,hk,hn,Nat.le_refl _,hi⟩
  rw[cond_dff c3,wi64 (n:=(i:Int)+(n:Int)) (by omega) (by omega),wi64 (n:=(i:Int)+(n:Int)+2) (by omega) (by omega),wi64 (n:=(i:Int)+(n:Int)+1) (by omega) (by omega),wi64 (n:=(i:Int)+1) (by omega) (by omega)]
  by_cases c4:(i:Int)+(n:Int)+2>(l.length:Int)
  ·rw[cond_dtt c4,if_neg (fun a=>by omega)]
   exact⟨.inl rfl,hk,hn,Nat.le_refl _,hi⟩
  rw[cond_dff c4,if_pos (show i<l.length/\true=true/\k<=254/\n<=24/\i+n+2<=l.length from⟨c1,rfl,by omega,by omega,by omega⟩),gd_inB (by omega) (by omega),show((i:Int)+(n:Int)+1).toNat=i+n+1 by omega,show((i:Int)+1).toNat=i+1 by omega]
  have hy:=hw.at (i+n+1)
  have ny:=num_pv hy.1 hy.2
  have en:wrap .i64 ((i:Int)+wrap .i64 ((n:Int)+2))=((i+n+2:Nat):Int):=by
   rw[wi64 (n:=(n:Int)+2) (by omega) (by omega),wi64 (by omega) (by omega)];omega
  have next:∀es',KOK es'->es'.length<=es.length+1->_:=fun es' g1 g2=>ih m (i+n+2) es' g1 (by omega) (by omega) (by omega) (by omega)
  have j3:J_58_101_1_3 i n A B C D z ((i:Int),fr) l (-1) [] es=some (.e1 i n A B C D z ((i:Int),fr) l (-1) [] es):=by
   unfold J_58_101_1_3 S_58_101_1_3
   rw[cond_dff (by decide)]
  rw[ny.1,ny.2,gd_tt]
  dsimp only
  cases hb:(Sp.nmb (l.getD (i+n+1) 0)).2 with
  |false=>
   rw[cond_f,if_neg (fun a=>Bool.noConfusion a.1),j3]
   unfold B_58_101_1_3
   dsimp only
   rw[en]
   have:=next es hk (by omega)
   exact⟨this.1,this.2.1,this.2.2.1,by omega,this.2.2.2.2⟩
  |true=>
  have s:=sum_pv (W32l.td hw (n+1) i) (by rw[List.length_take];omega)
  rw[cond_t,gd_sl3 (by omega) (by omega) (by omega),show i+n+1-i=n+1 by omega,s.1,s.2,gd_tt]
  dsimp only
  by_cases c5:(Sp.nmb (l.getD (i+n+1) 0)).1=Sp.smw (take (n+1) (drop i l))
  rotate_left
  ·rw[cond_eff c5,if_neg (fun a=>c5 a.2),j3]
   unfold B_58_101_1_3
   dsimp only
   rw[en]
   have:=next es hk (by omega)
   exact⟨this.1,this.2.1,this.2.2.1,by omega,this.2.2.2.2⟩
  rw[cond_ett c5,if_pos ⟨rfl,c5⟩,gd_sl3 (by omega) (by omega) (by omega),show i+n+1-(i+1)=n by omega]
  have dl:(take n (drop (i+1) l)).length<=24:=by rw[List.length_take];omega
  have:=next (Sp.putE es k (take n (drop (i+1) l))) (hk.put hk0 (by omega) dl (W32l.td hw n (i+1))) (putE_len _ _ _)
  refine⟨?_,this.2.1,this.2.2.1,by omega,this.2.2.2.2⟩
  have pt:=put_pv hk hk0 (by omega) (by omega) (data:=take n (drop (i+1) l)) (by omega)
  have j2:J_58_101_1_2 i n A B C D z ((i:Int),fr) l k (take n (drop (i+1) l)) es=some (.e0 i n A B C D z ((i:Int),fr) l k (take n (drop (i+1) l)) es):=by
   unfold J_58_101_1_2 S_58_101_1_2
   rw[cond_dtt (by omega),pt.1,gd_tt]
  rw[j2]
  unfold B_58_101_1_2
  dsimp only
  rw[en,pt.2]
  exact this.1
theorem putE_nil(k:Int)(d:List Int):Sp.putE [] k d=[(k,d,())]:=by
 unfold Sp.putE
 rw[if_neg (fun a=>Nat.not_lt_zero _ a.1)]
 rfl
theorem r0{l:List Int}(hw:W32l l)(hl:l.length<=600)(A B:List Int)(C:Int×Unit)(D z:PwT)(fr:Int×Unit):∀(f m i:Nat),1<=i->i<=l.length->l.length-i<=f->f<m->
 ((L_58_101_0_0 m i A B C D z ((i:Int),fr) l=some (.e0 A B C D z (((Sp.rdl l f i []).1:Int),fr) l)\/L_58_101_0_0 m i A B C D z ((i:Int),fr) l=some (.e1 A B C D z (((Sp.rdl l f i []).1:Int),fr) l))/\(Sp.rdl l f i []).2=[] \/
   (L_58_101_0_0 m i A B C D z ((i:Int),fr) l=some (.e2 A B C D z (((Sp.rdl l f i []).1:Int),fr) l (Sp.rdl l f i []).2)\/L_58_101_0_0 m i A B C D z ((i:Int),fr) l=some (.e3 A B C D z (((Sp.rdl l f i []).1:Int),fr) l (Sp.rdl l f i []).2)))/\KOK (Sp.rdl l f i []).2/\(Sp.rdl l f i []).2.length<=(Sp.rdl l f i []).1/\i<=(Sp.rdl l f i []).1/\(Sp.rdl l f i []).1<=l.length:=by
 have kn:KOK []:=fun e he=>by cases he
 intro f
 induction f with
 |zero=>
  intro m i h1 hi hf hm
  obtain⟨m,rfl⟩:∃k,m=k+1:=⟨m-1,by omega⟩
  refine⟨.inl ⟨.inr ?_,rfl⟩,kn,Nat.zero_le _,Nat.le_refl _,hi⟩
  rw[L_58_101_0_0,S_58_101_0_0,cond_dff (by omega),Sp.rdl]
 |succ f ih=>
  intro m i h1 hi hf hm
  obtain⟨m,rfl⟩:∃k,m=k+1:=⟨m-1,by omega⟩
  obtain⟨n,k,ok,h⟩:=hd_at hw i
  have hn2:=h.n
  have hk0:=h.k0
  have hk1:=h.k1
  rw[rdl_s h]
  by_cases c1:i<l.length
  rotate_left
  ·rw[if_neg (fun a=>c1 a.1)]
   refine⟨.inl ⟨.inr ?_,rfl⟩,kn,Nat.zero_le _,Nat.le_refl _,hi⟩
   rw[L_58_101_0_0,S_58_101_0_0,cond_dff (by omega)]
  have hx:=hw.at i
  have nv:=num_pv hx.1 hx.2
  rw[L_58_101_0_0,S_58_101_0_0,cond_dtt (by omega),gd_inB (by omega) (by omega),Int.toNat_natCast,nv.1,nv.2,gd_tt,h.e]
  dsimp only
  cases ok with
  |false=>
   rw[if_neg (fun a=>Bool.noConfusion a.2.1),Bool.not_false,cond_t]
   exact⟨.inl ⟨.inl rfl,rfl⟩,kn,Nat.zero_le _,Nat.le_refl _,hi⟩
  |true=>
  have e1:Int.tdiv (k*256+(n:Int)) 256=k:=by rw[Int.tdiv_eq_ediv_of_nonneg (by omega)];omega
  have e2:Int.tmod (k*256+(n:Int)) 256=(n:Int):=by rw[Int.tmod_eq_emod_of_nonneg (by omega)];omega
  rw[Bool.not_true,cond_f,e1,e2,wi64 (n:=k) (by omega) (by omega)]
  by_cases c2:k>254
  ·rw[cond_dtt c2,if_neg (fun a=>by omega)]
   exact⟨.inl ⟨.inl rfl,rfl⟩,kn,Nat.zero_le _,Nat.le_refl _,hi⟩
  rw[cond_dff c2]
  by_cases c3:(n:Int)>24
  ·rw[cond_dtt c3,if_neg (fun a=>by omega)]
   exact⟨.inl ⟨.inl rfl,rfl⟩,kn,Nat.zero_le _,Nat.le_refl _,hi⟩
  rw[cond_dff c3,wi64 (n:=(i:Int)+(n:Int)) (by omega) (by omega),wi64 (n:=(i:Int)+(n:Int)+2) (by omega) (by omega),wi64 (n:=(i:Int)+(n:Int)+1) (by omega) (by omega),wi64 (n:=(i:Int)+1) (by omega) (by omega)]
  by_cases c4:(i:Int)+(n:Int)+2>(l.length:Int)
  ·rw[cond_dtt c4,if_neg (fun a=>by omega)]
   exact⟨.inl ⟨.inl rfl,rfl⟩,kn,Nat.zero_le _,Nat.le_refl _,hi⟩
  rw[cond_dff c4,if_pos (show i<l.length/\true=true/\k<=254/\n<=24/\i+n+2<=l.length from⟨c1,rfl,by omega,by omega,by omega⟩),gd_inB (by omega) (by omega),show((i:Int)+(n:Int)+1).toNat=i+n+1 by omega,show((i:Int)+1).toNat=i+1 by omega]
  have hy:=hw.at (i+n+1)
  have ny:=num_pv hy.1 hy.2
  have en:wrap .i64 ((i:Int)+wrap .i64 ((n:Int)+2))=((i+n+2:Nat):Int):=by
   rw[wi64 (n:=(n:Int)+2) (by omega) (by omega),wi64 (by omega) (by omega)];omega
  have next:=ih m (i+n+2) (by omega) (by omega) (by omega) (by omega)
  have j1:J_58_101_1_1 i n A B C D z ((i:Int),fr) l (-1) []=some (.e1 i n A B C D z ((i:Int),fr) l (-1) []):=by
   unfold J_58_101_1_1 S_58_101_1_1
   rw[cond_dff (by decide)]
  rw[ny.1,ny.2,gd_tt]
  dsimp only
  cases hb:(Sp.nmb (l.getD (i+n+1) 0)).2 with
  |false=>
   rw[cond_f,if_neg (fun a=>Bool.noConfusion a.1),j1]
   unfold B_58_101_1_1
   dsimp only
   rw[en]
   exact⟨next.1,next.2.1,next.2.2.1,by omega,next.2.2.2.2⟩
  |true=>
  have s:=sum_pv (W32l.td hw (n+1) i) (by rw[List.length_take];omega)
  rw[cond_t,gd_sl3 (by omega) (by omega) (by omega),show i+n+1-i=n+1 by omega,s.1,s.2,gd_tt]
  dsimp only
  by_cases c5:(Sp.nmb (l.getD (i+n+1) 0)).1=Sp.smw (take (n+1) (drop i l))
  rotate_left
  ·rw[cond_eff c5,if_neg (fun a=>c5 a.2),j1]
   unfold B_58_101_1_1
   dsimp only
   rw[en]
   exact⟨next.1,next.2.1,next.2.2.1,by omega,next.2.2.2.2⟩
  rw[cond_ett c5,if_pos ⟨rfl,c5⟩,gd_sl3 (by omega) (by omega) (by omega),show i+n+1-(i+1)=n by omega,putE_nil]
  have dl:(take n (drop (i+1) l)).length<=24:=by rw[List.length_take];omega
  have k1:KOK [(k,take n (drop (i+1) l),())]:=by
   rw[<-putE_nil]
   exact kn.put hk0 (by omega) dl (W32l.td hw n (i+1))
  have r:=r1 hw hl A B C D z fr f m (i+n+2) [(k,take n (drop (i+1) l),())] k1 (by simp only[List.length_singleton];omega) (by omega) (by omega) (by omega)
  refine⟨.inr ?_,r.2.1,r.2.2.1,by omega,r.2.2.2.2⟩
  have pt:=put_pv kn hk0 (by omega) (by decide) (data:=take n (drop (i+1) l)) (by omega)
  have j0:J_58_101_1_0 i n A B C D z ((i:Int),fr) l k (take n (drop (i+1) l))=some (.e0 i n A B C D z ((i:Int),fr) l k (take n (drop (i+1) l))):=by
   unfold J_58_101_1_0 S_58_101_1_0
   rw[cond_dtt (by omega),pt.1,gd_tt]
  rw[j0]
  unfold B_58_101_1_0
  dsimp only
  rw[en,pt.2,putE_nil]
  rcases r.1 with r|r
  ·exact .inl ((congrArg (fun z=>B_58_101_0_1 z _ _) r).trans rfl)
  ·exact .inr ((congrArg (fun z=>B_58_101_0_1 z _ _) r).trans rfl)
theorem blk_iff(l:List Int)(e:Nat):(fnd (fun j=>(drop e l).getD j 0 !=4294967295) (drop e l).length 0=none)↔Sp.blk l e=true:=by
 rw[fnd_none]
 unfold Sp.blk
 rw[List.all_eq_true]
 constructor
 ·intro h x hx
  obtain⟨i,hi,e2⟩:=List.mem_iff_getElem.1 hx
  have:=h i (by omega) (by omega)
  rw[getD_at 0 hi,e2]at this
  simpa using this
 ·intro h i _ hi
  rw[getD_at 0 (by omega)]
  have:=h _ (List.getElem_mem (show i<(drop e l).length by omega))
  simpa using this
theorem c1_l(l:List Int)(e:Nat)(hl:l.length<=1000)(A B:List Int)(C:Int×Unit)(D z st:PwT)(es:List EnT):(Sp.blk l e=true->L_58_102_0_1 4611686018427387904 (drop e l) (drop e l).length 0 A B C D z st l es=some (.e1 A B C D z st l es))/\(Sp.blk l e=false->∃k:Nat,L_58_102_0_1 4611686018427387904 (drop e l) (drop e l).length 0 A B C D z st l es=some (.e0 k A B C D z st l es)):=by
 have hd:(drop e l).length<=1000:=by rw[List.length_drop];omega
 have hf:=find0 (fun m i=>L_58_102_0_1 m (drop e l) (drop e l).length i A B C D z st l es) (n:=(drop e l).length) (fun j=>(drop e l).getD j 0 !=4294967295) (ex:=fun j=>some (.e0 (j:Int) A B C D z st l es)) (e1:=some (.e1 A B C D z st l es)) (by omega) (fun m j hj=>by
  show L_58_102_0_1 (m+1) (drop e l) (drop e l).length (j:Int) A B C D z st l es=bif(drop e l).getD j 0 !=4294967295 then some (.e0 (j:Int) A B C D z st l es)else L_58_102_0_1 m (drop e l) (drop e l).length ((j+1:Nat):Int) A B C D z st l es
  rw[L_58_102_0_1,S_58_102_0_1,cond_dtt (by omega),gd_inB (by omega) (by omega),Int.toNat_natCast,wi64 (by omega) (by omega)]
  push_cast
  rfl) (fun m=>by
  show L_58_102_0_1 (m+1) (drop e l) (drop e l).length ((drop e l).length:Int) A B C D z st l es=_
  rw[L_58_102_0_1,S_58_102_0_1,cond_dff (by omega)])
 constructor
 ·intro hb
  rw[(blk_iff l e).2 hb]at hf
  exact hf
 ·intro hb
  cases hq:fnd (fun j=>(drop e l).getD j 0 !=4294967295) (drop e l).length 0 with
  |none=>rw[(blk_iff l e).1 hq]at hb;cases hb
  |some k=>
   rw[hq]at hf
   exact⟨k,hf⟩
theorem c0_l(l:List Int)(e:Nat)(hl:l.length<=1000)(A B:List Int)(C:Int×Unit)(D z st:PwT):(Sp.blk l e=true->L_58_102_0_0 4611686018427387904 (drop e l) (drop e l).length 0 A B C D z st l=some (.e1 A B C D z st l))/\(Sp.blk l e=false->∃k:Nat,L_58_102_0_0 4611686018427387904 (drop e l) (drop e l).length 0 A B C D z st l=some (.e0 k A B C D z st l)):=by
 have hd:(drop e l).length<=1000:=by rw[List.length_drop];omega
 have hf:=find0 (fun m i=>L_58_102_0_0 m (drop e l) (drop e l).length i A B C D z st l) (n:=(drop e l).length) (fun j=>(drop e l).getD j 0 !=4294967295) (ex:=fun j=>some (.e0 (j:Int) A B C D z st l)) (e1:=some (.e1 A B C D z st l)) (by omega) (fun m j hj=>by
  show L_58_102_0_0 (m+1) (drop e l) (drop e l).length (j:Int) A B C D z st l=bif(drop e l).getD j 0 !=4294967295 then some (.e0 (j:Int) A B C D z st l)else L_58_102_0_0 m (drop e l) (drop e l).length ((j+1:Nat):Int) A B C D z st l
  rw[L_58_102_0_0,S_58_102_0_0,cond_dtt (by omega),gd_inB (by omega) (by omega),Int.toNat_natCast,wi64 (by omega) (by omega)]
  push_cast
  rfl) (fun m=>by
  show L_58_102_0_0 (m+1) (drop e l) (drop e l).length ((drop e l).length:Int) A B C D z st l=_
  rw[L_58_102_0_0,S_58_102_0_0,cond_dff (by omega)])
 constructor
 ·intro hb
  rw[(blk_iff l e).2 hb]at hf
  exact hf
 ·intro hb
  cases hq:fnd (fun j=>(drop e l).getD j 0 !=4294967295) (drop e l).length 0 with
  |none=>rw[(blk_iff l e).1 hq]at hb;cases hb
  |some k=>
   rw[hq]at hf
   exact⟨k,hf⟩
theorem rdv_b{l:List Int}(hw:W32l l)(hl:l.length<=600)(h1:1<=l.length):KOK (Sp.rdv l).1/\(Sp.rdv l).1.length<=l.length/\1<=(Sp.rdv l).2.1/\(Sp.rdv l).2.1<=l.length:=by
 have r:=r0 hw hl [] [] (0,()) (0,0,()) (0,0,()) (0,()) l.length 4611686018427387904 1 (Nat.le_refl _) h1 (by omega) (by omega)
 unfold Sp.rdv
 dsimp only
 refine⟨r.2.1,by omega,by omega,by omega⟩
theorem read_pv{m:MeT}(hw:W32f m.1)(hv:Sp.fv m.1=true)(hp:Sp.plc m=true){k:Nat}(hk:k<2):p_58 m k=true/\v_58 m k=(Sp.rdv (Sp.hwr m k),()):=by
 have ll:=hwr_len hv hp hk
 have b:=pl_b hv hp
 have bk:=pl_k hv hp hk
 have hW:=hw.half k
 have sz:=msz_pv hv hp
 have a:=adr_pv hv hp hk (i:=0) (by omega) (by omega)
 have a2:=adr_pv hv hp hk (i:=(Sp.hsz m:Int)) (by omega) (by omega)
 refine pv_58 m k ?_
 unfold F_58
 obtain⟨⟨A,B,C⟩,D⟩:=m
 dsimp only at *
 rw[a.1,a.2,gd_tt,sz.1,sz.2,gd_tt]
 dsimp only
 rw[a2.1,a2.2,gd_tt]
 dsimp only
 have el:take (((Sp.hbs ((A,B,C),D) k:Int)+(Sp.hsz ((A,B,C),D):Int)).toNat-((Sp.hbs ((A,B,C),D) k:Int)+0).toNat) (drop ((Sp.hbs ((A,B,C),D) k:Int)+0).toNat A)=Sp.hwr ((A,B,C),D) k:=by
  unfold Sp.hwr
  rw[show((Sp.hbs ((A,B,C),D) k:Int)+(Sp.hsz ((A,B,C),D):Int)).toNat-((Sp.hbs ((A,B,C),D) k:Int)+0).toNat=Sp.hsz ((A,B,C),D) by omega,show((Sp.hbs ((A,B,C),D) k:Int)+0).toNat=Sp.hbs ((A,B,C),D) k by omega]
 rw[gd_sl3 (by omega) (by omega) (by omega),el]
 clear el a a2 sz bk
 generalize Sp.hwr ((A,B,C),D) k=l at *
 have r:=r0 hW (by omega) A B C D (0,0,()) (0,()) l.length 4611686018427387904 1 (Nat.le_refl _) (by omega) (by omega) (by omega)
 obtain⟨r,_,_,h3,h4⟩:=r
 unfold Sp.rdv
 generalize Sp.rdl l l.length 1 []=R at *
 obtain⟨e,es⟩:=R
 dsimp only at *
 have nil:es=[]->gd (sl3 (e:Int) (l.length:Int) (l.length:Int)) (B_58_102_0_0 (L_58_102_0_0 4611686018427387904 (drop (toNat (e:Int)) l) (drop (toNat (e:Int)) l).length 0 A B C D (0,0,()) ((e:Int),0,()) l) (fun y62 y63 x1 x2 x3 y64 y65 y66=>bif !decide (y62>=0)then some (([],y65.1,wrap .i64 ((l.length:Int)-y65.1),y65.2.2),())else some (([],y65),())) (fun y67 x1 x2 x3 y68 y69 y70=>some (([],y69.1,wrap .i64 ((l.length:Int)-y69.1),y69.2.2),())))=some ((es,(e:Int),(if Sp.blk l e=true then(l.length:Int)-(e:Int)else 0),()),()):=by
  rintro rfl
  have c:=c0_l l e (by omega) A B C D (0,0,()) ((e:Int),0,())
  rw[gd_sl3 (by omega) (by omega) (by omega),Int.toNat_natCast]
  cases hb:Sp.blk l e with
  |true=>
   rw[c.1 hb,if_pos rfl]
   unfold B_58_102_0_0
   dsimp only
   rw[wi64 (by omega) (by omega)]
  |false=>
   obtain⟨q,hq⟩:=c.2 hb
   rw[hq,if_neg Bool.false_ne_true]
   unfold B_58_102_0_0
   dsimp only
   rw[decide_eq_true (by omega),Bool.not_true,cond_f]
 have full:gd (sl3 (e:Int) (l.length:Int) (l.length:Int)) (B_58_102_0_1 (L_58_102_0_1 4611686018427387904 (drop (toNat (e:Int)) l) (drop (toNat (e:Int)) l).length 0 A B C D (0,0,()) ((e:Int),0,()) l es) (fun y89 y90 x1 x2 x3 y91 y92 y93 y94=>bif !decide (y89>=0)then some ((y94,y92.1,wrap .i64 ((l.length:Int)-y92.1),y92.2.2),())else some ((y94,y92),())) (fun y95 x1 x2 x3 y96 y97 y98 y99=>some ((y99,y97.1,wrap .i64 ((l.length:Int)-y97.1),y97.2.2),())))=some ((es,(e:Int),(if Sp.blk l e=true then(l.length:Int)-(e:Int)else 0),()),()):=by
  have c:=c1_l l e (by omega) A B C D (0,0,()) ((e:Int),0,()) es
  rw[gd_sl3 (by omega) (by omega) (by omega),Int.toNat_natCast]
  cases hb:Sp.blk l e with
  |true=>
   rw[c.1 hb,if_pos rfl]
   unfold B_58_102_0_1
   dsimp only
   rw[wi64 (by omega) (by omega)]
  |false=>
   obtain⟨q,hq⟩:=c.2 hb
   rw[hq,if_neg Bool.false_ne_true]
   unfold B_58_102_0_1
   dsimp only
   rw[decide_eq_true (by omega),Bool.not_true,cond_f]
 rcases r with⟨r|r,e0⟩|r|r
 ·exact(congrArg (fun z=>B_58_101_0_0 z _ _ _ _) r).trans (nil e0)
 ·exact(congrArg (fun z=>B_58_101_0_0 z _ _ _ _) r).trans (nil e0)
 ·exact(congrArg (fun z=>B_58_101_0_0 z _ _ _ _) r).trans full
 ·exact(congrArg (fun z=>B_58_101_0_0 z _ _ _ _) r).trans full
namespace Sp
noncomputable def zM:MeT:=(([],[],0,()),0,0,())
noncomputable def ent(m:MeT):List EnT:=(rdv (hwr m (acv m))).1
noncomputable def entv(m:MeT):List EnT×Int×Unit:=if mvl m=true then(ent m,0,())else([],1,())
noncomputable def fky(es:List EnT)(key:Int):Option Nat:=fnd (fun j=>(es.getD j dE).1==key) es.length 0
noncomputable def rdk(m:MeT)(key:Int):List Int×Int×Unit:=if mvl m=true then(if key<0\/key>254 then([],2,())else(match fky (ent m) key with|some j=>(((ent m).getD j dE).2.1,0,())|none=>([],7,())))else([],1,())
noncomputable def opn(f:FlT)(a n:Int):MeT×Int×Unit:=if fv f=true then(if plc (f,a,n,())=true then(if acb (f,a,n,())=true then((f,a,n,()),0,())else(zM,7,()))else(zM,2,()))else(zM,1,())
end Sp
theorem half_1{m:MeT}(hv:Sp.fv m.1=true)(hp:Sp.plc m=true):(Sp.hwr m (Sp.acv m)).length<=600/\1<=(Sp.hwr m (Sp.acv m)).length:=by
 have l:=hwr_len hv hp (acv_lt m)
 have b:=pl_b hv hp
 omega
theorem ent_b{m:MeT}(hw:W32f m.1)(h:Sp.mvl m=true):KOK (Sp.ent m)/\(Sp.ent m).length<=600:=by
 obtain⟨hv,hp,_⟩:=mvl_d h
 have l:=half_1 hv hp
 have r:=rdv_b (hw.half (Sp.acv m)) l.1 l.2
 exact⟨r.1,by have:=r.2.1;unfold Sp.ent;omega⟩
theorem ent_pv{m:MeT}(hw:W32f m.1):p_18 m=true/\v_18 m=Sp.entv m:=by
 have v:=mvl_pv hw
 refine pv_18 m ?_
 unfold F_18 Sp.entv
 rw[v.1,v.2,gd_tt]
 dsimp only
 cases hm:Sp.mvl m
 ·rfl
 obtain⟨hv,hp,_⟩:=mvl_d hm
 have a:=acv_pv hw hv hp
 rw[Bool.not_true,cond_f,if_pos rfl,a.1,a.2,gd_tt]
 dsimp only
 have r:=read_pv hw hv hp (acv_lt m)
 rw[r.1,r.2,gd_tt]
 rfl
theorem cpy_pv{f:FlT}(h:Sp.fv f=true):p_69 f=true/\v_69 f=(f,()):=by
 have v:=fv_iff.1 h
 refine pv_69 f ?_
 unfold F_69
 rw[gd_room (by omega) (by omega),gd_room (by omega) (by omega)]
set_option maxRecDepth 100000
set_option maxHeartbeats 4000000
theorem orW_len(ws:List Int)(o:Nat)(b:Int)(n:Nat):(Sp.orW ws o b n).length=ws.length:=by simp[Sp.orW]
theorem orW_get(ws:List Int)(o:Nat)(b:Int)(n i:Nat)(h:i<ws.length):(Sp.orW ws o b n).getD i 0=if o<=i/\i<o+n then Sp.orI .u32 (ws.getD i 0) b else ws.getD i 0:=by
 have hl:i<(Sp.orW ws o b n).length:=by rw[orW_len];exact h
 rw[getD_at 0 hl,getD_at 0 h]
 simp[Sp.orW]
theorem orW_zero(ws:List Int)(o:Nat)(b:Int):Sp.orW ws o b 0=ws:=by
 refine list_ext 0 (orW_len ..) (fun j hj=> ?_)
 rw[orW_len]at hj
 rw[orW_get _ _ _ _ _ hj,if_neg (by omega)]
theorem orW_succ(ws:List Int)(o:Nat)(b:Int)(n:Nat)(h:o+n<ws.length):(Sp.orW ws o b n).set (o+n) (Sp.orI .u32 ((Sp.orW ws o b n).getD (o+n) 0) b)=Sp.orW ws o b (n+1):=by
 refine list_ext 0 (by rw[List.length_set,orW_len,orW_len]) (fun j hj=> ?_)
 rw[List.length_set,orW_len]at hj
 rw[getD_set _ _ _ _ _ (by rw[orW_len];exact h),orW_get _ _ _ _ _ hj,orW_get _ _ _ _ _ hj,orW_get _ _ _ _ _ h]
 split
 ·subst j
  rw[if_neg (by omega),if_pos (by omega)]
 ·by_cases hh:o<=j/\j<o+n
  ·rw[if_pos hh,if_pos (by omega)]
  ·rw[if_neg hh,if_neg (by omega)]
theorem ers_ok{f:FlT}{p:PwT}{s:Nat}(h:Sp.fv f=true)(h0:0<=p.1)(h1:p.1<=1099511627776)(h2:s<f.2.1.length):F_73 f s p=some (Sp.ers f s p):=by
 have hv:=fv_iff.1 h
 unfold F_73 Sp.ers Sp.ew
 rw[(chk_pv h h0 h1 (by omega) (by omega)).1,(chk_pv h h0 h1 (by omega) (by omega)).2,gd_tt,cond_nff rfl,gd_inB (by omega) (by omega),Int.toNat_natCast]
 by_cases e:f.2.1.getD s 0=f.2.2.1
 ·rw[cond_ett e,if_pos e]
 rw[cond_eff e,if_neg e,gd_room (by omega) (by omega),gd_room (by omega) (by omega)]
 have hb:=hv.2.2.2.2.2 s h2
 by_cases e0:p.1=0
 ·rw[cond_ett e0,if_pos e0]
 rw[cond_eff e0,if_neg e0,wi64 (n:=(s:Int)+1) (by omega) (by omega),wi64 (n:=(s:Int)*64) (by omega) (by omega),wi64 (n:=((s:Int)+1)*64) (by omega) (by omega),gd_sl3 (by omega) (by omega) (by omega),
  show(((s:Int)+1)*64).toNat-((s:Int)*64).toNat=64 by omega,show((s:Int)*64).toNat=s*64 by omega]
 have hr:∀(b:Int)(p5:FlT)(p6:Int)(p7:PwT)(p8:Int×PUnit)(p9:PwT)(p10:FlT)(p11:PwT)(p12:Int×PUnit)(p13:PwT)(p15:List Int)(p16 p17:Int×PUnit),L_73_95_0_0 4611686018427387904 b (s*64) 64 ((64:Nat):Int) 0 p5 p6 p7 p8 p9 p10 p11 p12 p13 f.1 p15 p16 p17=some (.e0 p5 p6 p7 p8 p9 p10 p11 p12 p13 (Sp.orW f.1 (s*64) b 64) p15 p16 p17):=by
  intro b p5 p6 p7 p8 p9 p10 p11 p12 p13 p15 p16 p17
  have:=run0 (fun m i ws=>L_73_95_0_0 m b (s*64) 64 ((64:Nat):Int) i p5 p6 p7 p8 p9 p10 p11 p12 p13 ws p15 p16 p17) (n:=64) (fun j=>Sp.orW f.1 (s*64) b j) (r:=some (.e0 p5 p6 p7 p8 p9 p10 p11 p12 p13 (Sp.orW f.1 (s*64) b 64) p15 p16 p17)) (by omega) (fun m j hj=>by
   show L_73_95_0_0 (m+1) b (s*64) 64 ((64:Nat):Int) (j:Int) p5 p6 p7 p8 p9 p10 p11 p12 p13 (Sp.orW f.1 (s*64) b j) p15 p16 p17=_
   rw[L_73_95_0_0,S_73_95_0_0,cond_dtt (by omega)]
   simp only[gd_inB (show(0:Int)<=(j:Int) by omega) (show(j:Int)<((64:Nat):Int) by omega),Int.toNat_natCast,Bool.and_true,orW_len,gd_dec (show s*64+j<f.1.length by omega)]
   rw[orW_succ _ _ _ _ (by omega),wi64 (by omega) (by omega)]
   push_cast
   rfl) (fun m=>by
   show L_73_95_0_0 (m+1) b (s*64) 64 ((64:Nat):Int) ((64:Nat):Int) p5 p6 p7 p8 p9 p10 p11 p12 p13 (Sp.orW f.1 (s*64) b 64) p15 p16 p17=_
   rw[L_73_95_0_0,S_73_95_0_0,cond_dff (by omega)])
  rw[orW_zero]at this
  exact this
 simp only[hr,B_73_95_0_0]
 simp only[gd_inB (show(0:Int)<=(s:Int) by omega) (show(s:Int)<((f.2.1.length:Nat):Int) by omega),Int.toNat_natCast,Bool.and_true,gd_dec h2]
 rw[wi64 (n:=f.2.1.getD s 0+1) (by omega) (by omega)]
 by_cases e1:p.1=1
 ·rw[cond_ett e1,if_pos e1]
 rw[cond_eff e1,if_neg e1,wi64 (by omega) (by omega),gd_sl3 (by omega) (by omega) (by omega)]
theorem ers_pv{f:FlT}{p:PwT}{s:Nat}(h:Sp.fv f=true)(h0:0<=p.1)(h1:p.1<=1099511627776)(h2:s<f.2.1.length):p_73 f s p=true/\v_73 f s p=Sp.ers f s p:=pv_73 f s p (ers_ok h h0 h1 h2)
abbrev StT:=Bool×Int×Int×Unit
abbrev OuM:=MeT×PwT×Int×Unit
namespace Sp
noncomputable def pok(p:PwT):Bool:=decide (0<=p.1)&&decide (p.1<=1099511627776)
noncomputable def dop(s:RsT)(x:StT):RsT:=if x.1=true then ers s.1 x.2.1.toNat s.2.1 else prg s.1 x.2.1.toNat x.2.2.1 s.2.1
noncomputable def dol:List StT->RsT->RsT
 |[],s=>s
 |x::l,s=>if s.2.2.1=0 then dol l (dop s x)else s
noncomputable def dov(m:MeT)(l:List StT)(p:PwT):OuM:=if(dol l (m.1,p,0,())).2.2.1=0\/(dol l (m.1,p,0,())).2.2.1=18 then(((dol l (m.1,p,0,())).1,m.2),(dol l (m.1,p,0,())).2.1,(dol l (m.1,p,0,())).2.2.1,())else(zM,(0,0,()),(dol l (m.1,p,0,())).2.2.1,())
noncomputable def erl:Nat->Int->List StT
 |0,_=>[]
 |n+1,a=>(true,a,0,())::erl n (a+1)
noncomputable def wor(f:FlT):Nat->Nat->Bool
 |0,_=>false
 |n+1,a=>decide (f.2.1.getD a 0>=f.2.2.1)||wor f n (a+1)
noncomputable def pgl:List Int->Int->List StT
 |[],_=>[]
 |x::l,a=>(false,a,x,())::pgl l (a+1)
noncomputable def fmv(f:FlT)(a n:Int)(p:PwT):OuM:=if fv f=true/\pok p=true then(if plc (f,a,n,())=true then(if wor f n.toNat a.toNat=true then(zM,(0,0,()),19,())else dov (f,a,n,()) (erl n.toNat a++pgl [prw 1] (64*a)) p)else(zM,(0,0,()),2,()))else(zM,(0,0,()),1,())
end Sp
theorem dol_stop(l:List StT){s:RsT}(h:s.2.2.1≠0):Sp.dol l s=s:=by
 cases l with
 |nil=>rfl
 |cons x l=>rw[Sp.dol,if_neg h]
theorem bv_rng(b:BitVec 32):0<=wrap .u32 ((b.toNat:Nat):Int)/\wrap .u32 ((b.toNat:Nat):Int)<4294967296:=by
 have:=b.isLt
 rw[u32_wrap_nat b.isLt];omega
theorem W32f_orW{f:FlT}(h:W32f f)(o:Nat)(b:Int)(n:Nat)(r:List Int×Int×Unit):W32f (Sp.orW f.1 o b n,r):=by
 intro x hx
 obtain⟨i,hi,e⟩:=List.mem_iff_getElem.1 hx
 have hl:i<f.1.length:=by rw[show(Sp.orW f.1 o b n,r).1=Sp.orW f.1 o b n from rfl,orW_len]at hi;exact hi
 have g:=orW_get f.1 o b n i hl
 rw[getD_at 0 (by rw[orW_len];exact hl)]at g
 have e:(Sp.orW f.1 o b n)[i]'(by rw[orW_len];exact hl)=x:=e
 rw[e]at g
 rw[g]
 split
 ·exact bv_rng _
 ·exact h.at i
theorem fv_ew{f:FlT}{s:Nat}(b:Int)(h:Sp.fv f=true)(h1:f.2.1.getD s 0≠f.2.2.1)(h2:s<f.2.1.length):Sp.fv (Sp.ew f s b)=true:=by
 have hv:=fv_iff.1 h
 unfold Sp.ew
 refine fv_iff.2 ⟨?_,?_,?_,hv.2.2.2.1,hv.2.2.2.2.1,fun j hj=> ?_⟩
 ·simp only[List.length_set];omega
 ·simp only[List.length_set];omega
 ·simp only[List.length_set,orW_len];omega
 ·simp only[List.length_set]at hj
  have a:=hv.2.2.2.2.2 j hj
  have c:=hv.2.2.2.2.2 s h2
  dsimp only
  rw[getD_set _ _ _ _ _ h2]
  split
  ·omega
  ·exact a
structure SG(f0:FlT)(s:RsT):Prop where
 v:Sp.fv s.1=true
 l:s.1.1.length=f0.1.length
 n:s.1.2.1.length=f0.2.1.length
 w:W32f s.1
 p0:0<=s.2.1.1
 p1:s.2.1.1<=1099511627776
 e:s.2.2.1=0\/s.2.2.1=18
noncomputable def SV(f0:FlT)(x:StT):Prop:=0<=x.2.1/\(x.1=true->x.2.1<f0.2.1.length)/\(x.1=false->x.2.1<f0.1.length)
theorem fv_pw(f:FlT)(k:Nat)(w b:Int):Sp.fv (Sp.pw f k w b)=Sp.fv f:=by
 unfold Sp.pw Sp.fv
 dsimp only
 rw[List.length_set]
 rfl
theorem prg_sg{f0:FlT}{s:RsT}(h:SG f0 s)(k:Nat)(x:Int):SG f0 (Sp.prg s.1 k x s.2.1):=by
 have hw:∀b,W32f (Sp.pw s.1 k x b):=fun b y hy=>by
  rcases List.mem_or_eq_of_mem_set hy with h1|rfl
  ·exact h.w y h1
  ·exact bv_rng _
 have hl:∀b,(Sp.pw s.1 k x b).1.length=f0.1.length:=fun b=>by unfold Sp.pw;dsimp only;rw[List.length_set];exact h.l
 have p0:=h.p0
 have p1:=h.p1
 unfold Sp.prg
 split
 ·exact⟨h.v,h.l,h.n,h.w,h.p0,h.p1,.inr rfl⟩
 split
 ·exact⟨by rw[fv_pw];exact h.v,hl _,h.n,hw _,Int.le_refl _,by show(0:Int)<=_;decide,.inr rfl⟩
 ·refine⟨by rw[fv_pw];exact h.v,hl _,h.n,hw _,?_,?_,.inl rfl⟩
  ·show 0<=s.2.1.1-1;omega
  ·show s.2.1.1-1<=_;omega
theorem ers_sg{f0:FlT}{s:RsT}(h:SG f0 s){k:Nat}(hk:k<f0.2.1.length):SG f0 (Sp.ers s.1 k s.2.1)\/(Sp.ers s.1 k s.2.1).2.2.1=19:=by
 have p0:=h.p0
 have p1:=h.p1
 have hkl:k<s.1.2.1.length:=by rw[h.n];exact hk
 by_cases hn:s.1.2.1.getD k 0=s.1.2.2.1
 ·right
  unfold Sp.ers
  rw[if_pos hn]
 left
 have he:∀b,Sp.fv (Sp.ew s.1 k b)=true:=fun b=>fv_ew b h.v hn hkl
 have hl1:∀b,(Sp.ew s.1 k b).1.length=f0.1.length:=fun b=>by unfold Sp.ew;dsimp only;rw[orW_len];exact h.l
 have hw1:∀b,W32f (Sp.ew s.1 k b):=fun b=>W32f_orW h.w _ _ _ _
 have hn1:∀b,(Sp.ew s.1 k b).2.1.length=f0.2.1.length:=fun b=>by unfold Sp.ew;dsimp only;rw[List.length_set];exact h.n
 unfold Sp.ers
 rw[if_neg hn]
 split
 ·exact⟨h.v,h.l,h.n,h.w,p0,p1,.inr rfl⟩
 split
 ·exact⟨he _,hl1 _,hn1 _,hw1 _,Int.le_refl _,(by show(0:Int)<=_;decide),.inr rfl⟩
 ·exact⟨he _,hl1 _,hn1 _,hw1 _,(by show 0<=s.2.1.1-1;omega),(by show s.2.1.1-1<=_;omega),.inl rfl⟩
theorem dop_sg{f0:FlT}{s:RsT}(h:SG f0 s){x:StT}(hx:SV f0 x):SG f0 (Sp.dop s x)\/(Sp.dop s x).2.2.1=19:=by
 unfold Sp.dop
 cases hb:x.1
 ·rw[if_neg Bool.false_ne_true]
  exact .inl (prg_sg h _ _)
 ·rw[if_pos rfl]
  have:=hx.2.1 hb
  have:=hx.1
  exact ers_sg h (by omega)
theorem dol_sg{f0:FlT}:∀(l:List StT){s:RsT},SG f0 s->(∀x∈l,SV f0 x)->SG f0 (Sp.dol l s)\/(Sp.dol l s).2.2.1=19
 |[],s,h,_=> .inl h
 |x::l,s,h,hv=>by
  rw[Sp.dol]
  split
  ·rcases dop_sg h (hv x (by simp))with g|g
   ·exact dol_sg l g (fun y hy=>hv y (by simp[hy]))
   ·rw[dol_stop _ (by rw[g];decide)];exact .inr g
  ·exact .inl h
theorem drop_s{l:List StT}{j:Nat}(d:StT)(h:j<l.length):l.drop j=l.getD j d::l.drop (j+1):=by
 rw[List.drop_eq_getElem_cons h,List.getD_eq_getElem?_getD,List.getElem?_eq_getElem h];rfl
theorem dv_l{f0:FlT}(l:List StT)(hv:∀x∈l,SV f0 x)(hl:l.length<=1000000)(hf:f0.1.length<=100000)(hf2:f0.2.1.length<=1000)(r:Int×Int×Unit)(p5:Int×Unit)(p6:PwT)(p7 p8:List Int)(p9:PwT):∀(d m j:Nat)(s:RsT),SG f0 s->s.2.2.1=0->j+d=l.length->d<m->
 L_47_0 m l l.length j s.1.2 r s.1.1 s.2.1 p5 p6 p7 p8 p9=some (if(Sp.dol (l.drop j) s).2.2.1=0 then .e2 (Sp.dol (l.drop j) s).1.2 r (Sp.dol (l.drop j) s).1.1 (Sp.dol (l.drop j) s).2.1 p5 p6 p7 p8 p9 else if(Sp.dol (l.drop j) s).2.2.1=18 then .e0 18 (Sp.dol (l.drop j) s).1.2 r (Sp.dol (l.drop j) s).1.1 (Sp.dol (l.drop j) s).2.1 else .e1 (Sp.dol (l.drop j) s).2.2.1):=by
 intro d
 induction d with
 |zero=>
  intro m j s h e hj hm
  obtain⟨m,rfl⟩:∃k,m=k+1:=⟨m-1,by omega⟩
  rw[L_47_0,S_47_0,cond_dff (by omega),List.drop_of_length_le (by omega),Sp.dol,if_pos e]
 |succ d ih=>
  intro m j s h e hj hm
  obtain⟨m,rfl⟩:∃k,m=k+1:=⟨m-1,by omega⟩
  have hjl:j<l.length:=by omega
  have hx:=hv _ (List.getElem_mem hjl)
  rw[<-getD_at Zd0 hjl]at hx
  have fl:=h.l
  have fn:=h.n
  rw[L_47_0,S_47_0,cond_dtt (by omega),gd_inB (by omega) (by omega),Int.toNat_natCast,drop_s Zd0 hjl,Sp.dol,if_pos e]
  generalize getD l j Zd0=x at *
  have hg:=dop_sg h hx
  have x0:=hx.1
  have fin:∀t:RsT,t=Sp.dop s x->B_47_1 (J_47_1 t.2.2.1 l l.length j t.1.2 r t.1.1 t.2.1 p5 p6 p7 p8 p9) (fun y30 y31 ya yb y32=>some (.e0 y30 y31 ya yb y32)) (fun y33=>some (.e1 y33)) (fun y34 y35 y36 y37 y38 ya yb y39 y40 y41 y42 y43 y44=>L_47_0 m y35 y36 (wrap .i64 (y37+1)) y38 ya yb y39 y40 y41 y42 y43 y44)=some (if(Sp.dol (l.drop (j+1)) (Sp.dop s x)).2.2.1=0 then .e2 (Sp.dol (l.drop (j+1)) (Sp.dop s x)).1.2 r (Sp.dol (l.drop (j+1)) (Sp.dop s x)).1.1 (Sp.dol (l.drop (j+1)) (Sp.dop s x)).2.1 p5 p6 p7 p8 p9 else if(Sp.dol (l.drop (j+1)) (Sp.dop s x)).2.2.1=18 then .e0 18 (Sp.dol (l.drop (j+1)) (Sp.dop s x)).1.2 r (Sp.dol (l.drop (j+1)) (Sp.dop s x)).1.1 (Sp.dol (l.drop (j+1)) (Sp.dop s x)).2.1 else .e1 (Sp.dol (l.drop (j+1)) (Sp.dop s x)).2.2.1):=by
   rintro t rfl
   unfold J_47_1 S_47_1
   by_cases e18:(Sp.dop s x).2.2.1=18
   ·rw[cond_ett e18,dol_stop _ (by rw[e18];decide),if_neg (by rw[e18];decide),if_pos e18,e18]
    rfl
   rw[cond_eff e18]
   by_cases e0:(Sp.dop s x).2.2.1=0
   ·rw[cond_nff e0]
    unfold B_47_1
    dsimp only
    rw[wi64 (by omega) (by omega),show(j:Int)+1=((j+1:Nat):Int) by push_cast;rfl]
    rcases hg with g|g
    ·exact ih m (j+1) _ g e0 (by omega) (by omega)
    ·rw[e0]at g;cases g
   ·rw[cond_ntt e0,dol_stop _ e0,if_neg e0,if_neg e18]
    rfl
  cases hb:x.1 with
  |true=>
   have:=hx.2.1 hb
   have pv:=ers_pv (f:=s.1) (p:=s.2.1) (s:=x.2.1.toNat) h.v h.p0 h.p1 (by omega)
   rw[show((x.2.1.toNat:Nat):Int)=x.2.1 by omega]at pv
   rw[cond_t,pv.1,pv.2,gd_tt]
   exact fin _ (by unfold Sp.dop;rw[if_pos hb])
  |false=>
   have:=hx.2.2 hb
   have pv:=prg_pv (f:=s.1) (p:=s.2.1) (k:=x.2.1.toNat) (w:=x.2.2.1) h.v h.p0 h.p1 (by omega)
   rw[show((x.2.1.toNat:Nat):Int)=x.2.1 by omega]at pv
   rw[cond_f,pv.1,pv.2,gd_tt]
   exact fin _ (by unfold Sp.dop;rw[if_neg (by rw[hb];exact Bool.false_ne_true)])
theorem SG.init{f:FlT}{p:PwT}(h:Sp.fv f=true)(hw:W32f f)(h0:0<=p.1)(h1:p.1<=1099511627776):SG f (f,p,0,()):=⟨h,rfl,rfl,hw,h0,h1,.inl rfl⟩
theorem do_pv{m:MeT}{l:List StT}{p:PwT}(hv:Sp.fv m.1=true)(hw:W32f m.1)(h0:0<=p.1)(h1:p.1<=1099511627776)(hs:∀x∈l,SV m.1 x)(hl:l.length<=1000000):p_47 m l p=true/\v_47 m l p=Sp.dov m l p:=by
 have c:=cpy_pv hv
 have v:=fv_iff.1 hv
 refine pv_47 m l p ?_
 unfold F_47 Sp.dov
 rw[c.1,c.2,gd_tt]
 have t:=dv_l (f0:=m.1) l hs hl (by omega) (by omega) m.2 (0,()) (0,0,()) [] [] (0,0,()) l.length 4611686018427387904 0 _ (SG.init hv hw h0 h1) rfl (by omega) (by omega)
 rw[List.drop_zero]at t
 refine(congrArg (fun z=>B_47_0 z _ _ _) t).trans ?_
 by_cases e0:(Sp.dol l (m.1,p,0,())).2.2.1=0
 ·rw[if_pos e0,if_pos (.inl e0),e0]
  rfl
 rw[if_neg e0]
 by_cases e1:(Sp.dol l (m.1,p,0,())).2.2.1=18
 ·rw[if_pos e1,if_pos (.inr e1),e1]
  rfl
 ·rw[if_neg e1,if_neg (fun a=>a.elim e0 e1)]
  rfl
theorem erl_len:∀(n:Nat)(a:Int),(Sp.erl n a).length=n
 |0,_=>rfl
 |n+1,a=>by rw[Sp.erl,List.length_cons,erl_len n]
theorem erl_snoc:∀(n:Nat)(a:Int),Sp.erl (n+1) a=Sp.erl n a++[(true,a+n,0,())]
 |0,a=>by simp[Sp.erl]
 |n+1,a=>by
  rw[Sp.erl,erl_snoc n (a+1),Sp.erl,List.cons_append]
  congr 3
  congr 2
  omega
theorem erl_sv{f0:FlT}:∀(n:Nat)(a:Int),0<=a->a+n<=f0.2.1.length->∀x∈Sp.erl n a,SV f0 x
 |0,a,_,_=>by simp[Sp.erl]
 |n+1,a,h0,h1=>by
  intro x hx
  rw[Sp.erl]at hx
  rcases List.mem_cons.1 hx with rfl|hx
  ·exact⟨h0,(fun _=>by show a<_;omega),(fun h=>by cases h)⟩
  ·exact erl_sv n (a+1) (by omega) (by omega) x hx
theorem pgl_sv{f0:FlT}:∀(l:List Int)(a:Int),0<=a->a+l.length<=f0.1.length->∀x∈Sp.pgl l a,SV f0 x
 |[],a,_,_=>by simp[Sp.pgl]
 |w::l,a,h0,h1=>by
  intro x hx
  rw[List.length_cons]at h1
  rw[Sp.pgl]at hx
  rcases List.mem_cons.1 hx with rfl|hx
  ·exact⟨h0,(fun h=>by cases h),(fun _=>by show a<_;omega)⟩
  ·exact pgl_sv l (a+1) (by omega) (by omega) x hx
theorem pgl_len:∀(l:List Int)(a:Int),(Sp.pgl l a).length=l.length
 |[],_=>rfl
 |x::l,a=>by rw[Sp.pgl,List.length_cons,List.length_cons,pgl_len l]
theorem pgl_snoc:∀(l:List Int)(x a:Int),Sp.pgl (l++[x]) a=Sp.pgl l a++[(false,a+l.length,x,())]
 |[],x,a=>by simp[Sp.pgl]
 |y::l,x,a=>by
  rw[List.cons_append,Sp.pgl,pgl_snoc l x (a+1),Sp.pgl,List.cons_append]
  congr 3
  congr 2
  rw[List.length_cons];omega
theorem erl_l{m:MeT}(hw:m.1.2.1.length<=1000)(b:Nat)(hb:b<=m.1.2.1.length):∀(d q i:Nat)(a:Nat)(acc:Nat),a+acc=i->i+d=b->d<q->L_46_0 q b i m (Sp.erl acc a)=some (if Sp.wor m.1 d i=true then .e0 else .e1 (Sp.erl (acc+d) a)):=by
 intro d
 induction d with
 |zero=>
  intro q i a acc h1 h2 h3
  obtain⟨q,rfl⟩:∃k,q=k+1:=⟨q-1,by omega⟩
  rw[L_46_0,S_46_0,cond_dff (by omega),Sp.wor,if_neg Bool.false_ne_true]
  rfl
 |succ d ih=>
  intro q i a acc h1 h2 h3
  obtain⟨q,rfl⟩:∃k,q=k+1:=⟨q-1,by omega⟩
  rw[L_46_0,S_46_0,cond_dtt (by omega),gd_inB (by omega) (by omega),Int.toNat_natCast,Sp.wor]
  by_cases c:m.1.2.1.getD i 0>=m.1.2.2.1
  ·rw[cond_dtt c,decide_eq_true c,Bool.true_or,if_pos rfl]
  ·rw[cond_dff c,decide_eq_false c,Bool.false_or,erl_len,gd_room (by omega) (by omega),wi64 (by omega) (by omega),show(i:Int)+1=((i+1:Nat):Int) by push_cast;rfl]
   have:=ih q (i+1) a (acc+1) (by omega) (by omega) (by omega)
   rw[erl_snoc,show(a:Int)+(acc:Int)=(i:Int) by omega]at this
   rw[this,show acc+1+d=acc+(d+1) by omega]
theorem erl_pv{m:MeT}(hw:m.1.2.1.length<=1000)(a n:Nat)(hb:a+n<=m.1.2.1.length):p_46 m (a:Int) ((a+n:Nat):Int)=true/\v_46 m (a:Int) ((a+n:Nat):Int)=(if Sp.wor m.1 n a=true then([],false,())else(Sp.erl n a,true,())):=by
 refine pv_46 _ _ _ ?_
 unfold F_46
 have t:=erl_l hw (a+n) hb n 4611686018427387904 a a 0 (by omega) rfl (by omega)
 refine(congrArg (fun z=>B_46_0 z _ _) t).trans ?_
 cases Sp.wor m.1 n a
 ·rw[if_neg Bool.false_ne_true,if_neg Bool.false_ne_true,Nat.zero_add];rfl
 ·rfl
theorem pgl_pv{l:List Int}(hl:l.length<=100000){a:Int}(h0:0<=a)(h1:a<=1000000):p_48 a l=true/\v_48 a l=(Sp.pgl l a,()):=by
 refine pv_48 a l ?_
 unfold F_48
 have t:=run0 (fun m i acc=>L_48_0 m a l l.length i acc) (n:=l.length) (fun j=>Sp.pgl (l.take j) a) (r:=some (.e0 (Sp.pgl l a))) (by omega) (fun m j hj=>by
  have hlen:(Sp.pgl (l.take j) a).length=j:=by rw[pgl_len,List.length_take];omega
  show L_48_0 (m+1) a l l.length (j:Int) (Sp.pgl (l.take j) a)=L_48_0 m a l l.length ((j+1:Nat):Int) (Sp.pgl (l.take (j+1)) a)
  rw[L_48_0,S_48_0,cond_dtt (by omega),gd_inB (by omega) (by omega),Int.toNat_natCast,hlen,gd_room (by omega) (by omega),wi64 (n:=(j:Int)+1) (by omega) (by omega),wi64 (n:=a+(j:Int)) (by omega) (by omega),List.take_succ_eq_append_getElem hj,pgl_snoc,List.length_take,Nat.min_eq_left (by omega),getD_at 0 hj]
  rfl) (fun m=>by
  show L_48_0 (m+1) a l l.length (l.length:Int) (Sp.pgl (l.take l.length) a)=_
  rw[L_48_0,S_48_0,cond_dff (by omega),List.take_length])
 exact(congrArg (fun z=>B_48_0 z _) t).trans rfl
theorem pow_pv(p:PwT):p_44 p=true/\v_44 p=(Sp.pok p,()):=by
 refine pv_44 p ?_
 unfold F_44 Sp.pok
 by_cases h:p.1>=0
 ·rw[cond_dtt h,decide_eq_true (p:=0<=p.1) h,Bool.true_and]
 ·rw[cond_dff h,decide_eq_false (p:=0<=p.1) h,Bool.false_and]
theorem fm_sv{f:FlT}{a n:Int}(hv:Sp.fv f=true)(hp:Sp.plc (f,a,n,())=true):∀x∈Sp.erl n.toNat a++Sp.pgl [Sp.prw 1] (64*a),SV f x:=by
 obtain⟨p1,p2,p3,p4,p5⟩:=plc_iff.1 hp
 dsimp only at p1 p2 p3 p4 p5
 have v:=fv_iff.1 hv
 intro x hx
 rcases List.mem_append.1 hx with hx|hx
 ·exact erl_sv _ a p4 (by omega) x hx
 ·exact pgl_sv _ _ (by omega) (by rw[List.length_singleton];omega) x hx
theorem fmt_pv{f:FlT}{a n:Int}{p:PwT}(hw:W32f f):p_11 f a n p=true/\v_11 f a n p=Sp.fmv f a n p:=by
 have v:=fv_pv f
 have pw:=pow_pv p
 refine pv_11 f a n p ?_
 unfold F_11 Sp.fmv
 rw[v.1,v.2,gd_tt,pw.1,pw.2,gd_tt]
 dsimp only
 cases hv:Sp.fv f
 ·rw[if_neg (fun a=>Bool.noConfusion a.1)];rfl
 cases hp:Sp.pok p
 ·rw[if_neg (fun a=>Bool.noConfusion a.2)];rfl
 have hpb:0<=p.1/\p.1<=1099511627776:=by unfold Sp.pok at hp;simpa using hp
 have hl:=fv_iff.1 hv
 have pl:=plc_pv (f,a,n,()) (show f.2.1.length<=1000000 by omega)
 rw[Bool.not_true,cond_f,cond_f,if_pos ⟨rfl,rfl⟩,pl.1,pl.2,gd_tt]
 dsimp only
 cases hpl:Sp.plc (f,a,n,())
 ·rfl
 obtain⟨p1,p2,p3,p4,p5⟩:=plc_iff.1 hpl
 dsimp only at p1 p2 p3 p4 p5
 have er:=erl_pv (m:=(f,a,n,())) (show f.2.1.length<=1000 by omega) a.toNat n.toNat (show a.toNat+n.toNat<=f.2.1.length by omega)
 rw[show((a.toNat:Nat):Int)=a by omega,show((a.toNat+n.toNat:Nat):Int)=a+n by omega]at er
 rw[Bool.not_true,cond_f,if_pos rfl,wi64 (by omega) (by omega),er.1,er.2,gd_tt]
 dsimp only
 cases hwo:Sp.wor f n.toNat a.toNat
 rotate_left
 ·rfl
 have b:=pl_b (m:=(f,a,n,())) hv hpl
 have ad:=adr_pv (m:=(f,a,n,())) hv hpl (k:=0) (by decide) (i:=0) (by omega) (by omega)
 rw[b.2.2.2.2.2.2.1,Int.add_zero]at ad
 have ad:p_49 (f,a,n,()) 0 0=true/\v_49 (f,a,n,()) 0 0=(64*a,()):=ad
 have p1v:=pair_pv (n:=1) (by decide) (by decide)
 have pg:=pgl_pv (l:=[Sp.prw 1]) (by simp) (a:=64*a) (by omega) (by omega)
 rw[if_neg Bool.false_ne_true,if_neg Bool.false_ne_true,Bool.not_true,cond_f,ad.1,ad.2,gd_tt,p1v.1,p1v.2,gd_tt]
 dsimp only
 rw[pg.1,pg.2,gd_tt]
 dsimp only
 rw[erl_len,pgl_len,List.length_singleton,gd_room (by omega) (by omega)]
 have d:=do_pv (m:=(f,a,n,())) (l:=Sp.erl n.toNat a++Sp.pgl [Sp.prw 1] (64*a)) (p:=p) hv hw hpb.1 hpb.2 (fm_sv hv hpl) (by rw[List.length_append,erl_len,pgl_len,List.length_singleton];omega)
 rw[d.1,d.2,gd_tt]
set_option maxRecDepth 100000
set_option maxHeartbeats 4000000
namespace Sp
noncomputable def rac(m:MeT):Int:=if acb m=true then(acv m:Int)else-1
end Sp
set_option maxRecDepth 100000
set_option maxHeartbeats 4000000
namespace Sp
noncomputable def rdo(m:MeT)(l:List StT)(p:PwT):OuM:=(((dol l (m.1,p,0,())).1,m.2),(dol l (m.1,p,0,())).2.1,(dol l (m.1,p,0,())).2.2.1,())
end Sp
set_option maxRecDepth 100000
set_option maxHeartbeats 4000000
theorem or_blank(x:Int):Sp.orI .u32 x 4294967295=4294967295:=by
 show wrap .u32 (((BitVec.ofInt 32 x|||BitVec.ofInt 32 4294967295).toNat:Nat):Int)=4294967295
 rw[show BitVec.ofInt 32 4294967295=BitVec.allOnes 32 from by decide,BitVec.or_allOnes]
 rfl
theorem dol_app:∀(x y:List StT)(s:RsT),Sp.dol (x++y) s=Sp.dol y (Sp.dol x s)
 |[],y,s=>rfl
 |a::x,y,s=>by
  rw[List.cons_append,Sp.dol,Sp.dol]
  by_cases e:s.2.2.1=0
  ·rw[if_pos e,if_pos e,dol_app x y]
  ·rw[if_neg e,if_neg e,dol_stop y e]
structure EB(f0:FlT)(a k:Nat)(s:RsT):Prop where
 g:SG f0 s
 r:s.1.2.2=f0.2.2
 q:∀i,a+k<=i->s.1.2.1.getD i 0=f0.2.1.getD i 0
 b:s.2.2.1=0->∀i,64*a<=i->i<64*(a+k)->s.1.1.getD i 0=4294967295
 o:∀i,i<64*a\/64*(a+k)<=i->s.1.1.getD i 0=f0.1.getD i 0
theorem EB.init{f:FlT}{p:PwT}(h:Sp.fv f=true)(hw:W32f f)(h0:0<=p.1)(h1:p.1<=1099511627776)(a:Nat):EB f a 0 (f,p,0,()) :=
 ⟨SG.init h hw h0 h1,rfl,fun _ _=>rfl,fun _ i _ _=>by omega,fun _ _=>rfl⟩
theorem EB.up{f0:FlT}{a k j:Nat}{s:RsT}(h:EB f0 a k s)(hj:k<=j)(e:s.2.2.1≠0):EB f0 a j s:=
 ⟨h.g,h.r,fun i hi=>h.q i (by omega),fun e0=>absurd e0 e,fun i hi=>h.o i (by omega)⟩
theorem EB.step{f0:FlT}{a k:Nat}{s:RsT}(h:EB f0 a k s)(hk:a+k<f0.2.1.length)(hw:f0.2.1.getD (a+k) 0≠f0.2.2.1)(e:s.2.2.1=0):EB f0 a (k+1) (Sp.ers s.1 (a+k) s.2.1):=by
 have hl:s.1.2.2.1=f0.2.2.1:=by rw[h.r]
 have hn:s.1.2.1.getD (a+k) 0≠s.1.2.2.1:=by rw[h.q (a+k) (Nat.le_refl _),hl];exact hw
 have hkl:a+k<s.1.2.1.length:=by rw[h.g.n];exact hk
 have v:=fv_iff.1 h.g.v
 have sg:SG f0 (Sp.ers s.1 (a+k) s.2.1):=(ers_sg h.g hk).resolve_right (fun z=>by
  unfold Sp.ers at z
  rw[if_neg hn]at z
  split at z
  ·exact absurd (show(18:Int)=19 from z) (by decide)
  split at z
  ·exact absurd (show(18:Int)=19 from z) (by decide)
  ·exact absurd (show(0:Int)=19 from z) (by decide))
 have hr1:∀b,(Sp.ew s.1 (a+k) b).2.2=f0.2.2:=fun b=>by rw[<-h.r];rfl
 have hq1:∀b i,a+(k+1)<=i->(Sp.ew s.1 (a+k) b).2.1.getD i 0=f0.2.1.getD i 0:=fun b i hi=>by
  unfold Sp.ew;dsimp only
  rw[<-h.q i (by omega),getD_set _ _ _ _ _ hkl,if_neg (by omega)]
 have hg:∀b i,(Sp.ew s.1 (a+k) b).1.getD i 0=if 64*(a+k)<=i/\i<64*(a+k+1)then Sp.orI .u32 (s.1.1.getD i 0) b else s.1.1.getD i 0:=fun b i=>by
  unfold Sp.ew;dsimp only
  by_cases hi:i<s.1.1.length
  ·rw[orW_get _ _ _ _ _ hi]
   by_cases c:64*(a+k)<=i/\i<64*(a+k+1)
   ·rw[if_pos c,if_pos (by omega)]
   ·rw[if_neg c,if_neg (by omega)]
  ·rw[if_neg (by omega),List.getD_eq_getElem?_getD,List.getD_eq_getElem?_getD,List.getElem?_eq_none (by rw[orW_len];omega),List.getElem?_eq_none (by omega)]
 have ho1:∀b i,i<64*a\/64*(a+(k+1))<=i->(Sp.ew s.1 (a+k) b).1.getD i 0=f0.1.getD i 0:=fun b i hi=>by
  rw[hg,if_neg (by omega),h.o i (by omega)]
 revert sg
 unfold Sp.ers
 rw[if_neg hn]
 split
 ·exact fun sg=>⟨sg,h.r,fun i hi=>h.q i (by omega),fun z=>absurd z (show(18:Int)≠0 by decide),fun i hi=>h.o i (by omega)⟩
 split
 ·exact fun sg=>⟨sg,hr1 _,hq1 _,fun z=>absurd z (show(18:Int)≠0 by decide),ho1 _⟩
 ·refine fun sg=>⟨sg,hr1 _,hq1 _,fun _ i h1 h2=> ?_,ho1 _⟩
  show(Sp.ew s.1 (a+k) 4294967295).1.getD i 0=_
  rw[hg]
  split
  ·exact or_blank _
  ·exact h.b e i h1 (by omega)
theorem wor_at{f:FlT}:∀(n a:Nat),Sp.wor f n a=false->∀i,a<=i->i<a+n->f.2.1.getD i 0≠f.2.2.1
 |0,a,_,i,h1,h2=>by omega
 |n+1,a,h,i,h1,h2=>by
  rw[Sp.wor,Bool.or_eq_false_iff]at h
  by_cases e:i=a
  ·subst e
   have:=of_decide_eq_false h.1
   omega
  ·exact wor_at n (a+1) h.2 i (by omega) (by omega)
theorem erl_b{f0:FlT}{a:Nat}:∀(n k:Nat){s:RsT},EB f0 a k s->a+k+n<=f0.2.1.length->Sp.wor f0 n (a+k)=false->EB f0 a (k+n) (Sp.dol (Sp.erl n ((a+k:Nat):Int)) s)
 |0,k,s,h,_,_=>h
 |n+1,k,s,h,hl,hw=>by
  rw[Sp.erl,Sp.dol]
  split
  ·rename_i e
   have w0:=wor_at _ _ hw (a+k) (by omega) (by omega)
   have:=erl_b n (k+1) (h.step (by omega) w0 e) (by omega) (by
    rw[Sp.wor,Bool.or_eq_false_iff]at hw
    exact hw.2)
   unfold Sp.dop
   dsimp only
   rw[if_pos rfl,Int.toNat_natCast,show k+(n+1)=k+1+n by omega,show((a+k:Nat):Int)+1=((a+(k+1):Nat):Int) by push_cast;omega]
   exact this
  ·rename_i e
   exact h.up (by omega) e
noncomputable def Asc(es:List EnT):Prop:=∀i j,i<j->j<es.length->(es.getD i Sp.dE).1<(es.getD j Sp.dE).1
theorem bsl_at{es:List EnT}(h:Asc es)(key:Int):∀(f lo hi:Nat),hi-lo<=f->lo<=hi->hi<=es.length->(∀i,i<lo->(es.getD i Sp.dE).1<key)->(∀i,hi<=i->i<es.length->key<=(es.getD i Sp.dE).1) ->
 (∀i,i<Sp.bsl es key f lo hi->(es.getD i Sp.dE).1<key)/\(∀i,Sp.bsl es key f lo hi<=i->i<es.length->key<=(es.getD i Sp.dE).1)
 |0,lo,hi,h0,h1,h2,ha,hb=>by
  have:lo=hi:=by omega
  subst this
  exact⟨ha,hb⟩
 |f+1,lo,hi,h0,h1,h2,ha,hb=>by
  rw[Sp.bsl]
  split
  ·split
   ·rename_i c
    refine bsl_at h key f _ hi (by omega) (by omega) h2 (fun i hi2=> ?_) hb
    by_cases e:i=(lo+hi)/2
    ·rw[e];exact c
    ·have:=h i ((lo+hi)/2) (by omega) (by omega)
     omega
   ·rename_i c
    refine bsl_at h key f lo _ (by omega) (by omega) (by omega) ha (fun i h3 h4=> ?_)
    by_cases e:i=(lo+hi)/2
    ·rw[e];omega
    ·have:=h ((lo+hi)/2) i (by omega) h4
     omega
  ·have:lo=hi:=by omega
   subst this
   exact⟨ha,hb⟩
theorem plE_at{es:List EnT}(h:Asc es)(key:Int):(∀i,i<Sp.plE es key->(es.getD i Sp.dE).1<key)/\(∀i,Sp.plE es key<=i->i<es.length->key<=(es.getD i Sp.dE).1) :=
 bsl_at h key es.length 0 es.length (by omega) (Nat.zero_le _) (Nat.le_refl _) (fun i hi=>by omega) (fun i h1 h2=>by omega)
noncomputable def skE(es:List EnT)(key:Int):Nat:=if Sp.plE es key<es.length/\(es.getD (Sp.plE es key) Sp.dE).1=key then 1 else 0
theorem putE_eq(es:List EnT)(key:Int)(data:List Int):Sp.putE es key data=es.take (Sp.plE es key)++([(key,data,())]++es.drop (Sp.plE es key+skE es key)):=by
 unfold Sp.putE skE
 split
 ·rename_i c
  rw[List.set_eq_take_append_cons_drop,if_pos c.1]
  rfl
 ·rw[Nat.add_zero]
theorem putE_get(es:List EnT)(key:Int)(data:List Int)(i:Nat):((Sp.putE es key data).getD i Sp.dE).1=if i<Sp.plE es key then(es.getD i Sp.dE).1 else if i=Sp.plE es key then key else(es.getD (i-1+skE es key) Sp.dE).1:=by
 have hp:=plE_le es key
 have tl:(es.take (Sp.plE es key)).length=Sp.plE es key:=by rw[List.length_take];omega
 rw[putE_eq,List.getD_eq_getElem?_getD,List.getD_eq_getElem?_getD,List.getD_eq_getElem?_getD,List.getElem?_append,tl]
 split
 ·rename_i c
  rw[List.getElem?_take,if_pos c]
 ·rename_i c
  rw[List.singleton_append]
  obtain⟨d,rfl⟩:∃d,i=Sp.plE es key+d:=⟨i-Sp.plE es key,by omega⟩
  rw[Nat.add_sub_cancel_left]
  cases d with
  |zero=>rw[List.getElem?_cons_zero,if_pos (show Sp.plE es key+0=Sp.plE es key from rfl)];rfl
  |succ d=>rw[List.getElem?_cons_succ,List.getElem?_drop,if_neg (by omega),show Sp.plE es key+(d+1)-1+skE es key=Sp.plE es key+skE es key+d by omega]
theorem putE_ln(es:List EnT)(key:Int)(data:List Int):(Sp.putE es key data).length=es.length+1-skE es key:=by
 have hp:=plE_le es key
 have:Sp.plE es key+skE es key<=es.length:=by unfold skE;split<;>omega
 rw[putE_eq,List.length_append,List.length_append,List.length_take,List.length_drop,List.length_singleton];omega
theorem Asc.put{es:List EnT}(h:Asc es)(key:Int)(data:List Int):Asc (Sp.putE es key data):=by
 have hp:=plE_le es key
 have ha:=plE_at h key
 intro i j hij hj
 rw[putE_ln]at hj
 rw[putE_get,putE_get]
 have hs:Sp.plE es key+skE es key<=es.length:=by unfold skE;split<;>omega
 have hgt:∀k,Sp.plE es key+skE es key<=k->k<es.length->key<(es.getD k Sp.dE).1:=fun k h1 h2=>by
  have h3:=ha.2 k (by omega) h2
  unfold skE at h1
  split at h1
  ·rename_i c
   have:=h (Sp.plE es key) k (by omega) h2
   omega
  ·rename_i c
   by_cases e:(es.getD k Sp.dE).1=key
   ·exfalso
    by_cases e2:k=Sp.plE es key
    ·exact c ⟨by omega,e2▸e⟩
    ·have:=h (Sp.plE es key) k (by omega) h2
     have:=ha.2 (Sp.plE es key) (by omega) (by omega)
     omega
   ·omega
 by_cases c1:i<Sp.plE es key
 ·rw[if_pos c1]
  have k1:=ha.1 i c1
  by_cases c2:j<Sp.plE es key
  ·rw[if_pos c2];exact h i j hij (by omega)
  rw[if_neg c2]
  by_cases c3:j=Sp.plE es key
  ·rw[if_pos c3];exact k1
  ·rw[if_neg c3]
   have:=hgt (j-1+skE es key) (by omega) (by omega)
   omega
 rw[if_neg c1,if_neg (show ¬j<Sp.plE es key by omega),if_neg (show ¬j=Sp.plE es key by omega)]
 by_cases c3:i=Sp.plE es key
 ·rw[if_pos c3]
  exact hgt _ (by omega) (by omega)
 ·rw[if_neg c3]
  exact h _ _ (by omega) (by omega)
namespace Sp
noncomputable def rcd(key:Int)(d:List Int):List Int:=[prw (256*key+d.length)]++d++[prw (smw ([prw (256*key+d.length)]++d))]
noncomputable def rcs(es:List EnT):List Int:=es.flatMap fun e=>rcd e.1 e.2.1
noncomputable def oh(m:MeT):Nat:=1-acv m
noncomputable def hc(m:MeT):Nat:=m.2.2.1.toNat/2
noncomputable def frs(m:MeT):Nat:=m.2.1.toNat+oh m*hc m
noncomputable def cst(m:MeT)(es:List EnT):List StT:=erl (hc m) (frs m)++pgl (rcs es) ((hbs m (oh m):Int)+1)++[(false,(hbs m (oh m):Int),prw (gnr m (acv m)+1),())]
noncomputable def cov(m:MeT)(es:List EnT):List StT×Int×Unit:=if hsz m<1+(rcs es).length then([],5,())else if wor m.1 (hc m) (frs m)=true then([],19,())else if gnr m (acv m)=65535 then([],19,())else(cst m es,0,())
noncomputable def clv(m:MeT)(p:PwT):OuM:=if mvl m=true/\pok p=true then(if(cov m (ent m)).2.1=0 then dov m (cov m (ent m)).1 p else(zM,(0,0,()),(cov m (ent m)).2.1,()))else(zM,(0,0,()),1,())
end Sp
theorem oh_b{m:MeT}(hv:Sp.fv m.1=true)(hp:Sp.plc m=true):Sp.oh m<2/\1<=Sp.hc m/\Sp.hc m<=8/\Sp.frs m+Sp.hc m<=m.1.2.1.length/\Sp.hbs m (Sp.oh m)=64*Sp.frs m/\Sp.hsz m=64*Sp.hc m:=by
 obtain⟨p1,p2,p3,p4,p5⟩:=plc_iff.1 hp
 have v:=fv_iff.1 hv
 have ha:=acv_lt m
 have h2:m.2.2.1.toNat=2*(m.2.2.1.toNat/2):=by omega
 unfold Sp.frs Sp.hbs Sp.hsz Sp.oh Sp.hc
 match h:Sp.acv m,ha with
 |0,_=>simp only[Nat.sub_zero,Nat.one_mul];omega
 |1,_=>simp only[Nat.sub_self,Nat.zero_mul];omega
theorem oh_e{m:MeT}(hv:Sp.fv m.1=true)(hp:Sp.plc m=true):wrap .i64 (1-(Sp.acv m:Int))=(Sp.oh m:Int)/\wrap .i64 (1-(Sp.oh m:Int))=(Sp.acv m:Int) /\
 wrap .i64 (m.2.1+wrap .i64 (Int.tdiv (wrap .i64 ((Sp.oh m:Int)*m.2.2.1)) 2))=(Sp.frs m:Int)/\wrap .i64 (Int.tdiv m.2.2.1 2)=(Sp.hc m:Int)/\wrap .i64 ((Sp.frs m:Int)+(Sp.hc m:Int))=((Sp.frs m+Sp.hc m:Nat):Int):=by
 obtain⟨p1,p2,p3,p4,p5⟩:=plc_iff.1 hp
 have v:=fv_iff.1 hv
 have ob:=oh_b hv hp
 have ha:=acv_lt m
 have eh:wrap .i64 (Int.tdiv m.2.2.1 2)=(Sp.hc m:Int):=by
  rw[Int.tdiv_eq_ediv_of_nonneg (by omega),wi64 (by omega) (by omega)];unfold Sp.hc;omega
 refine⟨?_,?_,?_,eh,?_⟩
 ·unfold Sp.oh;rw[wi64 (by omega) (by omega)];omega
 ·unfold Sp.oh;rw[wi64 (by omega) (by omega)];omega
 ·have e:Int.tdiv (wrap .i64 ((Sp.oh m:Int)*m.2.2.1)) 2=((Sp.oh m*Sp.hc m:Nat):Int):=by
   match h:Sp.oh m,ob.1 with
   |0,_=>simp;decide
   |1,_=>
    rw[wi64 (by omega) (by omega),Int.tdiv_eq_ediv_of_nonneg (by omega)]
    unfold Sp.hc;omega
  have:Sp.frs m=m.2.1.toNat+Sp.oh m*Sp.hc m:=rfl
  rw[e,wi64 (n:=((Sp.oh m*Sp.hc m:Nat):Int)) (by omega) (by omega),wi64 (by omega) (by omega)]
  omega
 ·rw[wi64 (by omega) (by omega)];omega
theorem rcd_len(key:Int)(d:List Int):(Sp.rcd key d).length=d.length+2:=by
 unfold Sp.rcd
 rw[List.length_append,List.length_append,List.length_singleton,List.length_singleton];omega
theorem rcd_w{key:Int}{d:List Int}(h0:0<=key)(h1:key<=254)(hd:d.length<=24)(hw:W32l d):W32l ([Sp.prw (256*key+d.length)]++d):=fun x hx=>by
 rcases List.mem_append.1 hx with hx|hx
 ·rw[List.mem_singleton.1 hx]
  have:=prw_b (n:=256*key+d.length) (by omega) (by omega)
  exact⟨this.1,this.2.1⟩
 ·exact hw x hx
theorem rcd_pv{key:Int}{d:List Int}(h0:0<=key)(h1:key<=254)(hd:d.length<=24)(hw:W32l d):p_59 key d=true/\v_59 key d=(Sp.rcd key d,()):=by
 have e1:wrap .i64 (wrap .i64 (256*key)+(d.length:Int))=256*key+d.length:=by
  rw[wi64 (n:=256*key) (by omega) (by omega),wi64 (by omega) (by omega)]
 have pr:=pair_pv (n:=256*key+d.length) (by omega) (by omega)
 have w:=rcd_w h0 h1 hd hw
 have ll:([Sp.prw (256*key+d.length)]++d).length=d.length+1:=by rw[List.length_append,List.length_singleton];omega
 have s:=sum_pv w (by omega)
 have sb:=smw_b ([Sp.prw (256*key+d.length)]++d) 0 (by decide) (by decide)
 have pr2:=pair_pv (n:=Sp.smw ([Sp.prw (256*key+d.length)]++d)) sb.1 sb.2
 refine pv_59 key d ?_
 unfold F_59
 rw[e1,pr.1,pr.2,gd_tt]
 dsimp only
 rw[gd_room (by omega) (by omega),s.1,s.2,gd_tt]
 dsimp only
 rw[pr2.1,pr2.2,gd_tt,ll,gd_room (by omega) (by omega)]
 rfl
theorem rcs_s{es:List EnT}{j:Nat}(h:j<es.length):Sp.rcs (es.take (j+1))=Sp.rcs (es.take j)++Sp.rcd (es.getD j Zd1).1 (es.getD j Zd1).2.1:=by
 unfold Sp.rcs
 rw[List.take_succ_eq_append_getElem h,List.flatMap_append,getD_at _ h]
 congr 1
 rw[List.flatMap_cons,List.flatMap_nil,List.append_nil]
theorem rcs_len:∀ {es:List EnT},KOK es->(Sp.rcs es).length<=26*es.length
 |[],_=>Nat.zero_le _
 |e::es,h=>by
  have:=rcs_len (es:=es) (fun x hx=>h x (List.mem_cons_of_mem _ hx))
  have h1:=(h e (List.mem_cons_self ..)).2.1
  unfold Sp.rcs at this⊢
  rw[List.flatMap_cons,List.length_append,rcd_len,List.length_cons]
  omega
theorem KOK.take{es:List EnT}(h:KOK es)(j:Nat):KOK (es.take j):=fun e he=>h e (List.mem_of_mem_take he)
theorem KOK.get{es:List EnT}(h:KOK es){j:Nat}(hj:j<es.length):(0<=(es.getD j Zd1).1/\(es.getD j Zd1).1<=254)/\(es.getD j Zd1).2.1.length<=24/\W32l (es.getD j Zd1).2.1:=by
 rw[getD_at _ hj]
 exact h _ (List.getElem_mem hj)
theorem cov_pv{m:MeT}(hw:W32f m.1)(hv:Sp.fv m.1=true)(hp:Sp.plc m=true){es:List EnT}(hk:KOK es)(hl:es.length<=600):p_60 m es=true/\v_60 m es=Sp.cov m es:=by
 have ac:=acv_pv hw hv hp
 have ob:=oh_b hv hp
 have oe:=oh_e hv hp
 have b:=pl_b hv hp
 have v:=fv_iff.1 hv
 have bo:=pl_k hv hp ob.1
 have gb:=gnr_b hw (Sp.acv m)
 have rl:=rcs_len hk
 refine pv_60 m es ?_
 unfold F_60 Sp.cov Sp.cst
 rw[ac.1,ac.2,gd_tt]
 dsimp only
 rw[oe.1]
 have t:=run0 (fun q i acc=>L_60_0 q (Sp.acv m) (Sp.oh m) es es.length i m acc) (n:=es.length) (fun j=>Sp.rcs (es.take j)) (r:=some (.e0 (Sp.acv m) (Sp.oh m) m (Sp.rcs es))) (by omega) (fun q j hj=>by
  show L_60_0 (q+1) (Sp.acv m) (Sp.oh m) es es.length (j:Int) m (Sp.rcs (es.take j))=L_60_0 q (Sp.acv m) (Sp.oh m) es es.length ((j+1:Nat):Int) m (Sp.rcs (es.take (j+1)))
  have g:=hk.get hj
  have r:=rcd_pv g.1.1 g.1.2 g.2.1 g.2.2
  have l1:=rcs_len (hk.take j)
  have tl:(es.take j).length=j:=by rw[List.length_take];omega
  rw[L_60_0,S_60_0,cond_dtt (by omega),gd_inB (by omega) (by omega),Int.toNat_natCast,r.1,r.2,gd_tt]
  dsimp only
  rw[rcd_len,gd_room (by omega) (by omega),wi64 (by omega) (by omega),rcs_s hj]
  push_cast
  rfl) (fun q=>by
  show L_60_0 (q+1) (Sp.acv m) (Sp.oh m) es es.length (es.length:Int) m (Sp.rcs (es.take es.length))=_
  rw[L_60_0,S_60_0,cond_dff (by omega),List.take_length])
 refine(congrArg (fun z=>B_60_0 z _) t).trans ?_
 unfold B_60_0
 dsimp only
 have sz:=msz_pv hv hp
 have gn:=gnr_pv hw hv hp (acv_lt m)
 have er:=erl_pv (m:=m) (by omega) (Sp.frs m) (Sp.hc m) ob.2.2.2.1
 rw[sz.1,sz.2,gd_tt]
 dsimp only
 rw[wi64 (n:=1+((Sp.rcs es).length:Int)) (by omega) (by omega),oe.2.2.1,oe.2.2.2.1,oe.2.2.2.2]
 by_cases c:Sp.hsz m<1+(Sp.rcs es).length
 ·rw[cond_dtt (by omega),if_pos c]
 rw[cond_dff (by omega),if_neg c,er.1,er.2,gd_tt,gn.1,gn.2,gd_tt]
 dsimp only
 cases hwo:Sp.wor m.1 (Sp.hc m) (Sp.frs m)
 rotate_left
 ·rfl
 rw[if_neg Bool.false_ne_true,if_neg Bool.false_ne_true]
 dsimp only
 rw[Bool.not_true,cond_f,wi64 (n:=Sp.gnr m (Sp.acv m)+1) (by omega) (by omega)]
 by_cases c2:Sp.gnr m (Sp.acv m)=65535
 ·rw[cond_dtt (by omega),if_pos c2]
 have ad1:=adr_pv hv hp ob.1 (i:=1) (by decide) (by decide)
 have ad0:=adr_pv hv hp ob.1 (i:=0) (by decide) (by decide)
 rw[Int.add_zero]at ad0
 have pg:=pgl_pv (l:=Sp.rcs es) (by omega) (a:=(Sp.hbs m (Sp.oh m):Int)+1) (by omega) (by omega)
 have pr:=pair_pv (n:=Sp.gnr m (Sp.acv m)+1) (by omega) (by omega)
 rw[cond_dff (by omega),if_neg c2,ad1.1,ad1.2,gd_tt]
 dsimp only
 rw[pg.1,pg.2,gd_tt]
 dsimp only
 rw[erl_len,pgl_len,gd_room (by omega) (by omega),ad0.1,ad0.2,gd_tt,pr.1,pr.2,gd_tt]
 dsimp only
 rw[List.length_append,erl_len,pgl_len,gd_room (by omega) (by omega)]
theorem cst_sv{m:MeT}(hv:Sp.fv m.1=true)(hp:Sp.plc m=true){es:List EnT}(h:1+(Sp.rcs es).length<=Sp.hsz m):(∀x∈Sp.cst m es,SV m.1 x)/\(Sp.cst m es).length<=1000000:=by
 have ob:=oh_b hv hp
 have b:=pl_b hv hp
 have v:=fv_iff.1 hv
 have bo:=pl_k hv hp ob.1
 unfold Sp.cst
 refine⟨fun x hx=> ?_,?_⟩
 ·rcases List.mem_append.1 hx with hx|hx
  ·rcases List.mem_append.1 hx with hx|hx
   ·exact erl_sv (Sp.hc m) (Sp.frs m:Int) (by omega) (by omega) x hx
   ·exact pgl_sv (Sp.rcs es) ((Sp.hbs m (Sp.oh m):Int)+1) (by omega) (by omega) x hx
  ·rw[List.mem_singleton.1 hx]
   exact⟨(by show(0:Int)<=(Sp.hbs m (Sp.oh m):Int);omega),(fun h=>by cases h),(fun _=>by show(Sp.hbs m (Sp.oh m):Int)<_;omega)⟩
 ·rw[List.length_append,List.length_append,erl_len,pgl_len,List.length_singleton];omega
theorem clv_pv{m:MeT}(hw:W32f m.1)(p:PwT):p_23 m p=true/\v_23 m p=Sp.clv m p:=by
 have en:=ent_pv hw
 have pw:=pow_pv p
 refine pv_23 m p ?_
 unfold F_23 Sp.clv
 rw[en.1,en.2,gd_tt]
 unfold Sp.entv
 by_cases hm:Sp.mvl m=true
 rotate_left
 ·rw[if_neg hm,if_neg (fun z=>hm z.1)];rfl
 rw[if_pos hm,cond_nff rfl,pw.1,pw.2,gd_tt]
 dsimp only
 cases hp:Sp.pok p
 ·rw[if_neg (fun z=>Bool.noConfusion z.2)];rfl
 obtain⟨hv,hpl,_⟩:=mvl_d hm
 have eb:=ent_b hw hm
 have cv:=cov_pv hw hv hpl eb.1 eb.2
 have hpb:0<=p.1/\p.1<=1099511627776:=by unfold Sp.pok at hp;simpa using hp
 rw[Bool.not_true,cond_f,if_pos ⟨hm,rfl⟩,cv.1,cv.2,gd_tt]
 by_cases c:(Sp.cov m (Sp.ent m)).2.1=0
 ·have sv:(∀x∈(Sp.cov m (Sp.ent m)).1,SV m.1 x)/\(Sp.cov m (Sp.ent m)).1.length<=1000000:=by
   revert c
   unfold Sp.cov
   split
   ·intro c;cases c
   split
   ·intro c;cases c
   split
   ·intro c;cases c
   ·intro _;exact cst_sv hv hpl (by omega)
  have d:=do_pv hv hw hpb.1 hpb.2 sv.1 sv.2
  rw[cond_nff c,if_pos c,d.1,d.2,gd_tt]
 ·rw[cond_ntt c,if_neg c]
  rfl
set_option maxRecDepth 100000
set_option maxHeartbeats 4000000
theorem dol_pg{f0:FlT}:∀(l:List StT){s:RsT},(∀x∈l,x.1=false)->SG f0 s->SG f0 (Sp.dol l s)
 |[],_,_,h=>h
 |x::l,s,hx,h=>by
  rw[Sp.dol]
  split
  ·refine dol_pg l (fun y hy=>hx y (List.mem_cons_of_mem _ hy)) ?_
   unfold Sp.dop
   rw[if_neg (by rw[hx x (List.mem_cons_self ..)];exact Bool.false_ne_true)]
   exact prg_sg h _ _
  ·exact h
theorem pgl_f:∀(l:List Int)(a:Int),∀x∈Sp.pgl l a,x.1=false
 |[],_,x,hx=>by cases hx
 |w::l,a,x,hx=>by
  rw[Sp.pgl]at hx
  rcases List.mem_cons.1 hx with rfl|hx
  ·rfl
  ·exact pgl_f l (a+1) x hx
theorem cst_sg{m:MeT}(hw:W32f m.1)(hv:Sp.fv m.1=true)(hp:Sp.plc m=true){p:PwT}(h0:0<=p.1)(h1:p.1<=1099511627776)(es:List EnT)(hwo:Sp.wor m.1 (Sp.hc m) (Sp.frs m)=false):SG m.1 (Sp.dol (Sp.cst m es) (m.1,p,0,())):=by
 have ob:=oh_b hv hp
 have E:=erl_b (f0:=m.1) (a:=Sp.frs m) (Sp.hc m) 0 (EB.init hv hw h0 h1 (Sp.frs m)) (by omega) (by rw[Nat.add_zero];exact hwo)
 rw[Nat.add_zero,Nat.zero_add]at E
 unfold Sp.cst
 rw[List.append_assoc,dol_app]
 refine dol_pg _ (fun x hx=> ?_) E.g
 rcases List.mem_append.1 hx with hx|hx
 ·exact pgl_f _ _ x hx
 ·rw[List.mem_singleton.1 hx]
theorem u32_b{n:Int}(h:(Lit.int .u32 n).wf=true):0<=n/\n<4294967296:=by
 simp[Lit.wf,IntKind.min,IntKind.max,IntKind.signed,IntKind.bits]at h;omega
theorem aw_pv:p_9=true/\v_9=(true,()):=pv_9 (by kernel_rfl)
theorem grt_pv(f:FlT):∃b,p_10 f=true/\v_10 f=(b,())/\(b=false->¬(8<f.2.1.length/\f.2.1.length<=64)):=by
 by_cases h:(f.2.1.length:Int)>8
 ·by_cases h2:(f.2.1.length:Int)<=64
  ·have:=pv_10 f (y:=(true,())) (by unfold F_10;rw[cond_dtt h,decide_eq_true h2])
   exact⟨true,this.1,this.2,fun z=>by cases z⟩
  ·have:=pv_10 f (y:=(false,())) (by unfold F_10;rw[cond_dtt h,decide_eq_false h2])
   exact⟨false,this.1,this.2,fun _=>by omega⟩
 ·have:=pv_10 f (y:=(false,())) (by unfold F_10;rw[cond_dff h])
  exact⟨false,this.1,this.2,fun _=>by omega⟩
namespace Sp
noncomputable def frl(m:MeT):Int:=(rdv (hwr m (acv m))).2.2.1
noncomputable def wrs(m:MeT)(key:Int)(d:List Int):List StT×Int×Unit:=if((rcd key d).length:Int)<=frl m then(pgl (rcd key d) ((hbs m (acv m):Int)+(rdv (hwr m (acv m))).2.1),0,())else cov m (putE (ent m) key d)
noncomputable def wrv(m:MeT)(key:Int)(d:List Int)(p:PwT):OuM:=if mvl m=true/\pok p=true then(if 0<=key/\key<=254/\d.length<=24 then(if(wrs m key d).2.1=0 then dov m (wrs m key d).1 p else(zM,(0,0,()),(wrs m key d).2.1,()))else(zM,(0,0,()),2,()))else(zM,(0,0,()),1,())
end Sp
theorem ent_l{m:MeT}(hw:W32f m.1)(h:Sp.mvl m=true):(Sp.ent m).length<=512:=by
 obtain⟨hv,hp,_⟩:=mvl_d h
 have l:=hwr_len hv hp (acv_lt m)
 have b:=pl_b hv hp
 have r:=rdv_b (hw.half (Sp.acv m)) (by omega) (by omega)
 have:=r.2.1
 unfold Sp.ent
 omega
theorem frl_b{m:MeT}(hw:W32f m.1)(h:Sp.mvl m=true):1<=(Sp.rdv (Sp.hwr m (Sp.acv m))).2.1/\(Sp.rdv (Sp.hwr m (Sp.acv m))).2.1<=(Sp.hsz m:Int)/\(Sp.frl m=(Sp.hsz m:Int)-(Sp.rdv (Sp.hwr m (Sp.acv m))).2.1/\Sp.blk (Sp.hwr m (Sp.acv m)) (Sp.rdl (Sp.hwr m (Sp.acv m)) (Sp.hwr m (Sp.acv m)).length 1 []).1=true\/Sp.frl m=0/\Sp.blk (Sp.hwr m (Sp.acv m)) (Sp.rdl (Sp.hwr m (Sp.acv m)) (Sp.hwr m (Sp.acv m)).length 1 []).1=false):=by
 obtain⟨hv,hp,_⟩:=mvl_d h
 have l:=hwr_len hv hp (acv_lt m)
 have b:=pl_b hv hp
 have r:=rdv_b (hw.half (Sp.acv m)) (by omega) (by omega)
 refine⟨r.2.2.1,by have:=r.2.2.2;omega,?_⟩
 unfold Sp.frl Sp.rdv
 dsimp only
 cases hb:Sp.blk (Sp.hwr m (Sp.acv m)) (Sp.rdl (Sp.hwr m (Sp.acv m)) (Sp.hwr m (Sp.acv m)).length 1 []).1
 ·rw[if_neg Bool.false_ne_true]
  exact .inr ⟨rfl,rfl⟩
 ·rw[if_pos rfl,l]
  exact .inl ⟨rfl,rfl⟩
theorem cov_sv{m:MeT}(hv:Sp.fv m.1=true)(hp:Sp.plc m=true){es:List EnT}(c:(Sp.cov m es).2.1=0):(Sp.cov m es).1=Sp.cst m es/\Sp.wor m.1 (Sp.hc m) (Sp.frs m)=false/\(∀x∈(Sp.cov m es).1,SV m.1 x)/\(Sp.cov m es).1.length<=1000000:=by
 revert c
 unfold Sp.cov
 split
 ·intro c;cases c
 split
 ·intro c;cases c
 split
 ·intro c;cases c
 ·rename_i h1 h2 h3
  intro _
  have:=cst_sv hv hp (es:=es) (by omega)
  exact⟨rfl,Bool.eq_false_iff.2 h2,this.1,this.2⟩
theorem wrs_sv{m:MeT}(hw:W32f m.1)(hm:Sp.mvl m=true){key:Int}{d:List Int}(c:(Sp.wrs m key d).2.1=0):((∀x∈(Sp.wrs m key d).1,SV m.1 x)/\(Sp.wrs m key d).1.length<=1000000)/\∀p:PwT,0<=p.1->p.1<=1099511627776->SG m.1 (Sp.dol (Sp.wrs m key d).1 (m.1,p,0,())):=by
 obtain⟨hv,hp,_⟩:=mvl_d hm
 have b:=pl_b hv hp
 have bk:=pl_k hv hp (acv_lt m)
 have fb:=frl_b hw hm
 revert c
 unfold Sp.wrs
 split
 ·rename_i h
  intro _
  have hl:((Sp.rcd key d).length:Int)<=(Sp.hsz m:Int)-(Sp.rdv (Sp.hwr m (Sp.acv m))).2.1:=by
   rcases fb.2.2 with q|q
   ·omega
   ·have:=rcd_len key d
    omega
  refine⟨⟨pgl_sv _ _ (by omega) (by omega),by rw[pgl_len];omega⟩,fun p h0 h1=> ?_⟩
  exact dol_pg _ (pgl_f _ _) (SG.init hv hw h0 h1)
 ·intro c
  have s:=cov_sv hv hp c
  refine⟨s.2.2,fun p h0 h1=> ?_⟩
  rw[s.1]
  exact cst_sg hw hv hp h0 h1 _ s.2.1
theorem wrv_pv{m:MeT}(hw:W32f m.1){key:Int}{d:List Int}(hd:W32l d)(p:PwT):p_19 m key d p=true/\v_19 m key d p=Sp.wrv m key d p:=by
 have v:=mvl_pv hw
 have pw:=pow_pv p
 refine pv_19 m key d p ?_
 unfold F_19 Sp.wrv
 rw[v.1,v.2,gd_tt]
 dsimp only
 by_cases hm:Sp.mvl m=true
 rotate_left
 ·rw[Bool.eq_false_iff.2 hm,if_neg (fun z=>Bool.noConfusion z.1)];rfl
 rw[hm,Bool.not_true,cond_f,pw.1,pw.2,gd_tt]
 dsimp only
 cases hp:Sp.pok p
 ·rw[if_neg (fun z=>Bool.noConfusion z.2)];rfl
 have hpb:0<=p.1/\p.1<=1099511627776:=by unfold Sp.pok at hp;simpa using hp
 rw[Bool.not_true,cond_f,if_pos ⟨rfl,rfl⟩]
 by_cases k0:key<0
 ·rw[cond_dtt k0,if_neg (fun z=>by omega)];rfl
 by_cases k1:key>254
 ·rw[cond_dff k0,cond_dtt k1,if_neg (fun z=>by omega)];rfl
 by_cases k2:(d.length:Int)>24
 ·rw[cond_dff k0,cond_dff k1,cond_dtt k2,if_neg (fun z=>by omega)];rfl
 obtain⟨hv,hpl,_⟩:=mvl_d hm
 have b:=pl_b hv hpl
 have bk:=pl_k hv hpl (acv_lt m)
 have fb:=frl_b hw hm
 have a:=acv_pv hw hv hpl
 have r:=read_pv hw hv hpl (acv_lt m)
 have rc:=rcd_pv (key:=key) (d:=d) (by omega) (by omega) (by omega) hd
 have rl:=rcd_len key d
 have eb:=ent_b hw hm
 have el:=ent_l hw hm
 have sv:=wrs_sv (key:=key) (d:=d) hw hm
 rw[cond_dff k0,cond_dff k1,cond_dff k2,if_pos ⟨by omega,by omega,by omega⟩,a.1,a.2,gd_tt]
 dsimp only
 rw[r.1,r.2,gd_tt,rc.1,rc.2,gd_tt]
 dsimp only
 rw[show(Sp.rdv (Sp.hwr m (Sp.acv m))).2.2.1=Sp.frl m from rfl,show(Sp.rdv (Sp.hwr m (Sp.acv m))).1=Sp.ent m from rfl]
 revert sv
 unfold Sp.wrs
 by_cases c:((Sp.rcd key d).length:Int)<=Sp.frl m
 ·intro sv
  rw[if_pos c]at sv⊢
  have sv:=sv rfl
  have ad:=adr_pv hv hpl (acv_lt m) (i:=(Sp.rdv (Sp.hwr m (Sp.acv m))).2.1) (by omega) (by omega)
  have pg:=pgl_pv (l:=Sp.rcd key d) (by omega) (a:=(Sp.hbs m (Sp.acv m):Int)+(Sp.rdv (Sp.hwr m (Sp.acv m))).2.1) (by omega) (by omega)
  have dd:=do_pv hv hw hpb.1 hpb.2 sv.1.1 sv.1.2
  rw[cond_dtt c,ad.1,ad.2,gd_tt]
  dsimp only
  rw[pg.1,pg.2,gd_tt]
  dsimp only at dd⊢
  rw[dd.1,dd.2,gd_tt,if_pos rfl]
 ·intro sv
  rw[if_neg c]at sv⊢
  have pt:=put_pv eb.1 (key:=key) (by omega) (by omega) (by omega) (data:=d) (by omega)
  have kp:=eb.1.put (key:=key) (by omega) (by omega) (data:=d) (by omega) hd
  have pl:=putE_len (Sp.ent m) key d
  have cv:=cov_pv hw hv hpl kp (by omega)
  rw[cond_dff c,pt.1,pt.2,gd_tt]
  dsimp only
  rw[cv.1,cv.2,gd_tt]
  by_cases e:(Sp.cov m (Sp.putE (Sp.ent m) key d)).2.1=0
  ·have sv:=sv e
   have dd:=do_pv hv hw hpb.1 hpb.2 sv.1.1 sv.1.2
   rw[cond_nff e,if_pos e,dd.1,dd.2,gd_tt]
  ·rw[cond_ntt e,if_neg e]
   rfl
set_option maxRecDepth 100000
set_option maxHeartbeats 4000000
namespace Sp
noncomputable def spl(ws:List Int):Nat->List Int
 |0=>ws
 |j+1=>(spl ws j).set j (wrap .u32 ((spl ws j).getD j 0+1))
end Sp
theorem spl_len(ws:List Int):∀j,(Sp.spl ws j).length=ws.length
 |0=>rfl
 |j+1=>by rw[Sp.spl,List.length_set,spl_len ws j]
theorem dov_n{m:MeT}{l:List StT}{p:PwT}(hv:Sp.fv m.1=true)(hw:W32f m.1)(h0:0<=p.1)(h1:p.1<=1099511627776)(hs:∀x∈l,SV m.1 x):(Sp.dov m l p).1.1.1.length<=4096:=by
 have v:=fv_iff.1 hv
 unfold Sp.dov
 split
 ·rename_i h
  rcases dol_sg l (SG.init hv hw h0 h1) hs with g|g
  ·have:=g.l
   show(Sp.dol l (m.1,p,0,())).1.1.length<=4096
   omega
  ·rw[g]at h;rcases h with h|h<;>cases h
 ·exact Nat.zero_le _
theorem wrv_n{m:MeT}(hw:W32f m.1)(key:Int)(d:List Int)(p:PwT):(Sp.wrv m key d p).1.1.1.length<=4096:=by
 unfold Sp.wrv
 split
 ·rename_i h
  have hpb:0<=p.1/\p.1<=1099511627776:=by have:=h.2;unfold Sp.pok at this;simpa using this
  split
  ·split
   ·rename_i e
    exact dov_n (mvl_d h.1).1 hw hpb.1 hpb.2 (wrs_sv hw h.1 e).1.1
   ·exact Nat.zero_le _
  ·exact Nat.zero_le _
 ·exact Nat.zero_le _
theorem clv_n{m:MeT}(hw:W32f m.1)(p:PwT):(Sp.clv m p).1.1.1.length<=4096:=by
 unfold Sp.clv
 split
 ·rename_i h
  have hpb:0<=p.1/\p.1<=1099511627776:=by have:=h.2;unfold Sp.pok at this;simpa using this
  obtain⟨hv,hpl,_⟩:=mvl_d h.1
  split
  ·rename_i c
   exact dov_n hv hw hpb.1 hpb.2 (cov_sv hv hpl c).2.2.1
  ·exact Nat.zero_le _
 ·exact Nat.zero_le _
theorem fmv_n{f:FlT}(hw:W32f f)(a n:Int)(p:PwT):(Sp.fmv f a n p).1.1.1.length<=4096:=by
 unfold Sp.fmv
 split
 ·rename_i h
  have hpb:0<=p.1/\p.1<=1099511627776:=by have:=h.2;unfold Sp.pok at this;simpa using this
  split
  ·rename_i hp
   split
   ·exact Nat.zero_le _
   ·exact dov_n (m:=(f,a,n,())) h.1 hw hpb.1 hpb.2 (fm_sv h.1 hp)
  ·exact Nat.zero_le _
 ·exact Nat.zero_le _
theorem sp0(p2:MeT)(p3:PwT)(p4:MeT)(p5 p6:List Int)(p7:List Int×Int×Unit)(p8 p9:PwT)(p10:List Int)(p11:List Int×Int×Unit)(p12 p13:PwT)(p14:List Int)(p15:List Int×Int×Unit)(p16 p17:PwT)(p18:List Int×Int×Unit)(p19:PwT)(hl:p6.length<=1000000):L_7_32_1_0 4611686018427387904 (p6.length:Int) 0 p2 p3 p4 p5 p6 p7 p8 p9 p10 p11 p12 p13 p14 p15 p16 p17 p18 p19=some (.e0 p2 p3 p4 p5 (Sp.spl p6 p6.length) p7 p8 p9 p10 p11 p12 p13 p14 p15 p16 p17):=by
 have sl:=spl_len p6
 have t:=run0 (fun m i ws=>L_7_32_1_0 m (p6.length:Int) i p2 p3 p4 p5 ws p7 p8 p9 p10 p11 p12 p13 p14 p15 p16 p17 p18 p19) (n:=p6.length) (fun q=>Sp.spl p6 q) (r:=some (.e0 p2 p3 p4 p5 (Sp.spl p6 p6.length) p7 p8 p9 p10 p11 p12 p13 p14 p15 p16 p17)) (by omega) (fun m q hq=>by
  have:=sl q
  show L_7_32_1_0 (m+1) (p6.length:Int) (q:Int) p2 p3 p4 p5 (Sp.spl p6 q) p7 p8 p9 p10 p11 p12 p13 p14 p15 p16 p17 p18 p19=L_7_32_1_0 m (p6.length:Int) ((q+1:Nat):Int) p2 p3 p4 p5 (Sp.spl p6 (q+1)) p7 p8 p9 p10 p11 p12 p13 p14 p15 p16 p17 p18 p19
  rw[L_7_32_1_0,S_7_32_1_0,cond_dtt (by omega),gd_inB (by omega) (by omega),Int.toNat_natCast,decide_eq_true (show q<(Sp.spl p6 q).length by omega),gd_inB (by omega) (by omega)]
  simp only[Bool.and_true,gd_tt]
  rw[wi64 (by omega) (by omega),Sp.spl]
  push_cast
  rfl) (fun m=>by
  show L_7_32_1_0 (m+1) (p6.length:Int) (p6.length:Int) p2 p3 p4 p5 (Sp.spl p6 p6.length) p7 p8 p9 p10 p11 p12 p13 p14 p15 p16 p17 p18 p19=_
  rw[L_7_32_1_0,S_7_32_1_0,cond_dff (by omega)])
 exact t
theorem jp0(p0:MeT)(p1:PwT)(p2:MeT)(p3 p4:List Int)(p5:List Int×Int×Unit)(p6 p7:PwT)(p8:List Int)(p9:List Int×Int×Unit)(p10 p11:PwT)(p12:List Int)(p13:List Int×Int×Unit)(p14 p15:PwT)(p16:List Int×Int×Unit)(p17:PwT)(hl:p4.length<=1000000):J_7_32_0_0 p0 p1 p2 p3 p4 p5 p6 p7 p8 p9 p10 p11 p12 p13 p14 p15 p16 p17=some (.e0 p0 p1 p2 p3 (Sp.spl p4 p4.length) p5 p6 p7 p8 p9 p10 p11 p12 p13 p14 p15):=by
 unfold J_7_32_0_0 S_7_32_0_0
 rw[sp0 p0 p1 p2 p3 p4 p5 p6 p7 p8 p9 p10 p11 p12 p13 p14 p15 p16 p17 hl]
 rfl
theorem sp1(p2:MeT)(p3:PwT)(p4:MeT)(p5 p6:List Int)(p7:List Int×Int×Unit)(p8 p9:PwT)(p10:List Int)(p11:List Int×Int×Unit)(p12 p13:PwT)(p14:List Int)(p15:List Int×Int×Unit)(p16 p17:PwT)(p18:List Int×Int×Unit)(p19:PwT)(hl:p10.length<=1000000):L_7_32_1_1 4611686018427387904 (p10.length:Int) 0 p2 p3 p4 p5 p6 p7 p8 p9 p10 p11 p12 p13 p14 p15 p16 p17 p18 p19=some (.e0 p2 p3 p4 p5 p6 p7 p8 p9 (Sp.spl p10 p10.length) p11 p12 p13 p14 p15 p16 p17):=by
 have sl:=spl_len p10
 have t:=run0 (fun m i ws=>L_7_32_1_1 m (p10.length:Int) i p2 p3 p4 p5 p6 p7 p8 p9 ws p11 p12 p13 p14 p15 p16 p17 p18 p19) (n:=p10.length) (fun q=>Sp.spl p10 q) (r:=some (.e0 p2 p3 p4 p5 p6 p7 p8 p9 (Sp.spl p10 p10.length) p11 p12 p13 p14 p15 p16 p17)) (by omega) (fun m q hq=>by
  have:=sl q
  show L_7_32_1_1 (m+1) (p10.length:Int) (q:Int) p2 p3 p4 p5 p6 p7 p8 p9 (Sp.spl p10 q) p11 p12 p13 p14 p15 p16 p17 p18 p19=L_7_32_1_1 m (p10.length:Int) ((q+1:Nat):Int) p2 p3 p4 p5 p6 p7 p8 p9 (Sp.spl p10 (q+1)) p11 p12 p13 p14 p15 p16 p17 p18 p19
  rw[L_7_32_1_1,S_7_32_1_1,cond_dtt (by omega),gd_inB (by omega) (by omega),Int.toNat_natCast,decide_eq_true (show q<(Sp.spl p10 q).length by omega),gd_inB (by omega) (by omega)]
  simp only[Bool.and_true,gd_tt]
  rw[wi64 (by omega) (by omega),Sp.spl]
  push_cast
  rfl) (fun m=>by
  show L_7_32_1_1 (m+1) (p10.length:Int) (p10.length:Int) p2 p3 p4 p5 p6 p7 p8 p9 (Sp.spl p10 p10.length) p11 p12 p13 p14 p15 p16 p17 p18 p19=_
  rw[L_7_32_1_1,S_7_32_1_1,cond_dff (by omega)])
 exact t
theorem jp1(p0:MeT)(p1:PwT)(p2:MeT)(p3 p4:List Int)(p5:List Int×Int×Unit)(p6 p7:PwT)(p8:List Int)(p9:List Int×Int×Unit)(p10 p11:PwT)(p12:List Int)(p13:List Int×Int×Unit)(p14 p15:PwT)(p16:List Int×Int×Unit)(p17:PwT)(hl:p8.length<=1000000):J_7_32_0_1 p0 p1 p2 p3 p4 p5 p6 p7 p8 p9 p10 p11 p12 p13 p14 p15 p16 p17=some (.e0 p0 p1 p2 p3 p4 p5 p6 p7 (Sp.spl p8 p8.length) p9 p10 p11 p12 p13 p14 p15):=by
 unfold J_7_32_0_1 S_7_32_0_1
 rw[sp1 p0 p1 p2 p3 p4 p5 p6 p7 p8 p9 p10 p11 p12 p13 p14 p15 p16 p17 hl]
 rfl
theorem sp2(p2:MeT)(p3:PwT)(p4:MeT)(p5 p6:List Int)(p7:List Int×Int×Unit)(p8 p9:PwT)(p10:List Int)(p11:List Int×Int×Unit)(p12 p13:PwT)(p14:List Int)(p15:List Int×Int×Unit)(p16 p17:PwT)(p18:List Int×Int×Unit)(p19:PwT)(hl:p14.length<=1000000):L_7_32_1_2 4611686018427387904 (p14.length:Int) 0 p2 p3 p4 p5 p6 p7 p8 p9 p10 p11 p12 p13 p14 p15 p16 p17 p18 p19=some (.e0 p2 p3 p4 p5 p6 p7 p8 p9 p10 p11 p12 p13 (Sp.spl p14 p14.length) p15 p16 p17):=by
 have sl:=spl_len p14
 have t:=run0 (fun m i ws=>L_7_32_1_2 m (p14.length:Int) i p2 p3 p4 p5 p6 p7 p8 p9 p10 p11 p12 p13 ws p15 p16 p17 p18 p19) (n:=p14.length) (fun q=>Sp.spl p14 q) (r:=some (.e0 p2 p3 p4 p5 p6 p7 p8 p9 p10 p11 p12 p13 (Sp.spl p14 p14.length) p15 p16 p17)) (by omega) (fun m q hq=>by
  have:=sl q
  show L_7_32_1_2 (m+1) (p14.length:Int) (q:Int) p2 p3 p4 p5 p6 p7 p8 p9 p10 p11 p12 p13 (Sp.spl p14 q) p15 p16 p17 p18 p19=L_7_32_1_2 m (p14.length:Int) ((q+1:Nat):Int) p2 p3 p4 p5 p6 p7 p8 p9 p10 p11 p12 p13 (Sp.spl p14 (q+1)) p15 p16 p17 p18 p19
  rw[L_7_32_1_2,S_7_32_1_2,cond_dtt (by omega),gd_inB (by omega) (by omega),Int.toNat_natCast,decide_eq_true (show q<(Sp.spl p14 q).length by omega),gd_inB (by omega) (by omega)]
  simp only[Bool.and_true,gd_tt]
  rw[wi64 (by omega) (by omega),Sp.spl]
  push_cast
  rfl) (fun m=>by
  show L_7_32_1_2 (m+1) (p14.length:Int) (p14.length:Int) p2 p3 p4 p5 p6 p7 p8 p9 p10 p11 p12 p13 (Sp.spl p14 p14.length) p15 p16 p17 p18 p19=_
  rw[L_7_32_1_2,S_7_32_1_2,cond_dff (by omega)])
 exact t
theorem jp2(p0:MeT)(p1:PwT)(p2:MeT)(p3 p4:List Int)(p5:List Int×Int×Unit)(p6 p7:PwT)(p8:List Int)(p9:List Int×Int×Unit)(p10 p11:PwT)(p12:List Int)(p13:List Int×Int×Unit)(p14 p15:PwT)(p16:List Int×Int×Unit)(p17:PwT)(hl:p12.length<=1000000):J_7_32_0_2 p0 p1 p2 p3 p4 p5 p6 p7 p8 p9 p10 p11 p12 p13 p14 p15 p16 p17=some (.e0 p0 p1 p2 p3 p4 p5 p6 p7 p8 p9 p10 p11 (Sp.spl p12 p12.length) p13 p14 p15):=by
 unfold J_7_32_0_2 S_7_32_0_2
 rw[sp2 p0 p1 p2 p3 p4 p5 p6 p7 p8 p9 p10 p11 p12 p13 p14 p15 p16 p17 hl]
 rfl
theorem lv2(a2:List Int)(g:Int)(p0:MeT)(p1:PwT)(p2:MeT)(p3 p4:List Int)(p5:List Int×Int×Unit)(p6 p7:PwT)(p8:List Int)(p9:List Int×Int×Unit)(p10 p11:PwT)(p12:List Int)(p13:List Int×Int×Unit)(p14 p15:PwT)(h2:p12.length<=1000000):(bif g==(0:Int)then B_7_32_0_2 (J_7_32_0_2 p0 p1 p2 p3 p4 p5 p6 p7 p8 p9 p10 p11 p12 p13 p14 p15 p13 p14) (fun zy0 zy1 zy2 zy3 zy4 zy5 zy6 zy7 zy8 zy9 zy10 zy11 zy12 zy13 zy14 zy15=>some (a2,zy0,zy2,zy3,()))else bif g==(18:Int)then B_7_32_0_2 (J_7_32_0_2 p0 p1 p2 p3 p4 p5 p6 p7 p8 p9 p10 p11 p12 p13 p14 p15 p13 p14) (fun zy0 zy1 zy2 zy3 zy4 zy5 zy6 zy7 zy8 zy9 zy10 zy11 zy12 zy13 zy14 zy15=>some (a2,zy0,zy2,zy3,()))else some (a2,p0,p2,p3,()))=some (a2,p0,p2,p3,()):=by
 rw[jp2 p0 p1 p2 p3 p4 p5 p6 p7 p8 p9 p10 p11 p12 p13 p14 p15 p13 p14 h2]
 cases g==(0:Int)
 ·cases g==(18:Int)
  ·exact rfl
  ·exact rfl
 ·exact rfl
theorem lv1(a2:List Int)(f g:Int)(p0:MeT)(p1:PwT)(p2:MeT)(p3 p4:List Int)(p5:List Int×Int×Unit)(p6 p7:PwT)(p8:List Int)(p9:List Int×Int×Unit)(p10 p11:PwT)(p12:List Int)(p13:List Int×Int×Unit)(p14 p15:PwT)(h1:p8.length<=1000000)(h2:p12.length<=1000000):(bif f==(0:Int)then B_7_32_0_1 (J_7_32_0_1 p0 p1 p2 p3 p4 p5 p6 p7 p8 p9 p10 p11 p12 p13 p14 p15 p9 p10) (fun yy0 yy1 yy2 yy3 yy4 yy5 yy6 yy7 yy8 yy9 yy10 yy11 yy12 yy13 yy14 yy15=>(bif g==(0:Int)then B_7_32_0_2 (J_7_32_0_2 yy0 yy1 yy2 yy3 yy4 yy5 yy6 yy7 yy8 yy9 yy10 yy11 yy12 yy13 yy14 yy15 yy13 yy14) (fun zy0 zy1 zy2 zy3 zy4 zy5 zy6 zy7 zy8 zy9 zy10 zy11 zy12 zy13 zy14 zy15=>some (a2,zy0,zy2,zy3,()))else bif g==(18:Int)then B_7_32_0_2 (J_7_32_0_2 yy0 yy1 yy2 yy3 yy4 yy5 yy6 yy7 yy8 yy9 yy10 yy11 yy12 yy13 yy14 yy15 yy13 yy14) (fun zy0 zy1 zy2 zy3 zy4 zy5 zy6 zy7 zy8 zy9 zy10 zy11 zy12 zy13 zy14 zy15=>some (a2,zy0,zy2,zy3,()))else some (a2,yy0,yy2,yy3,())))else bif f==(18:Int)then B_7_32_0_1 (J_7_32_0_1 p0 p1 p2 p3 p4 p5 p6 p7 p8 p9 p10 p11 p12 p13 p14 p15 p9 p10) (fun yy0 yy1 yy2 yy3 yy4 yy5 yy6 yy7 yy8 yy9 yy10 yy11 yy12 yy13 yy14 yy15=>(bif g==(0:Int)then B_7_32_0_2 (J_7_32_0_2 yy0 yy1 yy2 yy3 yy4 yy5 yy6 yy7 yy8 yy9 yy10 yy11 yy12 yy13 yy14 yy15 yy13 yy14) (fun zy0 zy1 zy2 zy3 zy4 zy5 zy6 zy7 zy8 zy9 zy10 zy11 zy12 zy13 zy14 zy15=>some (a2,zy0,zy2,zy3,()))else bif g==(18:Int)then B_7_32_0_2 (J_7_32_0_2 yy0 yy1 yy2 yy3 yy4 yy5 yy6 yy7 yy8 yy9 yy10 yy11 yy12 yy13 yy14 yy15 yy13 yy14) (fun zy0 zy1 zy2 zy3 zy4 zy5 zy6 zy7 zy8 zy9 zy10 zy11 zy12 zy13 zy14 zy15=>some (a2,zy0,zy2,zy3,()))else some (a2,yy0,yy2,yy3,())))else(bif g==(0:Int)then B_7_32_0_2 (J_7_32_0_2 p0 p1 p2 p3 p4 p5 p6 p7 p8 p9 p10 p11 p12 p13 p14 p15 p13 p14) (fun zy0 zy1 zy2 zy3 zy4 zy5 zy6 zy7 zy8 zy9 zy10 zy11 zy12 zy13 zy14 zy15=>some (a2,zy0,zy2,zy3,()))else bif g==(18:Int)then B_7_32_0_2 (J_7_32_0_2 p0 p1 p2 p3 p4 p5 p6 p7 p8 p9 p10 p11 p12 p13 p14 p15 p13 p14) (fun zy0 zy1 zy2 zy3 zy4 zy5 zy6 zy7 zy8 zy9 zy10 zy11 zy12 zy13 zy14 zy15=>some (a2,zy0,zy2,zy3,()))else some (a2,p0,p2,p3,())))=some (a2,p0,p2,p3,()):=by
 rw[jp1 p0 p1 p2 p3 p4 p5 p6 p7 p8 p9 p10 p11 p12 p13 p14 p15 p9 p10 h1]
 cases f==(0:Int)
 ·cases f==(18:Int)
  ·exact lv2 a2 g p0 p1 p2 p3 p4 p5 p6 p7 p8 p9 p10 p11 p12 p13 p14 p15 h2
  ·exact lv2 a2 g p0 p1 p2 p3 p4 p5 p6 p7 (Sp.spl p8 p8.length) p9 p10 p11 p12 p13 p14 p15 h2
 ·exact lv2 a2 g p0 p1 p2 p3 p4 p5 p6 p7 (Sp.spl p8 p8.length) p9 p10 p11 p12 p13 p14 p15 h2
theorem lv0(a2:List Int)(e f g:Int)(p0:MeT)(p1:PwT)(p2:MeT)(p3 p4:List Int)(p5:List Int×Int×Unit)(p6 p7:PwT)(p8:List Int)(p9:List Int×Int×Unit)(p10 p11:PwT)(p12:List Int)(p13:List Int×Int×Unit)(p14 p15:PwT)(h0:p4.length<=1000000)(h1:p8.length<=1000000)(h2:p12.length<=1000000):(bif e==(0:Int)then B_7_32_0_0 (J_7_32_0_0 p0 p1 p2 p3 p4 p5 p6 p7 p8 p9 p10 p11 p12 p13 p14 p15 p5 p6) (fun xy0 xy1 xy2 xy3 xy4 xy5 xy6 xy7 xy8 xy9 xy10 xy11 xy12 xy13 xy14 xy15=>(bif f==(0:Int)then B_7_32_0_1 (J_7_32_0_1 xy0 xy1 xy2 xy3 xy4 xy5 xy6 xy7 xy8 xy9 xy10 xy11 xy12 xy13 xy14 xy15 xy9 xy10) (fun yy0 yy1 yy2 yy3 yy4 yy5 yy6 yy7 yy8 yy9 yy10 yy11 yy12 yy13 yy14 yy15=>(bif g==(0:Int)then B_7_32_0_2 (J_7_32_0_2 yy0 yy1 yy2 yy3 yy4 yy5 yy6 yy7 yy8 yy9 yy10 yy11 yy12 yy13 yy14 yy15 yy13 yy14) (fun zy0 zy1 zy2 zy3 zy4 zy5 zy6 zy7 zy8 zy9 zy10 zy11 zy12 zy13 zy14 zy15=>some (a2,zy0,zy2,zy3,()))else bif g==(18:Int)then B_7_32_0_2 (J_7_32_0_2 yy0 yy1 yy2 yy3 yy4 yy5 yy6 yy7 yy8 yy9 yy10 yy11 yy12 yy13 yy14 yy15 yy13 yy14) (fun zy0 zy1 zy2 zy3 zy4 zy5 zy6 zy7 zy8 zy9 zy10 zy11 zy12 zy13 zy14 zy15=>some (a2,zy0,zy2,zy3,()))else some (a2,yy0,yy2,yy3,())))else bif f==(18:Int)then B_7_32_0_1 (J_7_32_0_1 xy0 xy1 xy2 xy3 xy4 xy5 xy6 xy7 xy8 xy9 xy10 xy11 xy12 xy13 xy14 xy15 xy9 xy10) (fun yy0 yy1 yy2 yy3 yy4 yy5 yy6 yy7 yy8 yy9 yy10 yy11 yy12 yy13 yy14 yy15=>(bif g==(0:Int)then B_7_32_0_2 (J_7_32_0_2 yy0 yy1 yy2 yy3 yy4 yy5 yy6 yy7 yy8 yy9 yy10 yy11 yy12 yy13 yy14 yy15 yy13 yy14) (fun zy0 zy1 zy2 zy3 zy4 zy5 zy6 zy7 zy8 zy9 zy10 zy11 zy12 zy13 zy14 zy15=>some (a2,zy0,zy2,zy3,()))else bif g==(18:Int)then B_7_32_0_2 (J_7_32_0_2 yy0 yy1 yy2 yy3 yy4 yy5 yy6 yy7 yy8 yy9 yy10 yy11 yy12 yy13 yy14 yy15 yy13 yy14) (fun zy0 zy1 zy2 zy3 zy4 zy5 zy6 zy7 zy8 zy9 zy10 zy11 zy12 zy13 zy14 zy15=>some (a2,zy0,zy2,zy3,()))else some (a2,yy0,yy2,yy3,())))else(bif g==(0:Int)then B_7_32_0_2 (J_7_32_0_2 xy0 xy1 xy2 xy3 xy4 xy5 xy6 xy7 xy8 xy9 xy10 xy11 xy12 xy13 xy14 xy15 xy13 xy14) (fun zy0 zy1 zy2 zy3 zy4 zy5 zy6 zy7 zy8 zy9 zy10 zy11 zy12 zy13 zy14 zy15=>some (a2,zy0,zy2,zy3,()))else bif g==(18:Int)then B_7_32_0_2 (J_7_32_0_2 xy0 xy1 xy2 xy3 xy4 xy5 xy6 xy7 xy8 xy9 xy10 xy11 xy12 xy13 xy14 xy15 xy13 xy14) (fun zy0 zy1 zy2 zy3 zy4 zy5 zy6 zy7 zy8 zy9 zy10 zy11 zy12 zy13 zy14 zy15=>some (a2,zy0,zy2,zy3,()))else some (a2,xy0,xy2,xy3,()))))else bif e==(18:Int)then B_7_32_0_0 (J_7_32_0_0 p0 p1 p2 p3 p4 p5 p6 p7 p8 p9 p10 p11 p12 p13 p14 p15 p5 p6) (fun xy0 xy1 xy2 xy3 xy4 xy5 xy6 xy7 xy8 xy9 xy10 xy11 xy12 xy13 xy14 xy15=>(bif f==(0:Int)then B_7_32_0_1 (J_7_32_0_1 xy0 xy1 xy2 xy3 xy4 xy5 xy6 xy7 xy8 xy9 xy10 xy11 xy12 xy13 xy14 xy15 xy9 xy10) (fun yy0 yy1 yy2 yy3 yy4 yy5 yy6 yy7 yy8 yy9 yy10 yy11 yy12 yy13 yy14 yy15=>(bif g==(0:Int)then B_7_32_0_2 (J_7_32_0_2 yy0 yy1 yy2 yy3 yy4 yy5 yy6 yy7 yy8 yy9 yy10 yy11 yy12 yy13 yy14 yy15 yy13 yy14) (fun zy0 zy1 zy2 zy3 zy4 zy5 zy6 zy7 zy8 zy9 zy10 zy11 zy12 zy13 zy14 zy15=>some (a2,zy0,zy2,zy3,()))else bif g==(18:Int)then B_7_32_0_2 (J_7_32_0_2 yy0 yy1 yy2 yy3 yy4 yy5 yy6 yy7 yy8 yy9 yy10 yy11 yy12 yy13 yy14 yy15 yy13 yy14) (fun zy0 zy1 zy2 zy3 zy4 zy5 zy6 zy7 zy8 zy9 zy10 zy11 zy12 zy13 zy14 zy15=>some (a2,zy0,zy2,zy3,()))else some (a2,yy0,yy2,yy3,())))else bif f==(18:Int)then B_7_32_0_1 (J_7_32_0_1 xy0 xy1 xy2 xy3 xy4 xy5 xy6 xy7 xy8 xy9 xy10 xy11 xy12 xy13 xy14 xy15 xy9 xy10) (fun yy0 yy1 yy2 yy3 yy4 yy5 yy6 yy7 yy8 yy9 yy10 yy11 yy12 yy13 yy14 yy15=>(bif g==(0:Int)then B_7_32_0_2 (J_7_32_0_2 yy0 yy1 yy2 yy3 yy4 yy5 yy6 yy7 yy8 yy9 yy10 yy11 yy12 yy13 yy14 yy15 yy13 yy14) (fun zy0 zy1 zy2 zy3 zy4 zy5 zy6 zy7 zy8 zy9 zy10 zy11 zy12 zy13 zy14 zy15=>some (a2,zy0,zy2,zy3,()))else bif g==(18:Int)then B_7_32_0_2 (J_7_32_0_2 yy0 yy1 yy2 yy3 yy4 yy5 yy6 yy7 yy8 yy9 yy10 yy11 yy12 yy13 yy14 yy15 yy13 yy14) (fun zy0 zy1 zy2 zy3 zy4 zy5 zy6 zy7 zy8 zy9 zy10 zy11 zy12 zy13 zy14 zy15=>some (a2,zy0,zy2,zy3,()))else some (a2,yy0,yy2,yy3,())))else(bif g==(0:Int)then B_7_32_0_2 (J_7_32_0_2 xy0 xy1 xy2 xy3 xy4 xy5 xy6 xy7 xy8 xy9 xy10 xy11 xy12 xy13 xy14 xy15 xy13 xy14) (fun zy0 zy1 zy2 zy3 zy4 zy5 zy6 zy7 zy8 zy9 zy10 zy11 zy12 zy13 zy14 zy15=>some (a2,zy0,zy2,zy3,()))else bif g==(18:Int)then B_7_32_0_2 (J_7_32_0_2 xy0 xy1 xy2 xy3 xy4 xy5 xy6 xy7 xy8 xy9 xy10 xy11 xy12 xy13 xy14 xy15 xy13 xy14) (fun zy0 zy1 zy2 zy3 zy4 zy5 zy6 zy7 zy8 zy9 zy10 zy11 zy12 zy13 zy14 zy15=>some (a2,zy0,zy2,zy3,()))else some (a2,xy0,xy2,xy3,()))))else(bif f==(0:Int)then B_7_32_0_1 (J_7_32_0_1 p0 p1 p2 p3 p4 p5 p6 p7 p8 p9 p10 p11 p12 p13 p14 p15 p9 p10) (fun yy0 yy1 yy2 yy3 yy4 yy5 yy6 yy7 yy8 yy9 yy10 yy11 yy12 yy13 yy14 yy15=>(bif g==(0:Int)then B_7_32_0_2 (J_7_32_0_2 yy0 yy1 yy2 yy3 yy4 yy5 yy6 yy7 yy8 yy9 yy10 yy11 yy12 yy13 yy14 yy15 yy13 yy14) (fun zy0 zy1 zy2 zy3 zy4 zy5 zy6 zy7 zy8 zy9 zy10 zy11 zy12 zy13 zy14 zy15=>some (a2,zy0,zy2,zy3,()))else bif g==(18:Int)then B_7_32_0_2 (J_7_32_0_2 yy0 yy1 yy2 yy3 yy4 yy5 yy6 yy7 yy8 yy9 yy10 yy11 yy12 yy13 yy14 yy15 yy13 yy14) (fun zy0 zy1 zy2 zy3 zy4 zy5 zy6 zy7 zy8 zy9 zy10 zy11 zy12 zy13 zy14 zy15=>some (a2,zy0,zy2,zy3,()))else some (a2,yy0,yy2,yy3,())))else bif f==(18:Int)then B_7_32_0_1 (J_7_32_0_1 p0 p1 p2 p3 p4 p5 p6 p7 p8 p9 p10 p11 p12 p13 p14 p15 p9 p10) (fun yy0 yy1 yy2 yy3 yy4 yy5 yy6 yy7 yy8 yy9 yy10 yy11 yy12 yy13 yy14 yy15=>(bif g==(0:Int)then B_7_32_0_2 (J_7_32_0_2 yy0 yy1 yy2 yy3 yy4 yy5 yy6 yy7 yy8 yy9 yy10 yy11 yy12 yy13 yy14 yy15 yy13 yy14) (fun zy0 zy1 zy2 zy3 zy4 zy5 zy6 zy7 zy8 zy9 zy10 zy11 zy12 zy13 zy14 zy15=>some (a2,zy0,zy2,zy3,()))else bif g==(18:Int)then B_7_32_0_2 (J_7_32_0_2 yy0 yy1 yy2 yy3 yy4 yy5 yy6 yy7 yy8 yy9 yy10 yy11 yy12 yy13 yy14 yy15 yy13 yy14) (fun zy0 zy1 zy2 zy3 zy4 zy5 zy6 zy7 zy8 zy9 zy10 zy11 zy12 zy13 zy14 zy15=>some (a2,zy0,zy2,zy3,()))else some (a2,yy0,yy2,yy3,())))else(bif g==(0:Int)then B_7_32_0_2 (J_7_32_0_2 p0 p1 p2 p3 p4 p5 p6 p7 p8 p9 p10 p11 p12 p13 p14 p15 p13 p14) (fun zy0 zy1 zy2 zy3 zy4 zy5 zy6 zy7 zy8 zy9 zy10 zy11 zy12 zy13 zy14 zy15=>some (a2,zy0,zy2,zy3,()))else bif g==(18:Int)then B_7_32_0_2 (J_7_32_0_2 p0 p1 p2 p3 p4 p5 p6 p7 p8 p9 p10 p11 p12 p13 p14 p15 p13 p14) (fun zy0 zy1 zy2 zy3 zy4 zy5 zy6 zy7 zy8 zy9 zy10 zy11 zy12 zy13 zy14 zy15=>some (a2,zy0,zy2,zy3,()))else some (a2,p0,p2,p3,()))))=some (a2,p0,p2,p3,()):=by
 rw[jp0 p0 p1 p2 p3 p4 p5 p6 p7 p8 p9 p10 p11 p12 p13 p14 p15 p5 p6 h0]
 cases e==(0:Int)
 ·cases e==(18:Int)
  ·exact lv1 a2 f g p0 p1 p2 p3 p4 p5 p6 p7 p8 p9 p10 p11 p12 p13 p14 p15 h1 h2
  ·exact lv1 a2 f g p0 p1 p2 p3 (Sp.spl p4 p4.length) p5 p6 p7 p8 p9 p10 p11 p12 p13 p14 p15 h1 h2
 ·exact lv1 a2 f g p0 p1 p2 p3 (Sp.spl p4 p4.length) p5 p6 p7 p8 p9 p10 p11 p12 p13 p14 p15 h1 h2
set_option maxRecDepth 100000
set_option maxHeartbeats 4000000
theorem copy_w{f:FlT}(h0:f.1.length<=35184372088832)(h1:f.2.1.length<=17592186044416):p_30 f=true/\v_30 f=(f,()):=by
 refine pv_30 f ?_
 unfold F_30
 have t0:=run0 (fun m i acc=>L_30_0 m i f (0,()) [] [] (f.2.2.1,()) acc []) (n:=f.1.length) (fun j=>f.1.take j) (r:=some (.e0 f (0,()) [] [] (f.2.2.1,()) f.1 [])) (by omega) (fun m j hj=>by
  show L_30_0 (m+1) (j:Int) f (0,()) [] [] (f.2.2.1,()) (f.1.take j) []=L_30_0 m ((j+1:Nat):Int) f (0,()) [] [] (f.2.2.1,()) (f.1.take (j+1)) []
  rw[L_30_0,S_30_0,cond_dtt (by omega),gd_inB (by omega) (by omega),gd_room (by rw[List.length_take];omega) (by rw[List.length_take];omega),Int.toNat_natCast,wi64 (by omega) (by omega),List.take_succ_eq_append_getElem hj,<-getD_at 0 hj]
  push_cast
  rfl) (fun m=>by
  show L_30_0 (m+1) (f.1.length:Int) f (0,()) [] [] (f.2.2.1,()) (f.1.take f.1.length) []=_
  rw[L_30_0,S_30_0,cond_dff (by omega),List.take_length])
 have t0:L_30_0 4611686018427387904 0 f (0,()) [] [] (f.2.2.1,()) [] []=_:=t0
 have t1:=run0 (fun m i acc=>L_30_1 m i f (0,()) [] [] (f.2.2.1,()) f.1 acc) (n:=f.2.1.length) (fun j=>f.2.1.take j) (r:=some (.e0 (0,()) [] [] (f.2.2.1,()) f.1 f.2.1)) (by omega) (fun m j hj=>by
  show L_30_1 (m+1) (j:Int) f (0,()) [] [] (f.2.2.1,()) f.1 (f.2.1.take j)=L_30_1 m ((j+1:Nat):Int) f (0,()) [] [] (f.2.2.1,()) f.1 (f.2.1.take (j+1))
  rw[L_30_1,S_30_1,cond_dtt (by omega),gd_inB (by omega) (by omega),gd_room (by rw[List.length_take];omega) (by rw[List.length_take];omega),Int.toNat_natCast,wi64 (by omega) (by omega),List.take_succ_eq_append_getElem hj,<-getD_at 0 hj]
  push_cast
  rfl) (fun m=>by
  show L_30_1 (m+1) (f.2.1.length:Int) f (0,()) [] [] (f.2.2.1,()) f.1 (f.2.1.take f.2.1.length)=_
  rw[L_30_1,S_30_1,cond_dff (by omega),List.take_length])
 have t1:L_30_1 4611686018427387904 0 f (0,()) [] [] (f.2.2.1,()) f.1 []=_:=t1
 rw[t0]
 unfold B_30_0
 dsimp only
 rw[t1]
 rfl
theorem swrd_w(l:List Int)(h:l.length<=35184372088832):p_68 l l=true/\v_68 l l=(true,()):=by
 refine pv_68 l l ?_
 unfold F_68
 rw[cond_nff rfl]
 have t:=run0 (fun m i(_:Unit)=>L_68_0 m l l i) (n:=l.length) (fun _=>()) (r:=some .e1) (by omega) (fun m j hj=>by
  show L_68_0 (m+1) l l (j:Int)=L_68_0 m l l ((j+1:Nat):Int)
  rw[L_68_0,S_68_0,cond_dtt (by omega),gd_inB (by omega) (by omega),gd_inB (by omega) (by omega),cond_nff rfl,wi64 (by omega) (by omega)]
  push_cast
  rfl) (fun m=>by
  show L_68_0 (m+1) l l l.length=_
  rw[L_68_0,S_68_0,cond_dff (by omega)])
 exact(congrArg (fun z=>B_68_0 z _ _) t).trans rfl
theorem smem_w(m:MeT)(h:m.1.1.length<=35184372088832)(h2:m.1.2.1.length<=17592186044416):p_33 m m=true/\v_33 m m=(true,()):=by
 refine pv_33 m m ?_
 unfold F_33
 rw[cond_nff rfl,cond_nff rfl,cond_nff rfl,cond_nff rfl]
 have t:=run0 (fun q i(_:Unit)=>L_33_0 q i m m) (n:=m.1.2.1.length) (fun _=>()) (r:=some (.e1 m m)) (by omega) (fun q j hj=>by
  show L_33_0 (q+1) (j:Int) m m=L_33_0 q ((j+1:Nat):Int) m m
  rw[L_33_0,S_33_0,cond_dtt (by omega),gd_inB (by omega) (by omega),gd_inB (by omega) (by omega),cond_nff rfl,wi64 (by omega) (by omega)]
  push_cast
  rfl) (fun q=>by
  show L_33_0 (q+1) m.1.2.1.length m m=_
  rw[L_33_0,S_33_0,cond_dff (by omega)])
 have w:=swrd_w m.1.1 h
 refine(congrArg (fun z=>B_33_0 z _ _) t).trans ?_
 unfold B_33_0
 dsimp only
 rw[w.1,w.2,gd_tt]
theorem eql_w(l:List Int)(h:l.length<=1000):p_34 l l=true/\v_34 l l=(true,()):=by
 refine pv_34 l l ?_
 unfold F_34
 rw[cond_nff rfl]
 have t:=run0 (fun m i(_:Unit)=>L_34_0 m l l l.length i) (n:=l.length) (fun _=>()) (r:=some .e1) (by omega) (fun m j hj=>by
  show L_34_0 (m+1) l l l.length (j:Int)=L_34_0 m l l l.length ((j+1:Nat):Int)
  rw[L_34_0,S_34_0,cond_dtt (by omega),gd_inB (by omega) (by omega),gd_inB (by omega) (by omega),cond_nff rfl,wi64 (by omega) (by omega)]
  push_cast
  rfl) (fun m=>by
  show L_34_0 (m+1) l l l.length l.length=_
  rw[L_34_0,S_34_0,cond_dff (by omega)])
 exact(congrArg (fun z=>B_34_0 z _ _) t).trans rfl
theorem plain_own(m:MeT)(key:Int)(d:List Int)(p:PwT)(hw:W32f m.1)(hd:W32l d)(hA:m.1.1.length<=35184372088832)(hB:m.1.2.1.length<=17592186044416) :
 gd p_9 (bif !v_9.1 then some false else gd (p_10 m.1) (bif(v_10 m.1).1 then some true else bif decide ((length d:Int)>24)then some true else none))=some true\/
 F_7 m key d p=some (d,m,m,d,())/\(∃z,F_18 m=some z) /\
  gd (p_33 m m) (bif(v_33 m m).1 then gd (p_34 d d) (some (v_34 d d).1)else some false)=some true:=by
 obtain⟨b,g1,g2,_⟩:=grt_pv m.1
 rw[aw_pv.1,aw_pv.2,gd_tt,g1,g2,gd_tt]
 dsimp only
 rw[Bool.not_true,cond_f]
 cases b
 rotate_left
 ·exact .inl rfl
 rw[cond_f]
 by_cases l24:(d.length:Int)>24
 ·rw[cond_dtt l24];exact .inl rfl
 right
 have wr:=wrv_pv hw (key:=key) hd p
 have cl:=clv_pv hw p
 have fm:=fmt_pv (f:=m.1) (a:=m.2.1) (n:=m.2.2.1) (p:=p) hw
 have cp:=copy_w hA hB
 have sm:=smem_w m hA hB
 have eq:=eql_w d (by omega)
 refine⟨?_,?_,?_⟩
 ·unfold F_7
  rw[aw_pv.1,aw_pv.2,gd_tt,g1,g2,gd_tt]
  dsimp only
  rw[Bool.not_true,cond_f,cond_f,cond_dff l24,cp.1,cp.2,gd_tt,gd_room (by omega) (by omega),wr.1,wr.2,gd_tt,cl.1,cl.2,gd_tt,fm.1,fm.2,gd_tt]
  exact lv0 d (Sp.wrv m key d p).2.2.1 (Sp.clv m p).2.2.1 (Sp.fmv m.1 m.2.1 m.2.2.1 p).2.2.1 m p m d (Sp.wrv m key d p).1.1.1 (Sp.wrv m key d p).1.1.2 (Sp.wrv m key d p).1.2 (Sp.wrv m key d p).2.1 (Sp.clv m p).1.1.1 (Sp.clv m p).1.1.2 (Sp.clv m p).1.2 (Sp.clv m p).2.1 (Sp.fmv m.1 m.2.1 m.2.2.1 p).1.1.1 (Sp.fmv m.1 m.2.1 m.2.2.1 p).1.1.2 (Sp.fmv m.1 m.2.1 m.2.2.1 p).1.2 (Sp.fmv m.1 m.2.1 m.2.2.1 p).2.1 (by have:=wrv_n hw key d p;omega) (by have:=clv_n hw p;omega) (by have:=fmv_n hw m.2.1 m.2.2.1 p;omega)
 ·have e:=ent_pv hw
  have e1:=e.1
  unfold p_18 at e1
  exact Option.isSome_iff_exists.1 e1
 ·rw[sm.1,sm.2,gd_tt,eq.1,eq.2,gd_tt]
  rfl
end Go.Ev
set_option linter.unusedSimpArgs false
set_option linter.unusedVariables false
namespace Go.Ev
open Go Go.Proofs Go.RowKit
set_option maxRecDepth 100000
set_option maxHeartbeats 4000000
section
variable{H:Type}{P:Program}{enc:TypeId×Value->H}{W:World}{base:Nat}{spare:Nat->Bool}{held:Bool}{n:Nat}{t e:TypeId}{cs:List Value}{x:DataW H×List MemPlace}
theorem reach_part{fs:Array Field}(ht:P.underlying t=some (.struct fs))(h:DataW.trod enc P W base spare held n t cs=some x)(hz:∀k∈x.1.weights P t,k<=reachBytes)(i:Nat){f:Field}(hi:fs[i]? =some f){t':TypeId}(et:f.type=t'){o' c':Nat}(eo:f.offset=o')(ec:P.cellsOf t'=c') :
 ∃m y,DataW.trod enc P W base spare held m t' ((cs.drop o').take c')=some y/\∀k∈y.1.weights P t',k<=reachBytes:=by
 subst et eo ec
 obtain⟨xs,m,rfl,rfl,_,hlen,hf⟩:=DataW.trod_struct ht h
 have hl:i<xs.length:=by
  rw[hlen]
  exact(Array.getElem?_eq_some_iff.1 hi).1
 refine⟨m,xs[i],(hf i f hi).trans (List.getElem?_eq_getElem hl),fun k hk=>hz k ?_⟩
 simp only[DataW.weights,ht]
 refine DataW.weights_mem_each (j:=i) (t:=f.type) (d:=xs[i].1) ?_ ?_ k hk
 ·rw[List.getElem?_map,Array.getElem?_toList,hi]
  rfl
 ·rw[List.getElem?_map,List.getElem?_eq_getElem hl]
  rfl
theorem reach_slice{a:Option Addr}{l c:Nat}(ht:P.underlying t=some (.slice e))(h:DataW.trod enc P W base spare held n t [.slice a l c]=some x)(hz:∀k∈x.1.weights P t,k<=reachBytes):l*P.bytesOf e<=reachBytes:=by
 rcases DataW.trod_slice ht h with⟨h1,_⟩|⟨a',len,cap,elems,rest,m,_,h1,rfl,_,_,_,hlen,_⟩
 ·injection h1 with h1
  injection h1 with _ h1
  subst h1
  omega
 ·injection h1 with h1
  injection h1 with _ h1
  subst h1
  have:=hz ((elems.length+rest.length)*P.bytesOf e) (by simp[DataW.weights,ht])
  rw[<-hlen]
  exact Nat.le_trans (Nat.mul_le_mul_right _ (Nat.le_add_right _ _)) this
end
theorem reach_mem{H:Type}{enc:TypeId×Value->H}{W:World}{E:Env}{spare:Nat->Bool}{held:Bool}{v:Value}{d:DataW H}{p:List MemPlace}{m:MemT.den}(h:DataW.Trod enc Try.prog W 0 spare held 32 v d p)(hv:VRep E (ofP MemT m) v)(hz:∀k∈d.weights Try.prog 32,k<=reachBytes) :
 length m.1.1<=35184372088832/\length m.1.2.1<=17592186044416:=by
 obtain⟨cs,h1,h2⟩:=hv.one1 (isVal_tup (isVal_ofP MemT m))
 have h1:RepD E.w E.R MemT m cs:=h1
 have h2:v= .agg cs.toArray:=h2
 subst h2
 obtain⟨fu,h⟩:=h
 have h:DataW.trod enc Try.prog W 0 spare held fu 32 cs=some (d,p):=by simpa[Value.cells]using h
 obtain⟨cA,cB,rfl,⟨cw,cX,rfl,⟨aw,kw,rfl,_⟩,⟨cx,cI,rfl,⟨ax,kx,rfl,_⟩,⟨ci,cU,rfl,⟨rfl,_⟩,hu⟩⟩⟩,_⟩:=h1
 have hu:cU=[]:=hu
 subst hu
 have c25:Try.prog.cellsOf 25=3:=by kernel_rfl
 have c22:Try.prog.cellsOf 22=1:=by kernel_rfl
 have c23:Try.prog.cellsOf 23=1:=by kernel_rfl
 have b26:Try.prog.bytesOf 26=4:=by kernel_rfl
 have b3:Try.prog.bytesOf 3=8:=by kernel_rfl
 obtain⟨n1,y1,g1,z1⟩:=reach_part Try.underlying32 h hz 0 rfl rfl rfl c25
 obtain⟨n2,y2,g2,z2⟩:=reach_part Try.underlying25 g1 z1 0 rfl rfl rfl c22
 obtain⟨n3,y3,g3,z3⟩:=reach_part Try.underlying25 g1 z1 1 rfl rfl rfl c23
 have r1:=reach_slice Try.underlying22 g2 z2
 have r2:=reach_slice Try.underlying23 g3 z3
 rw[b26]at r1
 rw[b3]at r2
 unfold reachBytes at r1 r2
 exact⟨by omega,by omega⟩
theorem law_calls{W:World}{x0:MemT.den}{x1:Int}{x2:List Int}{x3:Int×Int×Unit}{vs:List Value}(hvs:Vs (pureE W (inW W)) (ofH A_7 (x0,x1,x2,x3,())) vs)(w0:wfD MemT x0)(w2:wfD DatT x2)(hb:length x0.1.1<=35184372088832/\length x0.1.2.1<=17592186044416) :
 Calls Try.prog 7 vs.toArray W fun e W'=>e= .returned (.bool true)/\Below W.heap.size W W':=by
 have hw:W32f x0.1:=fun x hx=>u32_b (w0.1.1 x hx)
 have hd:W32l x2:=fun x hx=>u32_b (w2 x hx)
 rcases plain_own x0 x1 x2 x3 hw hd hb.1 hb.2 with h|⟨hy,⟨z,hz⟩,hp⟩
 ·exact early_calls hvs h
 ·exact own_calls hvs hy hz hp
end Go.Ev
