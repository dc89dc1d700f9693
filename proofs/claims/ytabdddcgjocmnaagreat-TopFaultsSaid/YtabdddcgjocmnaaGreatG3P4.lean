/- Helpers: functions of the program as Lean functions, and what they compute. No condition. -/
import Derived.Test.YtabdddcgjocmnaaGreatE3P4
import Derived.Test.YtabdddcgjocmnaaGreatG3P2
import Derived.Test.YtabdddcgjocmnaaGreatG3P1
import Derived.Test.YtabdddcgjocmnaaGreatE3P2
set_option maxRecDepth 10000
set_option linter.unusedVariables false
set_option linter.unusedSimpArgs false
open Go.IntKind (wrap i64 i32 i16 i8 u64 u32 u16 u8)
open List (getD length take drop replicate)
open Int (toNat)
open Go.Ev.Sp
set_option linter.unusedSimpArgs false
set_option linter.unusedVariables false
namespace Go.Ev
open Go
set_option maxRecDepth 100000
set_option maxHeartbeats 4000000
abbrev FlT:=List Int×List Int×Int×Unit
abbrev PwT:=Int×Int×Unit
abbrev OpT:=Bool×Int×Int×Unit
abbrev RsT:=FlT×PwT×Int×Unit
namespace Sp
noncomputable def wb(f:FlT)(j:Nat):Bool:=decide (f.2.1.getD j 0<0)||decide (f.2.1.getD j 0>f.2.2.1)
noncomputable def fv(f:FlT):Bool:=decide (1<=f.2.1.length)&&(decide (f.2.1.length<=64)&&(decide (f.1.length=f.2.1.length*64)&&(decide (1<=f.2.2.1)&&(decide (f.2.2.1<=1000000)&&(fnd (wb f) f.2.1.length 0).isNone))))
noncomputable def pw(f:FlT)(k:Nat)(w bits:Int):FlT:=(f.1.set k (andnI .u32 (f.1.getD k 0) (andnI .u32 bits w)),f.2.1,f.2.2.1,())
noncomputable def prg(f:FlT)(k:Nat)(w:Int)(p:PwT):RsT:=if p.1=0 then(f,p,18,())else if p.1=1 then(pw f k w p.2.1,(0,p.2),18,())else(pw f k w 4294967295,(p.1-1,p.2),0,())
noncomputable def orW(ws:List Int)(o:Nat)(bits:Int)(n:Nat):List Int:=ws.mapIdx (fun i x=>if o<=i/\i<o+n then orI .u32 x bits else x)
noncomputable def ew(f:FlT)(s:Nat)(bits:Int):FlT:=(orW f.1 (s*64) bits 64,f.2.1.set s (f.2.1.getD s 0+1),f.2.2.1,())
noncomputable def ers(f:FlT)(s:Nat)(p:PwT):RsT:=if f.2.1.getD s 0=f.2.2.1 then(([],[],0,()),(0,0,()),19,())else if p.1=0 then(f,p,18,())else if p.1=1 then(ew f s p.2.1,(0,p.2),18,())else(ew f s 4294967295,(p.1-1,p.2),0,())
end Sp
theorem Dr0{f:FlT}:Sp.fv f=true↔1<=f.2.1.length/\f.2.1.length<=64/\f.1.length=f.2.1.length*64/\1<=f.2.2.1/\f.2.2.1<=1000000/\∀j,j<f.2.1.length->0<=f.2.1.getD j 0/\f.2.1.getD j 0<=f.2.2.1:=by
 simp only[Sp.fv,Bool.and_eq_true,decide_eq_true_eq,Option.isNone_iff_eq_none,Eh0,Sp.wb,Bool.or_eq_false_iff,decide_eq_false_iff_not]
 constructor
 ·rintro⟨a,b,c,d,e,g⟩
  refine⟨a,b,c,d,e,fun j hj=> ?_⟩
  have:=g j (by omega) (by omega)
  omega
 ·rintro⟨a,b,c,d,e,g⟩
  refine⟨a,b,c,d,e,fun j _ hj=> ?_⟩
  have:=g j (by omega)
  omega
theorem Mj2(f:FlT):F_26 f=some (Sp.fv f,()):=by
 unfold F_26 Sp.fv
 by_cases h1:(f.2.1.length:Int)<1
 ·rw[Af0 h1,decide_eq_false (by omega)];rfl
 rw[Ad0 h1,decide_eq_true (p:=1<=f.2.1.length) (by omega),Bool.true_and]
 by_cases h2:(f.2.1.length:Int)>64
 ·rw[Af0 h2,decide_eq_false (by omega)];rfl
 rw[Ad0 h2,decide_eq_true (p:=f.2.1.length<=64) (by omega),Bool.true_and,wi64 (by omega) (by omega)]
 by_cases h3:(f.1.length:Int)=(f.2.1.length:Int)*64
 rotate_left
 ·rw[Bh0 h3,decide_eq_false (p:=f.1.length=_) (by omega)];rfl
 rw[Ar0 h3,decide_eq_true (p:=f.1.length=_) (by omega),Bool.true_and]
 by_cases h4:f.2.2.1<1
 ·rw[Af0 h4,decide_eq_false (by omega)];rfl
 rw[Ad0 h4,decide_eq_true (p:=1<=f.2.2.1) (by omega),Bool.true_and]
 by_cases h5:f.2.2.1>1000000
 ·rw[Af0 h5,decide_eq_false (by omega)];rfl
 rw[Ad0 h5,decide_eq_true (p:=f.2.2.1<=1000000) (by omega),Bool.true_and]
 have hf:=Kq0 (fun m i=>L_26_90_0_0 m f.2.1 f.2.1.length i f) (n:=f.2.1.length) (Sp.wb f) (ex:=fun j=>some (.e0 (j:Int) f)) (e1:=some (.e1 f)) (by omega) (fun m j hj=>by
  show L_26_90_0_0 (m+1) f.2.1 f.2.1.length j f=bif Sp.wb f j then some (.e0 (j:Int) f)else L_26_90_0_0 m f.2.1 f.2.1.length ((j+1:Nat):Int) f
  rw[L_26_90_0_0,S_26_90_0_0,Af0 (by omega),Ap0 (by omega) (by omega),Int.toNat_natCast,wi64 (by omega) (by omega)]
  unfold Sp.wb
  push_cast
  grind) (fun m=>by
  show L_26_90_0_0 (m+1) f.2.1 f.2.1.length f.2.1.length f=_
  rw[L_26_90_0_0,S_26_90_0_0,Ad0 (by omega)])
 rw[hf]
 cases fnd (Sp.wb f) f.2.1.length 0 with
 |none=>rfl
 |some k=>
  simp only[B_26_90_0_0,Option.isNone]
  rw[decide_eq_true (by omega)]
  rfl
theorem Je1(f:FlT):p_26 f=true/\v_26 f=(Sp.fv f,()):=Lr2 f (Mj2 f)
theorem Ci1{f:FlT}{p:PwT}{a n:Int}(h:Sp.fv f=true)(h0:0<=p.1)(h1:p.1<=1099511627776)(h2:0<=a)(h3:a<n):p_95 f p a n=true/\v_95 f p a n=(0,()):=by
 refine Ka2 f p a n ?_
 unfold F_95
 rw[(Je1 f).1,(Je1 f).2,Ai0,h,Bool.not_true,At0,Ad0 (by omega),Ad0 (by omega),Ad0 (by omega),Ad0 (by omega)]
theorem Eq2{f:FlT}{p:PwT}{k:Nat}{w:Int}(h:Sp.fv f=true)(h0:0<=p.1)(h1:p.1<=1099511627776)(h2:k<f.1.length):F_76 f k w p=some (Sp.prg f k w p):=by
 have hv:=Dr0.1 h
 unfold F_76 Sp.prg Sp.pw
 rw[(Ci1 h h0 h1 (by omega) (by omega)).1,(Ci1 h h0 h1 (by omega) (by omega)).2,Ai0,Ar0 rfl,Be0 (by omega) (by omega),Be0 (by omega) (by omega)]
 simp only[Ap0 (show(0:Int)<=(k:Int) by omega) (show(k:Int)<((f.1.length:Nat):Int) by omega),Int.toNat_natCast,Bool.and_true,Eq0 h2]
 by_cases e0:p.1=0
 ·rw[Aw0 e0,if_pos e0]
 rw[Ax0 e0,if_neg e0]
 by_cases e1:p.1=1
 ·rw[Aw0 e1,if_pos e1]
 rw[Ax0 e1,if_neg e1,wi64 (by omega) (by omega)]
theorem Ep2{f:FlT}{p:PwT}{k:Nat}{w:Int}(h:Sp.fv f=true)(h0:0<=p.1)(h1:p.1<=1099511627776)(h2:k<f.1.length):p_76 f k w p=true/\v_76 f k w p=Sp.prg f k w p:=Ki2 f k w p (Eq2 h h0 h1 h2)
theorem Dj0{α:Type}(l:List α)(i j:Nat)(x d:α)(h:i<l.length):(l.set i x).getD j d=if i=j then x else l.getD j d:=by
 simp only[List.getD_eq_getElem?_getD,List.getElem?_set]
 split
 ·simp[h]
 ·rfl
set_option maxRecDepth 100000
set_option maxHeartbeats 4000000
abbrev MeT:=FlT×Int×Int×Unit
abbrev EnT:=Int×List Int×Unit
abbrev W32f(f:FlT):Prop:=∀x∈f.1,0<=x/\x<4294967296
theorem W32f.at{f:FlT}(h:W32f f)(k:Nat):0<=f.1.getD k 0/\f.1.getD k 0<4294967296:=by
 rw[List.getD_eq_getElem?_getD]
 cases e:f.1[k]? with
 |none=>decide
 |some x=>exact h x (List.mem_of_getElem? e)
namespace Sp
noncomputable def prw(n:Int):Int:=n*65536+(65535-n)
noncomputable def nmb(w:Int):Int×Bool:=(w/65536,prw (w/65536)==w)
noncomputable def plc(m:MeT):Bool:=decide (2<=m.2.2.1)&&(decide (m.2.2.1<=16)&&((m.2.2.1%2==0)&&(decide (0<=m.2.1)&&decide (m.2.1<=(m.1.2.1.length:Int)-m.2.2.1))))
noncomputable def hsz(m:MeT):Nat:=32*m.2.2.1.toNat
noncomputable def hbs(m:MeT)(k:Nat):Nat:=64*m.2.1.toNat+k*hsz m
noncomputable def hwr(m:MeT)(k:Nat):List Int:=take (hsz m) (drop (hbs m k) m.1.1)
noncomputable def gnr(m:MeT)(k:Nat):Int:=bif(nmb ((hwr m k).getD 0 0)).2 then(nmb ((hwr m k).getD 0 0)).1 else 0
noncomputable def acv(m:MeT):Nat:=bif decide (gnr m 1>gnr m 0)then 1 else 0
noncomputable def acb(m:MeT):Bool:=decide (gnr m 1>gnr m 0)||decide (gnr m 0>0)
noncomputable def mvl(m:MeT):Bool:=fv m.1&&(plc m&&acb m)
noncomputable def stp(s w:Int):Int:=(31*s+w/65536+7*(w%65536))%65536
noncomputable def smw(l:List Int):Int:=l.foldl stp 0
end Sp
theorem Hw2{n:Nat}(h:n<65536):Sp.andI .i64 (Sp.xorI .i64 (-1) (n:Int)) 65535=65535-(n:Int):=by
 have e0:(BitVec.ofInt 64 (-1) ^^^ BitVec.ofInt 64 (n:Int)).toNat=18446744073709551615-n:=by
  have:BitVec.ofInt 64 (-1) ^^^ BitVec.ofInt 64 (n:Int)= ~~~ BitVec.ofInt 64 (n:Int):=by
   rw[show BitVec.ofInt 64 (-1)=BitVec.allOnes 64 from rfl,BitVec.allOnes_xor]
  rw[this,BitVec.toNat_not]
  have:(BitVec.ofInt 64 (n:Int)).toNat=n:=by
   rw[BitVec.ofInt_natCast,BitVec.toNat_ofNat];omega
  omega
 have e1:Sp.xorI .i64 (-1) (n:Int)= -1-(n:Int):=by
  unfold Sp.xorI
  show wrap .i64 ((BitVec.ofInt 64 (-1) ^^^ BitVec.ofInt 64 (n:Int)).toNat:Int)=_
  rw[e0,IntKind.wrap_i64]
  omega
 rw[e1]
 unfold Sp.andI
 show wrap .i64 ((BitVec.ofInt 64 (-1-(n:Int))&&&BitVec.ofInt 64 65535).toNat:Int)=_
 have e2:(BitVec.ofInt 64 (-1-(n:Int))).toNat=18446744073709551615-n:=by
  rw[BitVec.toNat_ofInt];omega
 rw[BitVec.toNat_and,e2,show(BitVec.ofInt 64 65535).toNat=2^16-1 from rfl,Nat.and_two_pow_sub_one_eq_mod,wi64 (by omega) (by omega)]
 omega
theorem Kk0{n:Int}(h0:0<=n)(h1:n<65536):p_52 n=true/\v_52 n=(Sp.prw n,()):=by
 refine Kx2 n ?_
 obtain⟨k,rfl⟩:=Int.eq_ofNat_of_zero_le h0
 unfold F_52 Sp.prw
 have h1':k<65536:=by omega
 rw[Hw2 h1',Cb0 (by omega),show(k:Int)*65536=((k*65536:Nat):Int)from(Int.natCast_mul k 65536).symm,Cb0 (by omega),show 65535-(k:Int)=((65535-k:Nat):Int) by omega,Cb0 (by omega),Wb1 (by omega) (by omega),show k*65536=k*2^16 from rfl,Pb1 16 (by omega)]
 congr 2
theorem In0{n:Int}(h0:0<=n)(h1:n<65536):0<=Sp.prw n/\Sp.prw n<4294967296/\Sp.nmb (Sp.prw n)=(n,true):=by
 have e:Sp.prw n/65536=n:=by unfold Sp.prw;omega
 refine⟨by unfold Sp.prw;omega,by unfold Sp.prw;omega,?_⟩
 unfold Sp.nmb
 rw[e,beq_self_eq_true]
theorem Vm0{w:Int}(h0:0<=w)(h1:w<4294967296):p_91 w=true/\v_91 w=((Sp.nmb w).1,(Sp.nmb w).2,()):=by
 refine Kc2 w ?_
 unfold F_91
 have e:Int.fdiv w 65536=w/65536:=Int.fdiv_eq_ediv_of_nonneg _ (by decide)
 rw[e,wi64 (by omega) (by omega),(Kk0 (n:=w/65536) (by omega) (by omega)).1,(Kk0 (n:=w/65536) (by omega) (by omega)).2,Ai0]
 rfl
theorem Ev2{w:Int}(h0:0<=w)(h1:w<4294967296):0<=(Sp.nmb w).1/\(Sp.nmb w).1<65536:=by
 unfold Sp.nmb
 dsimp only
 omega
theorem Hb1(m:MeT)(h:m.1.2.1.length<=1000000):p_28 m=true/\v_28 m=(Sp.plc m,()):=by
 refine Lp2 m ?_
 unfold F_28 Sp.plc
 by_cases h1:2<=m.2.2.1
 rotate_left
 ·rw[Ad0 (by omega),decide_eq_false h1];rfl
 rw[Af0 (by omega),decide_eq_true h1,Bool.true_and]
 by_cases h2:m.2.2.1<=16
 rotate_left
 ·rw[Ad0 h2,decide_eq_false h2];rfl
 rw[Af0 h2,decide_eq_true h2,Bool.true_and,Int.tmod_eq_emod_of_nonneg (by omega),wi64 (by omega) (by omega)]
 by_cases h3:m.2.2.1%2=0
 rotate_left
 ·rw[Ax0 h3,beq_eq_false_iff_ne.2 h3];rfl
 rw[Aw0 h3,beq_iff_eq.2 h3,Bool.true_and]
 by_cases h4:0<=m.2.1
 ·rw[Af0 (by omega),decide_eq_true h4,Bool.true_and]
 ·rw[Ad0 (by omega),decide_eq_false h4];rfl
theorem Eb0{m:MeT}:Sp.plc m=true↔2<=m.2.2.1/\m.2.2.1<=16/\m.2.2.1%2=0/\0<=m.2.1/\m.2.1<=(m.1.2.1.length:Int)-m.2.2.1:=by
 unfold Sp.plc
 simp only[Bool.and_eq_true,decide_eq_true_eq,beq_iff_eq]
theorem pl_b{m:MeT}(hv:Sp.fv m.1=true)(hp:Sp.plc m=true):64<=Sp.hsz m/\Sp.hsz m<=512/\Sp.hbs m 1+Sp.hsz m<=m.1.1.length/\Sp.hbs m 0+Sp.hsz m<=m.1.1.length/\m.1.1.length<=4096/\(Sp.hsz m:Int)=32*m.2.2.1/\(Sp.hbs m 0:Int)=64*m.2.1/\(Sp.hbs m 1:Int)=64*m.2.1+32*m.2.2.1:=by
 obtain⟨p1,p2,p3,p4,p5⟩:=Eb0.1 hp
 have v:=Dr0.1 hv
 unfold Sp.hbs Sp.hsz
 omega
theorem pl_k{m:MeT}(hv:Sp.fv m.1=true)(hp:Sp.plc m=true){k:Nat}(hk:k<2):Sp.hbs m k+Sp.hsz m<=m.1.1.length/\(Sp.hbs m k:Int)=64*m.2.1+(k:Int)*(32*m.2.2.1):=by
 have:=pl_b hv hp
 match k,hk with
 |0,_=>exact⟨this.2.2.2.1,by rw[this.2.2.2.2.2.2.1];simp⟩
 |1,_=>exact⟨this.2.2.1,by rw[this.2.2.2.2.2.2.2];simp⟩
theorem Pf1{m:MeT}(hv:Sp.fv m.1=true)(hp:Sp.plc m=true):p_86 m=true/\v_86 m=((Sp.hsz m:Int),()):=by
 obtain⟨p1,p2,p3,p4,p5⟩:=Eb0.1 hp
 have b:=pl_b hv hp
 refine Kd2 m ?_
 unfold F_86
 rw[wi64 (n:=64*m.2.2.1) (by omega) (by omega),Int.tdiv_eq_ediv_of_nonneg (by omega),wi64 (by omega) (by omega),b.2.2.2.2.2.1]
 congr 2
 omega
theorem Ru0{m:MeT}(hv:Sp.fv m.1=true)(hp:Sp.plc m=true){k:Nat}(hk:k<2){i:Int}(h0:0<=i)(h1:i<=1000000):p_51 m k i=true/\v_51 m k i=((Sp.hbs m k:Int)+i,()):=by
 obtain⟨p1,p2,p3,p4,p5⟩:=Eb0.1 hp
 have v:=Dr0.1 hv
 have b:=pl_b hv hp
 have bk:=pl_k hv hp hk
 refine Ky2 m k i ?_
 unfold F_51
 have e:Int.tdiv (wrap .i64 ((k:Int)*m.2.2.1)) 2=(k:Int)*(m.2.2.1/2):=by
  match k,hk with
  |0,_=>simp;rfl
  |1,_=>rw[show((1:Nat):Int)=1 from rfl,Int.one_mul,wi64 (by omega) (by omega),Int.tdiv_eq_ediv_of_nonneg (by omega),Int.one_mul]
 have e2:0<=(k:Int)*(m.2.2.1/2)/\(k:Int)*(m.2.2.1/2)<=8/\64*((k:Int)*(m.2.2.1/2))=(k:Int)*(32*m.2.2.1):=by
  match k,hk with
  |0,_=>simp
  |1,_=>simp;omega
 rw[e,wi64 (n:=(k:Int)*(m.2.2.1/2)) (by omega) (by omega),wi64 (n:=m.2.1+(k:Int)*(m.2.2.1/2)) (by omega) (by omega),wi64 (n:=64*(m.2.1+(k:Int)*(m.2.2.1/2))) (by omega) (by omega),bk.2,wi64 (by omega) (by omega)]
 congr 2
 omega
theorem Nw1{m:MeT}(hv:Sp.fv m.1=true)(hp:Sp.plc m=true){k:Nat}(hk:k<2):p_81 m k=true/\v_81 m k=(Sp.hwr m k,()):=by
 have b:=pl_b hv hp
 have bk:=pl_k hv hp hk
 have s:=Pf1 hv hp
 have a:=Ru0 hv hp hk (i:=0) (by omega) (by omega)
 have a2:=Ru0 hv hp hk (i:=(Sp.hsz m:Int)) (by omega) (by omega)
 refine Kf2 m k ?_
 unfold F_81
 rw[a.1,a.2,Ai0,s.1,s.2,Ai0]
 dsimp only
 rw[a2.1,a2.2,Ai0]
 dsimp only
 rw[Ih0 (by omega) (by omega) (by omega)]
 unfold Sp.hwr
 rw[show((Sp.hbs m k:Int)+(Sp.hsz m:Int)).toNat-((Sp.hbs m k:Int)+0).toNat=Sp.hsz m by omega,show((Sp.hbs m k:Int)+0).toNat=Sp.hbs m k by omega]
theorem Dw0{m:MeT}(hv:Sp.fv m.1=true)(hp:Sp.plc m=true){k:Nat}(hk:k<2):(Sp.hwr m k).length=Sp.hsz m:=by
 have bk:=pl_k hv hp hk
 unfold Sp.hwr
 rw[List.length_take,List.length_drop]
 omega
abbrev W32l(l:List Int):Prop:=∀x∈l,0<=x/\x<4294967296
theorem W32l.at{l:List Int}(h:W32l l)(k:Nat):0<=l.getD k 0/\l.getD k 0<4294967296:=by
 rw[List.getD_eq_getElem?_getD]
 cases e:l[k]? with
 |none=>decide
 |some x=>exact h x (List.mem_of_getElem? e)
theorem W32l.td{l:List Int}(h:W32l l)(a b:Nat):W32l (take a (drop b l)):=fun x hx=>h x (List.mem_of_mem_drop (List.mem_of_mem_take hx))
theorem W32f.half{m:MeT}(h:W32f m.1)(k:Nat):W32l (Sp.hwr m k):=W32l.td (l:=m.1.1) h _ _
theorem Ih1{m:MeT}(hw:W32f m.1)(hv:Sp.fv m.1=true)(hp:Sp.plc m=true){k:Nat}(hk:k<2):p_64 m k=true/\v_64 m k=(Sp.gnr m k,()):=by
 have w:=Nw1 hv hp hk
 have l:=Dw0 hv hp hk
 have b:=pl_b hv hp
 have h0:=(hw.half k).at 0
 have n:=Vm0 h0.1 h0.2
 refine Kp2 m k ?_
 unfold F_64 Sp.gnr
 rw[w.1,w.2,Ai0]
 dsimp only
 rw[Ap0 (by omega) (by omega),n.1,n.2,Ai0]
 dsimp only
 cases (Sp.nmb ((Sp.hwr m k).getD 0 0)).2<;>rfl
theorem Dy1{m:MeT}(hw:W32f m.1)(k:Nat):0<=Sp.gnr m k/\Sp.gnr m k<65536:=by
 have h0:=(hw.half k).at 0
 have:=Ev2 h0.1 h0.2
 unfold Sp.gnr
 cases (Sp.nmb ((Sp.hwr m k).getD 0 0)).2
 ·exact⟨Int.le_refl 0,(by decide:(0:Int)<65536)⟩
 ·exact this
theorem Wc0{m:MeT}(hw:W32f m.1)(hv:Sp.fv m.1=true)(hp:Sp.plc m=true):p_29 m=true/\v_29 m=((Sp.acv m:Int),Sp.acb m,()):=by
 have g0:=Ih1 hw hv hp (k:=0) (by decide)
 have g1:=Ih1 hw hv hp (k:=1) (by decide)
 refine Lo2 m ?_
 unfold F_29 Sp.acv Sp.acb
 rw[show(0:Int)=((0:Nat):Int)from rfl,show(1:Int)=((1:Nat):Int)from rfl,g0.1,g0.2,Ai0,g1.1,g1.2,Ai0]
 dsimp only
 cases decide (Sp.gnr m 1>Sp.gnr m 0)<;>rfl
theorem Bt0(m:MeT):Sp.acv m<2:=by
 unfold Sp.acv
 cases decide (Sp.gnr m 1>Sp.gnr m 0)<;>decide
theorem Br1{m:MeT}(hw:W32f m.1):p_20 m=true/\v_20 m=(Sp.mvl m,()):=by
 have v:=Je1 m.1
 refine Lv2 m ?_
 unfold F_20 Sp.mvl
 rw[v.1,v.2,Ai0]
 dsimp only
 cases hv:Sp.fv m.1
 ·rfl
 have hl:=Dr0.1 hv
 have p:=Hb1 m (by omega)
 rw[Bool.not_true,At0,p.1,p.2,Ai0]
 dsimp only
 cases hp:Sp.plc m
 ·rfl
 have a:=Wc0 hw hv hp
 rw[Bool.not_true,At0,a.1,a.2,Ai0]
 rfl
theorem Gk0{m:MeT}(h:Sp.mvl m=true):Sp.fv m.1=true/\Sp.plc m=true/\Sp.acb m=true:=by
 unfold Sp.mvl at h
 simpa only[Bool.and_eq_true]using h
theorem Ne1{w:Int}(h0:0<=w)(h1:w<4294967296):Sp.andI .u32 w 65535=w%65536:=by
 obtain⟨k,rfl⟩:=Int.eq_ofNat_of_zero_le h0
 have e:Sp.andI .u32 (k:Int) ((65535:Nat):Int)=((k&&&65535:Nat):Int):=Nd1 (by omega) (by decide)
 rw[show(65535:Int)=((65535:Nat):Int)from rfl,e,show 65535=2^16-1 from rfl,Nat.and_two_pow_sub_one_eq_mod,Int.natCast_emod]
 rfl
theorem Xw0(l:List Int):∀s,0<=s->s<65536->0<=l.foldl Sp.stp s/\l.foldl Sp.stp s<65536:=by
 induction l with
 |nil=>intro s h0 h1;exact⟨h0,h1⟩
 |cons x l ih=>intro s h0 h1;exact ih _ (by unfold Sp.stp;omega) (by unfold Sp.stp;omega)
theorem Id2{l:List Int}(hw:W32l l)(hl:l.length<1000000):∀(d m j:Nat)(s:Int),0<=s->s<65536->j+d=l.length->d<m->L_85_0 m s l l.length j=some (.e0 ((l.drop j).foldl Sp.stp s)):=by
 intro d
 induction d with
 |zero=>
  intro m j s _ _ hj hm
  obtain⟨m,rfl⟩:∃k,m=k+1:=⟨m-1,by omega⟩
  rw[L_85_0,S_85_0,Ad0 (by omega),List.drop_of_length_le (by omega)]
  rfl
 |succ d ih=>
  intro m j s h0 h1 hj hm
  obtain⟨m,rfl⟩:∃k,m=k+1:=⟨m-1,by omega⟩
  have hx:=hw.at j
  have e:Int.fdiv (l.getD j 0) 65536=l.getD j 0/65536:=Int.fdiv_eq_ediv_of_nonneg _ (by decide)
  have e3:l.drop j=l.getD j 0::l.drop (j+1):=by
   have hj':j<l.length:=by omega
   rw[List.drop_eq_getElem_cons hj',List.getD_eq_getElem?_getD,List.getElem?_eq_getElem hj'];rfl
  have r:=ih m (j+1) (Sp.stp s (l.getD j 0)) (by unfold Sp.stp;omega) (by unfold Sp.stp;omega) (by omega) (by omega)
  rw[L_85_0,S_85_0,Af0 (by omega),Ap0 (by omega) (by omega),Int.toNat_natCast,e,Ne1 hx.1 hx.2,e3,List.foldl_cons]
  generalize l.getD j 0=x at *
  rw[wi64 (n:=31*s) (by omega) (by omega),wi64 (n:=x/65536) (by omega) (by omega),wi64 (n:=31*s+x/65536) (by omega) (by omega),wi64 (n:=x%65536) (by omega) (by omega),wi64 (n:=7*(x%65536)) (by omega) (by omega),wi64 (n:=31*s+x/65536+7*(x%65536)) (by omega) (by omega),Int.tmod_eq_emod_of_nonneg (by omega),wi64 (by omega) (by omega),show(j:Int)+1=((j+1:Nat):Int) by push_cast;rfl]
  exact r
theorem Fo1{l:List Int}(hw:W32l l)(hl:l.length<1000000):p_85 l=true/\v_85 l=(Sp.smw l,()):=by
 refine Ke2 l ?_
 unfold F_85
 have:=Id2 hw hl l.length 4611686018427387904 0 0 (by decide) (by decide) (by omega) (by omega)
 rw[List.drop_zero]at this
 exact(congrArg (fun z=>B_85_0 z _) this).trans rfl
set_option maxRecDepth 100000
set_option maxHeartbeats 4000000
namespace Sp
noncomputable def dE:EnT:=Ty.dflt (.pair (.int .i64) (.pair (.slice (.int .u32)) .unit))
noncomputable def bsl(es:List EnT)(key:Int):Nat->Nat->Nat->Nat
 |0,lo,_=>lo
 |f+1,lo,hi=>if lo<hi then(if(es.getD ((lo+hi)/2) dE).1<key then bsl es key f ((lo+hi)/2+1) hi else bsl es key f lo ((lo+hi)/2))else lo
noncomputable def plE(es:List EnT)(key:Int):Nat:=bsl es key es.length 0 es.length
noncomputable def putE(es:List EnT)(key:Int)(data:List Int):List EnT:=
 if plE es key<es.length/\(es.getD (plE es key) dE).1=key then es.set (plE es key) (key,data,())else es.take (plE es key)++([(key,data,())]++es.drop (plE es key))
noncomputable def rdl(l:List Int):Nat->Nat->List EnT->Nat×List EnT
 |0,i,es=>(i,es)
 |f+1,i,es=>if i<l.length/\(nmb (l.getD i 0)).2=true/\(nmb (l.getD i 0)).1/256<=254/\(nmb (l.getD i 0)).1%256<=24/\i+((nmb (l.getD i 0)).1%256).toNat+2<=l.length then
  rdl l f (i+((nmb (l.getD i 0)).1%256).toNat+2)
   (if(nmb (l.getD (i+((nmb (l.getD i 0)).1%256).toNat+1) 0)).2=true/\(nmb (l.getD (i+((nmb (l.getD i 0)).1%256).toNat+1) 0)).1=smw (take (((nmb (l.getD i 0)).1%256).toNat+1) (drop i l))then putE es ((nmb (l.getD i 0)).1/256) (take ((nmb (l.getD i 0)).1%256).toNat (drop (i+1) l))else es)
  else(i,es)
noncomputable def blk(l:List Int)(e:Nat):Bool:=(drop e l).all (fun w=>w==4294967295)
noncomputable def rdv(l:List Int):List EnT×Int×Int×Unit:=((rdl l l.length 1 []).2,((rdl l l.length 1 []).1:Int),(if blk l (rdl l l.length 1 []).1=true then(l.length:Int)-((rdl l l.length 1 []).1:Int)else 0),())
end Sp
noncomputable def KOK(es:List EnT):Prop:=∀e∈es,(0<=e.1/\e.1<=254)/\e.2.1.length<=24/\W32l e.2.1
theorem KOK.at{es:List EnT}(h:KOK es)(j:Nat):0<=(es.getD j Sp.dE).1/\(es.getD j Sp.dE).1<=254:=by
 rw[List.getD_eq_getElem?_getD]
 cases e:es[j]? with
 |none=>
  exact⟨Int.le_refl 0,(by decide:(0:Int)<=254)⟩
 |some x=>exact(h x (List.mem_of_getElem? e)).1
theorem Jy1(es:List EnT)(key:Int):∀(f lo hi:Nat),lo<=hi->lo<=Sp.bsl es key f lo hi/\Sp.bsl es key f lo hi<=hi
 |0,lo,hi,h=>⟨Nat.le_refl _,h⟩
 |f+1,lo,hi,h=>by
  rw[Sp.bsl]
  split
  ·split
   ·have:=Jy1 es key f ((lo+hi)/2+1) hi (by omega)
    omega
   ·have:=Jy1 es key f lo ((lo+hi)/2) (by omega)
    omega
  ·omega
theorem Rc0(es:List EnT)(key:Int):Sp.plE es key<=es.length:=(Jy1 es key es.length 0 es.length (Nat.zero_le _)).2
theorem Mn0(es:List EnT)(key:Int)(data:List Int):(Sp.putE es key data).length<=es.length+1:=by
 have:=Rc0 es key
 unfold Sp.putE
 split
 ·rw[List.length_set];omega
 ·rw[List.length_append,List.length_append,List.length_take,List.length_drop,List.length_singleton];omega
theorem KOK.put{es:List EnT}(h:KOK es){key:Int}(h0:0<=key)(h1:key<=254){data:List Int}(hd:data.length<=24)(hw:W32l data):KOK (Sp.putE es key data):=by
 have hn:(0<=key/\key<=254)/\data.length<=24/\W32l data:=⟨⟨h0,h1⟩,hd,hw⟩
 intro e he
 unfold Sp.putE at he
 split at he
 ·rcases List.mem_or_eq_of_mem_set he with h2|rfl
  ·exact h e h2
  ·exact hn
 ·rcases List.mem_append.1 he with h2|h2
  ·exact h e (List.mem_of_mem_take h2)
  ·rcases List.mem_append.1 h2 with h3|h3
   ·rw[List.mem_singleton.1 h3];exact hn
   ·exact h e (List.mem_of_mem_drop h3)
theorem bs2{es:List EnT}(hk:KOK es){key:Int}(h0:0<=key)(h1:key<=254)(hl:es.length<=1000000)(n:Int):∀(f m lo hi:Nat),hi-lo<=f->lo<=hi->hi<=es.length->f<m->
 L_61_87_0_0 m key n lo hi es=some (.e0 key n (Sp.bsl es key f lo hi) es):=by
 intro f
 induction f with
 |zero=>
  intro m lo hi h2 h3 h4 hm
  obtain⟨m,rfl⟩:∃k,m=k+1:=⟨m-1,by omega⟩
  rw[L_61_87_0_0,S_61_87_0_0,Ad0 (by omega),Sp.bsl]
 |succ f ih=>
  intro m lo hi h2 h3 h4 hm
  obtain⟨m,rfl⟩:∃k,m=k+1:=⟨m-1,by omega⟩
  rw[Sp.bsl]
  by_cases c:lo<hi
  rotate_left
  ·rw[L_61_87_0_0,S_61_87_0_0,Ad0 (by omega),if_neg c]
  have e:wrap .i64 (Int.fdiv (wrap .u64 (wrap .i64 ((lo:Int)+(hi:Int)))) 2)=(((lo+hi)/2:Nat):Int):=by
   rw[wi64 (n:=(lo:Int)+(hi:Int)) (by omega) (by omega),wu64 (by omega) (by omega),Int.fdiv_eq_ediv_of_nonneg _ (by decide),wi64 (by omega) (by omega)]
   omega
  have ka:=hk.at ((lo+hi)/2)
  have ka:0<=(es.getD ((lo+hi)/2) Zd2).1/\(es.getD ((lo+hi)/2) Zd2).1<=254:=ka
  rw[L_61_87_0_0,S_61_87_0_0,Af0 (by omega),e,Ap0 (by omega) (by omega),Int.toNat_natCast,Bool.and_true,Eq0 (by omega),if_pos c,wi64 (n:=(es.getD ((lo+hi)/2) Zd2).1-key) (by omega) (by omega)]
  by_cases c2:(es.getD ((lo+hi)/2) Sp.dE).1<key
  ·have c2':(es.getD ((lo+hi)/2) Zd2).1<key:=c2
   rw[Af0 (by omega),if_pos c2,wi64 (by omega) (by omega),show(((lo+hi)/2:Nat):Int)+1=(((lo+hi)/2+1:Nat):Int) by omega]
   exact ih m _ hi (by omega) (by omega) h4 (by omega)
  ·have c2':¬(es.getD ((lo+hi)/2) Zd2).1<key:=c2
   rw[Ad0 (by omega),if_neg c2]
   exact ih m lo _ (by omega) (by omega) (by omega) (by omega)
theorem Gz1{es:List EnT}(hk:KOK es){key:Int}(h0:0<=key)(h1:key<=254)(hl:es.length<=1000){data:List Int}(hd:data.length<=100000):p_61 es key data=true/\v_61 es key data=(Sp.putE es key data,()):=by
 have pl:=Rc0 es key
 have ka:=hk.at (Sp.plE es key)
 have b:=bs2 hk h0 h1 (by omega) (es.length:Int) es.length 4611686018427387904 0 es.length (by omega) (by omega) (by omega) (by omega)
 refine Kq2 es key data ?_
 unfold F_61 Sp.putE
 refine(congrArg (fun z=>B_61_87_0_0 z _) b).trans ?_
 unfold B_61_87_0_0
 dsimp only
 rw[show Sp.bsl es key es.length 0 es.length=Sp.plE es key from rfl]
 by_cases c:Sp.plE es key<es.length
 ·rw[Af0 (by omega),Ap0 (by omega) (by omega),Int.toNat_natCast,Bool.and_true,Eq0 c,Be0 (by omega) (by omega),show(es.getD (Sp.plE es key) Zd2).1=(es.getD (Sp.plE es key) Sp.dE).1 from rfl,wi64 (by omega) (by omega)]
  by_cases c2:(es.getD (Sp.plE es key) Sp.dE).1=key
  ·rw[Aw0 (by omega),Ap0 (by omega) (by omega),Bool.and_true,Eq0 c,if_pos ⟨c,c2⟩]
  ·rw[Ax0 (by omega),Bx1,Bx1,Eq0 (by omega),Eq0 (by omega),Be0 (by omega) (by omega),if_neg (fun a=>c2 a.2)]
 ·rw[Ad0 (by omega),Be0 (by omega) (by omega),Bx1,Bx1,Eq0 (by omega),Eq0 (by omega),Be0 (by omega) (by omega),if_neg (fun a=>c a.1),Int.toNat_natCast]
set_option maxRecDepth 100000
set_option maxHeartbeats 4000000
theorem W32l.dr{l:List Int}(h:W32l l)(a b:Nat):W32l (take a (drop b l)):=W32l.td h a b
structure HD(l:List Int)(i n:Nat)(k:Int)(ok:Bool):Prop where
 e:Sp.nmb (l.getD i 0)=(k*256+n,ok)
 n:n<256
 k0:0<=k
 k1:k<256
theorem Wm1{l:List Int}(hw:W32l l)(i:Nat):∃n k ok,HD l i n k ok:=by
 have h:=hw.at i
 have b:=Ev2 h.1 h.2
 refine⟨((Sp.nmb (l.getD i 0)).1%256).toNat,(Sp.nmb (l.getD i 0)).1/256,(Sp.nmb (l.getD i 0)).2,?_,by omega,by omega,by omega⟩
 refine Prod.ext ?_ rfl
 show(Sp.nmb (l.getD i 0)).1=_
 omega
theorem Yd0{l:List Int}{i n:Nat}{k:Int}{ok:Bool}(h:HD l i n k ok)(f:Nat)(es:List EnT):Sp.rdl l (f+1) i es=if i<l.length/\ok=true/\k<=254/\n<=24/\i+n+2<=l.length then
 Sp.rdl l f (i+n+2) (if(Sp.nmb (l.getD (i+n+1) 0)).2=true/\(Sp.nmb (l.getD (i+n+1) 0)).1=Sp.smw (take (n+1) (drop i l))then Sp.putE es k (take n (drop (i+1) l))else es)else(i,es):=by
 have e1:(k*256+(n:Int))/256=k:=by have:=h.n;omega
 have e2:(k*256+(n:Int))%256=(n:Int):=by have:=h.n;omega
 rw[Sp.rdl,h.e]
 dsimp only
 rw[e1,e2,Int.toNat_natCast]
 by_cases c:i<l.length/\ok=true/\k<=254/\n<=24/\i+n+2<=l.length
 ·rw[if_pos c,if_pos ⟨c.1,c.2.1,c.2.2.1,by omega,c.2.2.2.2⟩]
 ·rw[if_neg c,if_neg (fun a=>c ⟨a.1,a.2.1,a.2.2.1,by omega,a.2.2.2.2⟩)]
theorem r1{l:List Int}(hw:W32l l)(hl:l.length<=600)(M:MeT)(z:PwT)(fr:Int×Unit):∀(f m i:Nat)(es:List EnT),KOK es->es.length<=i->i<=l.length->l.length-i<=f->f<m->
 (L_58_100_0_1 m i M z ((i:Int),fr) l es=some (.e0 M z (((Sp.rdl l f i es).1:Int),fr) l (Sp.rdl l f i es).2)\/L_58_100_0_1 m i M z ((i:Int),fr) l es=some (.e1 M z (((Sp.rdl l f i es).1:Int),fr) l (Sp.rdl l f i es).2))/\KOK (Sp.rdl l f i es).2/\(Sp.rdl l f i es).2.length<=(Sp.rdl l f i es).1/\i<=(Sp.rdl l f i es).1/\(Sp.rdl l f i es).1<=l.length:=by
 intro f
 induction f with
 |zero=>
  intro m i es hk hn hi hf hm
  obtain⟨m,rfl⟩:∃k,m=k+1:=⟨m-1,by omega⟩
  refine⟨.inr ?_,hk,hn,Nat.le_refl _,hi⟩
  rw[L_58_100_0_1,S_58_100_0_1,Ad0 (by omega),Sp.rdl]
 |succ f ih=>
  intro m i es hk hn hi hf hm
  obtain⟨m,rfl⟩:∃k,m=k+1:=⟨m-1,by omega⟩
  obtain⟨n,k,ok,h⟩:=Wm1 hw i
  have hn2:=h.n
  have hk0:=h.k0
  have hk1:=h.k1
  rw[Yd0 h]
  by_cases c1:i<l.length
  rotate_left
  ·rw[if_neg (fun a=>c1 a.1)]
   refine⟨.inr ?_,hk,hn,Nat.le_refl _,hi⟩
   rw[L_58_100_0_1,S_58_100_0_1,Ad0 (by omega)]
  have hx:=hw.at i
  have nv:=Vm0 hx.1 hx.2
  rw[L_58_100_0_1,S_58_100_0_1,Af0 (by omega),Ap0 (by omega) (by omega),Int.toNat_natCast,nv.1,nv.2,Ai0,h.e]
  dsimp only
  cases ok with
  |false=>
   rw[if_neg (fun a=>Bool.noConfusion a.2.1),Bool.not_false,Cf0]
   exact⟨.inl rfl,hk,hn,Nat.le_refl _,hi⟩
  |true=>
  have e1:Int.tdiv (k*256+(n:Int)) 256=k:=by rw[Int.tdiv_eq_ediv_of_nonneg (by omega)];omega
  have e2:Int.tmod (k*256+(n:Int)) 256=(n:Int):=by rw[Int.tmod_eq_emod_of_nonneg (by omega)];omega
  rw[Bool.not_true,At0,e1,e2,wi64 (n:=k) (by omega) (by omega)]
  by_cases c2:k>254
  ·rw[Af0 c2,if_neg (fun a=>by omega)]
   exact⟨.inl rfl,hk,hn,Nat.le_refl _,hi⟩
  rw[Ad0 c2]
  by_cases c3:(n:Int)>24
  ·rw[Af0 c3,if_neg (fun a=>by omega)]
   exact⟨.inl rfl,hk,hn,Nat.le_refl _,hi⟩
  rw[Ad0 c3,wi64 (n:=(i:Int)+(n:Int)) (by omega) (by omega),wi64 (n:=(i:Int)+(n:Int)+2) (by omega) (by omega),wi64 (n:=(i:Int)+(n:Int)+1) (by omega) (by omega),wi64 (n:=(i:Int)+1) (by omega) (by omega)]
  by_cases c4:(i:Int)+(n:Int)+2>(l.length:Int)
  ·rw[Af0 c4,if_neg (fun a=>by omega)]
   exact⟨.inl rfl,hk,hn,Nat.le_refl _,hi⟩
  rw[Ad0 c4,if_pos (show i<l.length/\true=true/\k<=254/\n<=24/\i+n+2<=l.length from⟨c1,rfl,by omega,by omega,by omega⟩),Ap0 (by omega) (by omega),show((i:Int)+(n:Int)+1).toNat=i+n+1 by omega,show((i:Int)+1).toNat=i+1 by omega]
  have hy:=hw.at (i+n+1)
  have ny:=Vm0 hy.1 hy.2
  have en:wrap .i64 ((i:Int)+wrap .i64 ((n:Int)+2))=((i+n+2:Nat):Int):=by
   rw[wi64 (n:=(n:Int)+2) (by omega) (by omega),wi64 (by omega) (by omega)];omega
  have next:∀es',KOK es'->es'.length<=es.length+1->_:=fun es' g1 g2=>ih m (i+n+2) es' g1 (by omega) (by omega) (by omega) (by omega)
  have j3:J_58_100_1_3 i n M z ((i:Int),fr) l (-1) [] es=some (.e1 i n M z ((i:Int),fr) l (-1) [] es):=by
   unfold J_58_100_1_3 S_58_100_1_3
   rw[Ad0 (by decide)]
  rw[ny.1,ny.2,Ai0]
  dsimp only
  cases hb:(Sp.nmb (l.getD (i+n+1) 0)).2 with
  |false=>
   rw[At0,if_neg (fun a=>Bool.noConfusion a.1),j3]
   unfold B_58_100_1_3
   dsimp only
   rw[en]
   have:=next es hk (by omega)
   exact⟨this.1,this.2.1,this.2.2.1,by omega,this.2.2.2.2⟩
  |true=>
  have s:=Fo1 (W32l.td hw (n+1) i) (by rw[List.length_take];omega)
  rw[Cf0,Ih0 (by omega) (by omega) (by omega),show i+n+1-i=n+1 by omega,s.1,s.2,Ai0]
  dsimp only
  by_cases c5:(Sp.nmb (l.getD (i+n+1) 0)).1=Sp.smw (take (n+1) (drop i l))
  rotate_left
  ·rw[Ax0 c5,if_neg (fun a=>c5 a.2),j3]
   unfold B_58_100_1_3
   dsimp only
   rw[en]
   have:=next es hk (by omega)
   exact⟨this.1,this.2.1,this.2.2.1,by omega,this.2.2.2.2⟩
  rw[Aw0 c5,if_pos ⟨rfl,c5⟩,Ih0 (by omega) (by omega) (by omega),show i+n+1-(i+1)=n by omega]
  have dl:(take n (drop (i+1) l)).length<=24:=by rw[List.length_take];omega
  have:=next (Sp.putE es k (take n (drop (i+1) l))) (hk.put hk0 (by omega) dl (W32l.td hw n (i+1))) (Mn0 _ _ _)
  refine⟨?_,this.2.1,this.2.2.1,by omega,this.2.2.2.2⟩
  have pt:=Gz1 hk hk0 (by omega) (by omega) (data:=take n (drop (i+1) l)) (by omega)
  have j2:J_58_100_1_2 i n M z ((i:Int),fr) l (k,take n (drop (i+1) l),()) es=some (.e0 i n M z ((i:Int),fr) l (k,take n (drop (i+1) l),()) es):=by
   unfold J_58_100_1_2 S_58_100_1_2
   rw[Af0 (by omega),pt.1,Ai0]
  rw[j2]
  unfold B_58_100_1_2
  dsimp only
  rw[en,pt.2]
  exact this.1
theorem Sq0(k:Int)(d:List Int):Sp.putE [] k d=[(k,d,())]:=by
 unfold Sp.putE
 rw[if_neg (fun a=>Nat.not_lt_zero _ a.1)]
 rfl
theorem r0{l:List Int}(hw:W32l l)(hl:l.length<=600)(M:MeT)(z:PwT)(fr:Int×Unit):∀(f m i:Nat),1<=i->i<=l.length->l.length-i<=f->f<m->
 ((L_58_100_0_0 m i M z ((i:Int),fr) l=some (.e0 M z (((Sp.rdl l f i []).1:Int),fr) l)\/L_58_100_0_0 m i M z ((i:Int),fr) l=some (.e1 M z (((Sp.rdl l f i []).1:Int),fr) l))/\(Sp.rdl l f i []).2=[] \/
   (L_58_100_0_0 m i M z ((i:Int),fr) l=some (.e2 M z (((Sp.rdl l f i []).1:Int),fr) l (Sp.rdl l f i []).2)\/L_58_100_0_0 m i M z ((i:Int),fr) l=some (.e3 M z (((Sp.rdl l f i []).1:Int),fr) l (Sp.rdl l f i []).2)))/\KOK (Sp.rdl l f i []).2/\(Sp.rdl l f i []).2.length<=(Sp.rdl l f i []).1/\i<=(Sp.rdl l f i []).1/\(Sp.rdl l f i []).1<=l.length:=by
 have kn:KOK []:=fun e he=>by cases he
 intro f
 induction f with
 |zero=>
  intro m i h1 hi hf hm
  obtain⟨m,rfl⟩:∃k,m=k+1:=⟨m-1,by omega⟩
  refine⟨.inl ⟨.inr ?_,rfl⟩,kn,Nat.zero_le _,Nat.le_refl _,hi⟩
  rw[L_58_100_0_0,S_58_100_0_0,Ad0 (by omega),Sp.rdl]
 |succ f ih=>
  intro m i h1 hi hf hm
  obtain⟨m,rfl⟩:∃k,m=k+1:=⟨m-1,by omega⟩
  obtain⟨n,k,ok,h⟩:=Wm1 hw i
  have hn2:=h.n
  have hk0:=h.k0
  have hk1:=h.k1
  rw[Yd0 h]
  by_cases c1:i<l.length
  rotate_left
  ·rw[if_neg (fun a=>c1 a.1)]
   refine⟨.inl ⟨.inr ?_,rfl⟩,kn,Nat.zero_le _,Nat.le_refl _,hi⟩
   rw[L_58_100_0_0,S_58_100_0_0,Ad0 (by omega)]
  have hx:=hw.at i
  have nv:=Vm0 hx.1 hx.2
  rw[L_58_100_0_0,S_58_100_0_0,Af0 (by omega),Ap0 (by omega) (by omega),Int.toNat_natCast,nv.1,nv.2,Ai0,h.e]
  dsimp only
  cases ok with
  |false=>
   rw[if_neg (fun a=>Bool.noConfusion a.2.1),Bool.not_false,Cf0]
   exact⟨.inl ⟨.inl rfl,rfl⟩,kn,Nat.zero_le _,Nat.le_refl _,hi⟩
  |true=>
  have e1:Int.tdiv (k*256+(n:Int)) 256=k:=by rw[Int.tdiv_eq_ediv_of_nonneg (by omega)];omega
  have e2:Int.tmod (k*256+(n:Int)) 256=(n:Int):=by rw[Int.tmod_eq_emod_of_nonneg (by omega)];omega
  rw[Bool.not_true,At0,e1,e2,wi64 (n:=k) (by omega) (by omega)]
  by_cases c2:k>254
  ·rw[Af0 c2,if_neg (fun a=>by omega)]
   exact⟨.inl ⟨.inl rfl,rfl⟩,kn,Nat.zero_le _,Nat.le_refl _,hi⟩
  rw[Ad0 c2]
  by_cases c3:(n:Int)>24
  ·rw[Af0 c3,if_neg (fun a=>by omega)]
   exact⟨.inl ⟨.inl rfl,rfl⟩,kn,Nat.zero_le _,Nat.le_refl _,hi⟩
  rw[Ad0 c3,wi64 (n:=(i:Int)+(n:Int)) (by omega) (by omega),wi64 (n:=(i:Int)+(n:Int)+2) (by omega) (by omega),wi64 (n:=(i:Int)+(n:Int)+1) (by omega) (by omega),wi64 (n:=(i:Int)+1) (by omega) (by omega)]
  by_cases c4:(i:Int)+(n:Int)+2>(l.length:Int)
  ·rw[Af0 c4,if_neg (fun a=>by omega)]
   exact⟨.inl ⟨.inl rfl,rfl⟩,kn,Nat.zero_le _,Nat.le_refl _,hi⟩
  rw[Ad0 c4,if_pos (show i<l.length/\true=true/\k<=254/\n<=24/\i+n+2<=l.length from⟨c1,rfl,by omega,by omega,by omega⟩),Ap0 (by omega) (by omega),show((i:Int)+(n:Int)+1).toNat=i+n+1 by omega,show((i:Int)+1).toNat=i+1 by omega]
  have hy:=hw.at (i+n+1)
  have ny:=Vm0 hy.1 hy.2
  have en:wrap .i64 ((i:Int)+wrap .i64 ((n:Int)+2))=((i+n+2:Nat):Int):=by
   rw[wi64 (n:=(n:Int)+2) (by omega) (by omega),wi64 (by omega) (by omega)];omega
  have next:=ih m (i+n+2) (by omega) (by omega) (by omega) (by omega)
  have j1:J_58_100_1_1 i n M z ((i:Int),fr) l (-1) []=some (.e1 i n M z ((i:Int),fr) l (-1) []):=by
   unfold J_58_100_1_1 S_58_100_1_1
   rw[Ad0 (by decide)]
  rw[ny.1,ny.2,Ai0]
  dsimp only
  cases hb:(Sp.nmb (l.getD (i+n+1) 0)).2 with
  |false=>
   rw[At0,if_neg (fun a=>Bool.noConfusion a.1),j1]
   unfold B_58_100_1_1
   dsimp only
   rw[en]
   exact⟨next.1,next.2.1,next.2.2.1,by omega,next.2.2.2.2⟩
  |true=>
  have s:=Fo1 (W32l.td hw (n+1) i) (by rw[List.length_take];omega)
  rw[Cf0,Ih0 (by omega) (by omega) (by omega),show i+n+1-i=n+1 by omega,s.1,s.2,Ai0]
  dsimp only
  by_cases c5:(Sp.nmb (l.getD (i+n+1) 0)).1=Sp.smw (take (n+1) (drop i l))
  rotate_left
  ·rw[Ax0 c5,if_neg (fun a=>c5 a.2),j1]
   unfold B_58_100_1_1
   dsimp only
   rw[en]
   exact⟨next.1,next.2.1,next.2.2.1,by omega,next.2.2.2.2⟩
  rw[Aw0 c5,if_pos ⟨rfl,c5⟩,Ih0 (by omega) (by omega) (by omega),show i+n+1-(i+1)=n by omega,Sq0]
  have dl:(take n (drop (i+1) l)).length<=24:=by rw[List.length_take];omega
  have k1:KOK [(k,take n (drop (i+1) l),())]:=by
   rw[<-Sq0]
   exact kn.put hk0 (by omega) dl (W32l.td hw n (i+1))
  have r:=r1 hw hl M z fr f m (i+n+2) [(k,take n (drop (i+1) l),())] k1 (by simp only[List.length_singleton];omega) (by omega) (by omega) (by omega)
  refine⟨.inr ?_,r.2.1,r.2.2.1,by omega,r.2.2.2.2⟩
  have pt:=Gz1 kn hk0 (by omega) (by decide) (data:=take n (drop (i+1) l)) (by omega)
  have j0:J_58_100_1_0 i n M z ((i:Int),fr) l (k,take n (drop (i+1) l),())=some (.e0 i n M z ((i:Int),fr) l (k,take n (drop (i+1) l),())):=by
   unfold J_58_100_1_0 S_58_100_1_0
   rw[Af0 (by omega),pt.1,Ai0]
  rw[j0]
  unfold B_58_100_1_0
  dsimp only
  rw[en,pt.2,Sq0]
  rcases r.1 with r|r
  ·exact .inl ((congrArg (fun z=>B_58_100_0_1 z _ _) r).trans rfl)
  ·exact .inr ((congrArg (fun z=>B_58_100_0_1 z _ _) r).trans rfl)
theorem blk_iff(l:List Int)(e:Nat):(fnd (fun j=>(drop e l).getD j 0 !=4294967295) (drop e l).length 0=none)↔Sp.blk l e=true:=by
 rw[Eh0]
 unfold Sp.blk
 rw[List.all_eq_true]
 constructor
 ·intro h x hx
  obtain⟨i,hi,e2⟩:=List.mem_iff_getElem.1 hx
  have:=h i (by omega) (by omega)
  rw[getD_at 0 hi,e2]at this
  simpa using this
 ·intro h i _ hi
  rw[getD_at 0 (by omega)]
  have:=h _ (List.getElem_mem (show i<(drop e l).length by omega))
  simpa using this
theorem c1_l(l:List Int)(e:Nat)(hl:l.length<=1000)(M:MeT)(z st:PwT)(es:List EnT):(Sp.blk l e=true->L_58_101_0_1 4611686018427387904 (drop e l) (drop e l).length 0 M z st l es=some (.e1 M z st l es))/\(Sp.blk l e=false->∃k:Nat,L_58_101_0_1 4611686018427387904 (drop e l) (drop e l).length 0 M z st l es=some (.e0 k M z st l es)):=by
 have hd:(drop e l).length<=1000:=by rw[List.length_drop];omega
 have hf:=Kq0 (fun m i=>L_58_101_0_1 m (drop e l) (drop e l).length i M z st l es) (n:=(drop e l).length) (fun j=>(drop e l).getD j 0 !=4294967295) (ex:=fun j=>some (.e0 (j:Int) M z st l es)) (e1:=some (.e1 M z st l es)) (by omega) (fun m j hj=>by
  show L_58_101_0_1 (m+1) (drop e l) (drop e l).length (j:Int) M z st l es=bif(drop e l).getD j 0 !=4294967295 then some (.e0 (j:Int) M z st l es)else L_58_101_0_1 m (drop e l) (drop e l).length ((j+1:Nat):Int) M z st l es
  rw[L_58_101_0_1,S_58_101_0_1,Af0 (by omega),Ap0 (by omega) (by omega),Int.toNat_natCast,wi64 (by omega) (by omega)]
  push_cast
  rfl) (fun m=>by
  show L_58_101_0_1 (m+1) (drop e l) (drop e l).length ((drop e l).length:Int) M z st l es=_
  rw[L_58_101_0_1,S_58_101_0_1,Ad0 (by omega)])
 constructor
 ·intro hb
  rw[(blk_iff l e).2 hb]at hf
  exact hf
 ·intro hb
  cases hq:fnd (fun j=>(drop e l).getD j 0 !=4294967295) (drop e l).length 0 with
  |none=>rw[(blk_iff l e).1 hq]at hb;cases hb
  |some k=>
   rw[hq]at hf
   exact⟨k,hf⟩
theorem c0_l(l:List Int)(e:Nat)(hl:l.length<=1000)(M:MeT)(z st:PwT):(Sp.blk l e=true->L_58_101_0_0 4611686018427387904 (drop e l) (drop e l).length 0 M z st l=some (.e1 M z st l))/\(Sp.blk l e=false->∃k:Nat,L_58_101_0_0 4611686018427387904 (drop e l) (drop e l).length 0 M z st l=some (.e0 k M z st l)):=by
 have hd:(drop e l).length<=1000:=by rw[List.length_drop];omega
 have hf:=Kq0 (fun m i=>L_58_101_0_0 m (drop e l) (drop e l).length i M z st l) (n:=(drop e l).length) (fun j=>(drop e l).getD j 0 !=4294967295) (ex:=fun j=>some (.e0 (j:Int) M z st l)) (e1:=some (.e1 M z st l)) (by omega) (fun m j hj=>by
  show L_58_101_0_0 (m+1) (drop e l) (drop e l).length (j:Int) M z st l=bif(drop e l).getD j 0 !=4294967295 then some (.e0 (j:Int) M z st l)else L_58_101_0_0 m (drop e l) (drop e l).length ((j+1:Nat):Int) M z st l
  rw[L_58_101_0_0,S_58_101_0_0,Af0 (by omega),Ap0 (by omega) (by omega),Int.toNat_natCast,wi64 (by omega) (by omega)]
  push_cast
  rfl) (fun m=>by
  show L_58_101_0_0 (m+1) (drop e l) (drop e l).length ((drop e l).length:Int) M z st l=_
  rw[L_58_101_0_0,S_58_101_0_0,Ad0 (by omega)])
 constructor
 ·intro hb
  rw[(blk_iff l e).2 hb]at hf
  exact hf
 ·intro hb
  cases hq:fnd (fun j=>(drop e l).getD j 0 !=4294967295) (drop e l).length 0 with
  |none=>rw[(blk_iff l e).1 hq]at hb;cases hb
  |some k=>
   rw[hq]at hf
   exact⟨k,hf⟩
theorem Vo1{l:List Int}(hw:W32l l)(hl:l.length<=600)(h1:1<=l.length):KOK (Sp.rdv l).1/\(Sp.rdv l).1.length<=l.length/\1<=(Sp.rdv l).2.1/\(Sp.rdv l).2.1<=l.length:=by
 have r:=r0 hw hl (([],[],0,()),0,0,()) (0,0,()) (0,()) l.length 4611686018427387904 1 (Nat.le_refl _) h1 (by omega) (by omega)
 unfold Sp.rdv
 dsimp only
 refine⟨r.2.1,by omega,by omega,by omega⟩
theorem Gs1{m:MeT}(hw:W32f m.1)(hv:Sp.fv m.1=true)(hp:Sp.plc m=true){k:Nat}(hk:k<2):p_58 m k=true/\v_58 m k=(Sp.rdv (Sp.hwr m k),()):=by
 have w:=Nw1 hv hp hk
 have ll:=Dw0 hv hp hk
 have b:=pl_b hv hp
 have hW:=hw.half k
 refine Kt2 m k ?_
 unfold F_58
 rw[w.1,w.2,Ai0]
 dsimp only
 generalize Sp.hwr m k=l at *
 have r:=r0 hW (by omega) m (0,0,()) (0,()) l.length 4611686018427387904 1 (Nat.le_refl _) (by omega) (by omega) (by omega)
 obtain⟨r,_,_,h3,h4⟩:=r
 unfold Sp.rdv
 generalize Sp.rdl l l.length 1 []=R at *
 obtain⟨e,es⟩:=R
 dsimp only at *
 have nil:es=[]->gd (sl3 (e:Int) (l.length:Int) (l.length:Int)) (B_58_101_0_0 (L_58_101_0_0 4611686018427387904 (drop (toNat (e:Int)) l) (drop (toNat (e:Int)) l).length 0 m (0,0,()) ((e:Int),0,()) l) (fun y62 y63 y64 y65 y66=>bif !decide (y62>=0)then some (([],y65.1,wrap .i64 ((l.length:Int)-y65.1),y65.2.2),())else some (([],y65),())) (fun y67 y68 y69 y70=>some (([],y69.1,wrap .i64 ((l.length:Int)-y69.1),y69.2.2),())))=some ((es,(e:Int),(if Sp.blk l e=true then(l.length:Int)-(e:Int)else 0),()),()):=by
  rintro rfl
  have c:=c0_l l e (by omega) m (0,0,()) ((e:Int),0,())
  rw[Ih0 (by omega) (by omega) (by omega),Int.toNat_natCast]
  cases hb:Sp.blk l e with
  |true=>
   rw[c.1 hb,if_pos rfl]
   unfold B_58_101_0_0
   dsimp only
   rw[wi64 (by omega) (by omega)]
  |false=>
   obtain⟨q,hq⟩:=c.2 hb
   rw[hq,if_neg Bool.false_ne_true]
   unfold B_58_101_0_0
   dsimp only
   rw[decide_eq_true (by omega),Bool.not_true,At0]
 have full:gd (sl3 (e:Int) (l.length:Int) (l.length:Int)) (B_58_101_0_1 (L_58_101_0_1 4611686018427387904 (drop (toNat (e:Int)) l) (drop (toNat (e:Int)) l).length 0 m (0,0,()) ((e:Int),0,()) l es) (fun y89 y90 y91 y92 y93 y94=>bif !decide (y89>=0)then some ((y94,y92.1,wrap .i64 ((l.length:Int)-y92.1),y92.2.2),())else some ((y94,y92),())) (fun y95 y96 y97 y98 y99=>some ((y99,y97.1,wrap .i64 ((l.length:Int)-y97.1),y97.2.2),())))=some ((es,(e:Int),(if Sp.blk l e=true then(l.length:Int)-(e:Int)else 0),()),()):=by
  have c:=c1_l l e (by omega) m (0,0,()) ((e:Int),0,()) es
  rw[Ih0 (by omega) (by omega) (by omega),Int.toNat_natCast]
  cases hb:Sp.blk l e with
  |true=>
   rw[c.1 hb,if_pos rfl]
   unfold B_58_101_0_1
   dsimp only
   rw[wi64 (by omega) (by omega)]
  |false=>
   obtain⟨q,hq⟩:=c.2 hb
   rw[hq,if_neg Bool.false_ne_true]
   unfold B_58_101_0_1
   dsimp only
   rw[decide_eq_true (by omega),Bool.not_true,At0]
 rcases r with⟨r|r,e0⟩|r|r
 ·exact(congrArg (fun z=>B_58_100_0_0 z _ _ _ _) r).trans (nil e0)
 ·exact(congrArg (fun z=>B_58_100_0_0 z _ _ _ _) r).trans (nil e0)
 ·exact(congrArg (fun z=>B_58_100_0_0 z _ _ _ _) r).trans full
 ·exact(congrArg (fun z=>B_58_100_0_0 z _ _ _ _) r).trans full
namespace Sp
noncomputable def zM:MeT:=(([],[],0,()),0,0,())
noncomputable def ent(m:MeT):List EnT:=(rdv (hwr m (acv m))).1
noncomputable def entv(m:MeT):List EnT×Int×Unit:=if mvl m=true then(ent m,0,())else([],1,())
noncomputable def fky(es:List EnT)(key:Int):Option Nat:=fnd (fun j=>(es.getD j dE).1==key) es.length 0
noncomputable def rdk(m:MeT)(key:Int):List Int×Int×Unit:=if mvl m=true then(if key<0\/key>254 then([],2,())else(match fky (ent m) key with|some j=>(((ent m).getD j dE).2.1,0,())|none=>([],7,())))else([],1,())
noncomputable def opn(f:FlT)(a n:Int):MeT×Int×Unit:=if fv f=true then(if plc (f,a,n,())=true then(if acb (f,a,n,())=true then((f,a,n,()),0,())else(zM,7,()))else(zM,2,()))else(zM,1,())
end Sp
theorem Fl2{m:MeT}(hv:Sp.fv m.1=true)(hp:Sp.plc m=true):(Sp.hwr m (Sp.acv m)).length<=600/\1<=(Sp.hwr m (Sp.acv m)).length:=by
 have l:=Dw0 hv hp (Bt0 m)
 have b:=pl_b hv hp
 omega
theorem Ew1{m:MeT}(hw:W32f m.1)(h:Sp.mvl m=true):KOK (Sp.ent m)/\(Sp.ent m).length<=600:=by
 obtain⟨hv,hp,_⟩:=Gk0 h
 have l:=Fl2 hv hp
 have r:=Vo1 (hw.half (Sp.acv m)) l.1 l.2
 exact⟨r.1,by have:=r.2.1;unfold Sp.ent;omega⟩
theorem Fy2{m:MeT}(hw:W32f m.1):p_65 m=true/\v_65 m=Sp.entv m:=by
 have v:=Br1 hw
 refine Ko2 m ?_
 unfold F_65 Sp.entv
 rw[v.1,v.2,Ai0]
 dsimp only
 cases hm:Sp.mvl m
 ·rfl
 obtain⟨hv,hp,_⟩:=Gk0 hm
 have a:=Wc0 hw hv hp
 rw[Bool.not_true,At0,if_pos rfl,a.1,a.2,Ai0]
 dsimp only
 have r:=Gs1 hw hv hp (Bt0 m)
 rw[r.1,r.2,Ai0]
 rfl
theorem Gv1{m:MeT}(hw:W32f m.1)(key:Int):p_31 m key=true/\v_31 m key=Sp.rdk m key:=by
 have e:=Fy2 hw
 refine Lm2 m key ?_
 unfold F_31 Sp.rdk
 rw[e.1,e.2,Ai0]
 unfold Sp.entv
 by_cases hm:Sp.mvl m=true
 rotate_left
 ·rw[if_neg hm,if_neg hm];rfl
 rw[if_pos hm,if_pos hm,Ar0 rfl]
 by_cases h0:key<0
 ·rw[Af0 h0,if_pos (.inl h0)]
 rw[Ad0 h0]
 by_cases h1:key>254
 ·rw[Af0 h1,if_pos (.inr h1)]
 rw[Ad0 h1,if_neg (fun a=>a.elim h0 h1)]
 have b:=Ew1 hw hm
 dsimp only
 generalize Sp.ent m=es at *
 have hf:=Kq0 (fun m i=>L_31_0 m key es es.length i) (n:=es.length) (fun j=>(es.getD j Sp.dE).1==key) (ex:=fun j=>some (.e0 es (j:Int))) (e1:=some .e1) (by omega) (fun m j hj=>by
  show L_31_0 (m+1) key es es.length (j:Int)=bif(es.getD j Sp.dE).1==key then some (.e0 es (j:Int))else L_31_0 m key es es.length ((j+1:Nat):Int)
  rw[L_31_0,S_31_0,Af0 (by omega),Ap0 (by omega) (by omega),Int.toNat_natCast,wi64 (by omega) (by omega)]
  push_cast
  rfl) (fun m=>by
  show L_31_0 (m+1) key es es.length (es.length:Int)=_
  rw[L_31_0,S_31_0,Ad0 (by omega)])
 rw[show fnd (fun j=>(es.getD j Sp.dE).1==key) es.length 0=Sp.fky es key from rfl]at hf
 refine(congrArg (fun z=>B_31_0 z _ _) hf).trans ?_
 cases Sp.fky es key with
 |none=>rfl
 |some j=>
  show some ((getD es (toNat (j:Int)) _).2.1,0,())=_
  rw[Int.toNat_natCast]
  rfl
theorem Gw1{m:MeT}(hw:W32f m.1)(key:Int):W32l (Sp.rdk m key).1/\(Sp.rdk m key).1.length<=24:=by
 have nil:W32l []/\([]:List Int).length<=24:=⟨(fun x hx=>by cases hx),Nat.zero_le _⟩
 unfold Sp.rdk
 by_cases hm:Sp.mvl m=true
 rotate_left
 ·rw[if_neg hm];exact nil
 rw[if_pos hm]
 by_cases h:key<0\/key>254
 ·rw[if_pos h];exact nil
 rw[if_neg h]
 have b:=Ew1 hw hm
 cases hf:Sp.fky (Sp.ent m) key with
 |none=>exact nil
 |some j=>
  unfold Sp.fky at hf
  have hj:=(Tm0 hf).2.1
  have hj:j<(Sp.ent m).length:=by omega
  have:=b.1 _ (List.getElem_mem hj)
  show W32l ((Sp.ent m).getD j Sp.dE).2.1/\_
  dsimp only
  rw[getD_at _ hj]
  exact⟨this.2.2,this.2.1⟩
theorem Ql1{f:FlT}(h:Sp.fv f=true):p_27 f=true/\v_27 f=(f,()):=by
 have v:=Dr0.1 h
 refine Lq2 f ?_
 unfold F_27
 rw[Be0 (by omega) (by omega),Be0 (by omega) (by omega)]
set_option maxRecDepth 100000
set_option maxHeartbeats 4000000
theorem Db0(ws:List Int)(o:Nat)(b:Int)(n:Nat):(Sp.orW ws o b n).length=ws.length:=by simp[Sp.orW]
theorem Hj0(ws:List Int)(o:Nat)(b:Int)(n i:Nat)(h:i<ws.length):(Sp.orW ws o b n).getD i 0=if o<=i/\i<o+n then Sp.orI .u32 (ws.getD i 0) b else ws.getD i 0:=by
 have hl:i<(Sp.orW ws o b n).length:=by rw[Db0];exact h
 rw[getD_at 0 hl,getD_at 0 h]
 simp[Sp.orW]
theorem Mi1(ws:List Int)(o:Nat)(b:Int):Sp.orW ws o b 0=ws:=by
 refine Cn0 0 (Db0 ..) (fun j hj=> ?_)
 rw[Db0]at hj
 rw[Hj0 _ _ _ _ _ hj,if_neg (by omega)]
theorem Mj1(ws:List Int)(o:Nat)(b:Int)(n:Nat)(h:o+n<ws.length):(Sp.orW ws o b n).set (o+n) (Sp.orI .u32 ((Sp.orW ws o b n).getD (o+n) 0) b)=Sp.orW ws o b (n+1):=by
 refine Cn0 0 (by rw[List.length_set,Db0,Db0]) (fun j hj=> ?_)
 rw[List.length_set,Db0]at hj
 rw[Dj0 _ _ _ _ _ (by rw[Db0];exact h),Hj0 _ _ _ _ _ hj,Hj0 _ _ _ _ _ hj,Hj0 _ _ _ _ _ h]
 split
 ·subst j
  rw[if_neg (by omega),if_pos (by omega)]
 ·by_cases hh:o<=j/\j<o+n
  ·rw[if_pos hh,if_pos (by omega)]
  ·rw[if_neg hh,if_neg (by omega)]
theorem Fv2{f:FlT}{p:PwT}{s:Nat}(h:Sp.fv f=true)(h0:0<=p.1)(h1:p.1<=1099511627776)(h2:s<f.2.1.length):F_75 f s p=some (Sp.ers f s p):=by
 have hv:=Dr0.1 h
 unfold F_75 Sp.ers Sp.ew
 rw[(Ci1 h h0 h1 (by omega) (by omega)).1,(Ci1 h h0 h1 (by omega) (by omega)).2,Ai0,Ar0 rfl,Ap0 (by omega) (by omega),Int.toNat_natCast]
 by_cases e:f.2.1.getD s 0=f.2.2.1
 ·rw[Aw0 e,if_pos e]
 rw[Ax0 e,if_neg e,Be0 (by omega) (by omega),Be0 (by omega) (by omega)]
 have hb:=hv.2.2.2.2.2 s h2
 by_cases e0:p.1=0
 ·rw[Aw0 e0,if_pos e0]
 rw[Ax0 e0,if_neg e0,wi64 (n:=(s:Int)+1) (by omega) (by omega),wi64 (n:=(s:Int)*64) (by omega) (by omega),wi64 (n:=((s:Int)+1)*64) (by omega) (by omega),Ih0 (by omega) (by omega) (by omega),
  show(((s:Int)+1)*64).toNat-((s:Int)*64).toNat=64 by omega,show((s:Int)*64).toNat=s*64 by omega]
 have hr:∀(b:Int)(p5:FlT)(p6:Int)(p7:PwT)(p8:Int×PUnit)(p9:PwT)(p10:FlT)(p11:PwT)(p12:Int×PUnit)(p13:PwT)(p15:List Int)(p16 p17:Int×PUnit),L_75_97_0_0 4611686018427387904 b (s*64) 64 ((64:Nat):Int) 0 p5 p6 p7 p8 p9 p10 p11 p12 p13 f.1 p15 p16 p17=some (.e0 p5 p6 p7 p8 p9 p10 p11 p12 p13 (Sp.orW f.1 (s*64) b 64) p15 p16 p17):=by
  intro b p5 p6 p7 p8 p9 p10 p11 p12 p13 p15 p16 p17
  have:=run0 (fun m i ws=>L_75_97_0_0 m b (s*64) 64 ((64:Nat):Int) i p5 p6 p7 p8 p9 p10 p11 p12 p13 ws p15 p16 p17) (n:=64) (fun j=>Sp.orW f.1 (s*64) b j) (r:=some (.e0 p5 p6 p7 p8 p9 p10 p11 p12 p13 (Sp.orW f.1 (s*64) b 64) p15 p16 p17)) (by omega) (fun m j hj=>by
   show L_75_97_0_0 (m+1) b (s*64) 64 ((64:Nat):Int) (j:Int) p5 p6 p7 p8 p9 p10 p11 p12 p13 (Sp.orW f.1 (s*64) b j) p15 p16 p17=_
   rw[L_75_97_0_0,S_75_97_0_0,Af0 (by omega)]
   simp only[Ap0 (show(0:Int)<=(j:Int) by omega) (show(j:Int)<((64:Nat):Int) by omega),Int.toNat_natCast,Bool.and_true,Db0,Eq0 (show s*64+j<f.1.length by omega)]
   rw[Mj1 _ _ _ _ (by omega),wi64 (by omega) (by omega)]
   push_cast
   rfl) (fun m=>by
   show L_75_97_0_0 (m+1) b (s*64) 64 ((64:Nat):Int) ((64:Nat):Int) p5 p6 p7 p8 p9 p10 p11 p12 p13 (Sp.orW f.1 (s*64) b 64) p15 p16 p17=_
   rw[L_75_97_0_0,S_75_97_0_0,Ad0 (by omega)])
  rw[Mi1]at this
  exact this
 simp only[hr,B_75_97_0_0]
 simp only[Ap0 (show(0:Int)<=(s:Int) by omega) (show(s:Int)<((f.2.1.length:Nat):Int) by omega),Int.toNat_natCast,Bool.and_true,Eq0 h2]
 rw[wi64 (n:=f.2.1.getD s 0+1) (by omega) (by omega)]
 by_cases e1:p.1=1
 ·rw[Aw0 e1,if_pos e1]
 rw[Ax0 e1,if_neg e1,wi64 (by omega) (by omega),Ih0 (by omega) (by omega) (by omega)]
theorem Fu2{f:FlT}{p:PwT}{s:Nat}(h:Sp.fv f=true)(h0:0<=p.1)(h1:p.1<=1099511627776)(h2:s<f.2.1.length):p_75 f s p=true/\v_75 f s p=Sp.ers f s p:=Kj2 f s p (Fv2 h h0 h1 h2)
abbrev StT:=Bool×Int×Int×Unit
abbrev OuM:=MeT×PwT×Int×Unit
namespace Sp
noncomputable def pok(p:PwT):Bool:=decide (0<=p.1)&&decide (p.1<=1099511627776)
noncomputable def dop(s:RsT)(x:StT):RsT:=if x.1=true then ers s.1 x.2.1.toNat s.2.1 else prg s.1 x.2.1.toNat x.2.2.1 s.2.1
noncomputable def dol:List StT->RsT->RsT
 |[],s=>s
 |x::l,s=>if s.2.2.1=0 then dol l (dop s x)else s
noncomputable def dov(m:MeT)(l:List StT)(p:PwT):OuM:=if(dol l (m.1,p,0,())).2.2.1=0\/(dol l (m.1,p,0,())).2.2.1=18 then(((dol l (m.1,p,0,())).1,m.2),(dol l (m.1,p,0,())).2.1,(dol l (m.1,p,0,())).2.2.1,())else(zM,(0,0,()),(dol l (m.1,p,0,())).2.2.1,())
noncomputable def erl:Nat->Int->List StT
 |0,_=>[]
 |n+1,a=>(true,a,0,())::erl n (a+1)
noncomputable def wor(f:FlT):Nat->Nat->Bool
 |0,_=>false
 |n+1,a=>decide (f.2.1.getD a 0>=f.2.2.1)||wor f n (a+1)
noncomputable def pgl:List Int->Int->List StT
 |[],_=>[]
 |x::l,a=>(false,a,x,())::pgl l (a+1)
noncomputable def fmv(f:FlT)(a n:Int)(p:PwT):OuM:=if fv f=true/\pok p=true then(if plc (f,a,n,())=true then(if wor f n.toNat a.toNat=true then(zM,(0,0,()),19,())else dov (f,a,n,()) (erl n.toNat a++pgl [prw 1] (64*a)) p)else(zM,(0,0,()),2,()))else(zM,(0,0,()),1,())
end Sp
theorem Fp0(l:List StT){s:RsT}(h:s.2.2.1≠0):Sp.dol l s=s:=by
 cases l with
 |nil=>rfl
 |cons x l=>rw[Sp.dol,if_neg h]
theorem Qm1(b:BitVec 32):0<=wrap .u32 ((b.toNat:Nat):Int)/\wrap .u32 ((b.toNat:Nat):Int)<4294967296:=by
 have:=b.isLt
 rw[Cb0 b.isLt];omega
theorem Np1{f:FlT}(h:W32f f)(o:Nat)(b:Int)(n:Nat)(r:List Int×Int×Unit):W32f (Sp.orW f.1 o b n,r):=by
 intro x hx
 obtain⟨i,hi,e⟩:=List.mem_iff_getElem.1 hx
 have hl:i<f.1.length:=by rw[show(Sp.orW f.1 o b n,r).1=Sp.orW f.1 o b n from rfl,Db0]at hi;exact hi
 have g:=Hj0 f.1 o b n i hl
 rw[getD_at 0 (by rw[Db0];exact hl)]at g
 have e:(Sp.orW f.1 o b n)[i]'(by rw[Db0];exact hl)=x:=e
 rw[e]at g
 rw[g]
 split
 ·exact Qm1 _
 ·exact h.at i
theorem Mk2{f:FlT}{s:Nat}(b:Int)(h:Sp.fv f=true)(h1:f.2.1.getD s 0≠f.2.2.1)(h2:s<f.2.1.length):Sp.fv (Sp.ew f s b)=true:=by
 have hv:=Dr0.1 h
 unfold Sp.ew
 refine Dr0.2 ⟨?_,?_,?_,hv.2.2.2.1,hv.2.2.2.2.1,fun j hj=> ?_⟩
 ·simp only[List.length_set];omega
 ·simp only[List.length_set];omega
 ·simp only[List.length_set,Db0];omega
 ·simp only[List.length_set]at hj
  have a:=hv.2.2.2.2.2 j hj
  have c:=hv.2.2.2.2.2 s h2
  dsimp only
  rw[Dj0 _ _ _ _ _ h2]
  split
  ·omega
  ·exact a
structure SG(f0:FlT)(s:RsT):Prop where
 v:Sp.fv s.1=true
 l:s.1.1.length=f0.1.length
 n:s.1.2.1.length=f0.2.1.length
 w:W32f s.1
 p0:0<=s.2.1.1
 p1:s.2.1.1<=1099511627776
 e:s.2.2.1=0\/s.2.2.1=18
noncomputable def SV(f0:FlT)(x:StT):Prop:=0<=x.2.1/\(x.1=true->x.2.1<f0.2.1.length)/\(x.1=false->x.2.1<f0.1.length)
theorem Fn2(f:FlT)(k:Nat)(w b:Int):Sp.fv (Sp.pw f k w b)=Sp.fv f:=by
 unfold Sp.pw Sp.fv
 dsimp only
 rw[List.length_set]
 rfl
theorem Az1{f0:FlT}{s:RsT}(h:SG f0 s)(k:Nat)(x:Int):SG f0 (Sp.prg s.1 k x s.2.1):=by
 have hw:∀b,W32f (Sp.pw s.1 k x b):=fun b y hy=>by
  rcases List.mem_or_eq_of_mem_set hy with h1|rfl
  ·exact h.w y h1
  ·exact Qm1 _
 have hl:∀b,(Sp.pw s.1 k x b).1.length=f0.1.length:=fun b=>by unfold Sp.pw;dsimp only;rw[List.length_set];exact h.l
 have p0:=h.p0
 have p1:=h.p1
 unfold Sp.prg
 split
 ·exact⟨h.v,h.l,h.n,h.w,h.p0,h.p1,.inr rfl⟩
 split
 ·exact⟨by rw[Fn2];exact h.v,hl _,h.n,hw _,Int.le_refl _,by show(0:Int)<=_;decide,.inr rfl⟩
 ·refine⟨by rw[Fn2];exact h.v,hl _,h.n,hw _,?_,?_,.inl rfl⟩
  ·show 0<=s.2.1.1-1;omega
  ·show s.2.1.1-1<=_;omega
theorem Qg1{f0:FlT}{s:RsT}(h:SG f0 s){k:Nat}(hk:k<f0.2.1.length):SG f0 (Sp.ers s.1 k s.2.1)\/(Sp.ers s.1 k s.2.1).2.2.1=19:=by
 have p0:=h.p0
 have p1:=h.p1
 have hkl:k<s.1.2.1.length:=by rw[h.n];exact hk
 by_cases hn:s.1.2.1.getD k 0=s.1.2.2.1
 ·right
  unfold Sp.ers
  rw[if_pos hn]
 left
 have he:∀b,Sp.fv (Sp.ew s.1 k b)=true:=fun b=>Mk2 b h.v hn hkl
 have hl1:∀b,(Sp.ew s.1 k b).1.length=f0.1.length:=fun b=>by unfold Sp.ew;dsimp only;rw[Db0];exact h.l
 have hw1:∀b,W32f (Sp.ew s.1 k b):=fun b=>Np1 h.w _ _ _ _
 have hn1:∀b,(Sp.ew s.1 k b).2.1.length=f0.2.1.length:=fun b=>by unfold Sp.ew;dsimp only;rw[List.length_set];exact h.n
 unfold Sp.ers
 rw[if_neg hn]
 split
 ·exact⟨h.v,h.l,h.n,h.w,p0,p1,.inr rfl⟩
 split
 ·exact⟨he _,hl1 _,hn1 _,hw1 _,Int.le_refl _,(by show(0:Int)<=_;decide),.inr rfl⟩
 ·exact⟨he _,hl1 _,hn1 _,hw1 _,(by show 0<=s.2.1.1-1;omega),(by show s.2.1.1-1<=_;omega),.inl rfl⟩
theorem Gf2{f0:FlT}{s:RsT}(h:SG f0 s){x:StT}(hx:SV f0 x):SG f0 (Sp.dop s x)\/(Sp.dop s x).2.2.1=19:=by
 unfold Sp.dop
 cases hb:x.1
 ·rw[if_neg Bool.false_ne_true]
  exact .inl (Az1 h _ _)
 ·rw[if_pos rfl]
  have:=hx.2.1 hb
  have:=hx.1
  exact Qg1 h (by omega)
theorem Gd2{l:List StT}{j:Nat}(d:StT)(h:j<l.length):l.drop j=l.getD j d::l.drop (j+1):=by
 rw[List.drop_eq_getElem_cons h,List.getD_eq_getElem?_getD,List.getElem?_eq_getElem h];rfl
theorem dv_l{f0:FlT}(l:List StT)(hv:∀x∈l,SV f0 x)(hl:l.length<=1000000)(hf:f0.1.length<=100000)(hf2:f0.2.1.length<=1000)(r:Int×Int×Unit)(p5:Int×Unit)(p6:PwT)(p7 p8:List Int)(p9:PwT):∀(d m j:Nat)(s:RsT),SG f0 s->s.2.2.1=0->j+d=l.length->d<m->
 L_49_0 m l l.length j (s.1,r) s.2.1 p5 p6 p7 p8 p9=some (if(Sp.dol (l.drop j) s).2.2.1=0 then .e2 ((Sp.dol (l.drop j) s).1,r) (Sp.dol (l.drop j) s).2.1 p5 p6 p7 p8 p9 else if(Sp.dol (l.drop j) s).2.2.1=18 then .e0 18 ((Sp.dol (l.drop j) s).1,r) (Sp.dol (l.drop j) s).2.1 else .e1 (Sp.dol (l.drop j) s).2.2.1):=by
 intro d
 induction d with
 |zero=>
  intro m j s h e hj hm
  obtain⟨m,rfl⟩:∃k,m=k+1:=⟨m-1,by omega⟩
  rw[L_49_0,S_49_0,Ad0 (by omega),List.drop_of_length_le (by omega),Sp.dol,if_pos e]
 |succ d ih=>
  intro m j s h e hj hm
  obtain⟨m,rfl⟩:∃k,m=k+1:=⟨m-1,by omega⟩
  have hjl:j<l.length:=by omega
  have hx:=hv _ (List.getElem_mem hjl)
  rw[<-getD_at Zd3 hjl]at hx
  have fl:=h.l
  have fn:=h.n
  rw[L_49_0,S_49_0,Af0 (by omega),Ap0 (by omega) (by omega),Int.toNat_natCast,Gd2 Zd3 hjl,Sp.dol,if_pos e]
  generalize getD l j Zd3=x at *
  have hg:=Gf2 h hx
  have x0:=hx.1
  have fin:∀t:RsT,t=Sp.dop s x->B_49_1 (J_49_1 t.2.2.1 l l.length j (t.1,r) t.2.1 p5 p6 p7 p8 p9) (fun y30 y31 y32=>some (.e0 y30 y31 y32)) (fun y33=>some (.e1 y33)) (fun y34 y35 y36 y37 y38 y39 y40 y41 y42 y43 y44=>L_49_0 m y35 y36 (wrap .i64 (y37+1)) y38 y39 y40 y41 y42 y43 y44)=some (if(Sp.dol (l.drop (j+1)) (Sp.dop s x)).2.2.1=0 then .e2 ((Sp.dol (l.drop (j+1)) (Sp.dop s x)).1,r) (Sp.dol (l.drop (j+1)) (Sp.dop s x)).2.1 p5 p6 p7 p8 p9 else if(Sp.dol (l.drop (j+1)) (Sp.dop s x)).2.2.1=18 then .e0 18 ((Sp.dol (l.drop (j+1)) (Sp.dop s x)).1,r) (Sp.dol (l.drop (j+1)) (Sp.dop s x)).2.1 else .e1 (Sp.dol (l.drop (j+1)) (Sp.dop s x)).2.2.1):=by
   rintro t rfl
   unfold J_49_1 S_49_1
   by_cases e18:(Sp.dop s x).2.2.1=18
   ·rw[Aw0 e18,Fp0 _ (by rw[e18];decide),if_neg (by rw[e18];decide),if_pos e18,e18]
    rfl
   rw[Ax0 e18]
   by_cases e0:(Sp.dop s x).2.2.1=0
   ·rw[Ar0 e0]
    unfold B_49_1
    dsimp only
    rw[wi64 (by omega) (by omega),show(j:Int)+1=((j+1:Nat):Int) by push_cast;rfl]
    rcases hg with g|g
    ·exact ih m (j+1) _ g e0 (by omega) (by omega)
    ·rw[e0]at g;cases g
   ·rw[Bh0 e0,Fp0 _ e0,if_neg e0,if_neg e18]
    rfl
  cases hb:x.1 with
  |true=>
   have:=hx.2.1 hb
   have pv:=Fu2 (f:=s.1) (p:=s.2.1) (s:=x.2.1.toNat) h.v h.p0 h.p1 (by omega)
   rw[show((x.2.1.toNat:Nat):Int)=x.2.1 by omega]at pv
   rw[Cf0,pv.1,pv.2,Ai0]
   exact fin _ (by unfold Sp.dop;rw[if_pos hb])
  |false=>
   have:=hx.2.2 hb
   have pv:=Ep2 (f:=s.1) (p:=s.2.1) (k:=x.2.1.toNat) (w:=x.2.2.1) h.v h.p0 h.p1 (by omega)
   rw[show((x.2.1.toNat:Nat):Int)=x.2.1 by omega]at pv
   rw[At0,pv.1,pv.2,Ai0]
   exact fin _ (by unfold Sp.dop;rw[if_neg (by rw[hb];exact Bool.false_ne_true)])
theorem SG.init{f:FlT}{p:PwT}(h:Sp.fv f=true)(hw:W32f f)(h0:0<=p.1)(h1:p.1<=1099511627776):SG f (f,p,0,()):=⟨h,rfl,rfl,hw,h0,h1,.inl rfl⟩
theorem Xc1{m:MeT}{l:List StT}{p:PwT}(hv:Sp.fv m.1=true)(hw:W32f m.1)(h0:0<=p.1)(h1:p.1<=1099511627776)(hs:∀x∈l,SV m.1 x)(hl:l.length<=1000000):p_49 m l p=true/\v_49 m l p=Sp.dov m l p:=by
 have c:=Ql1 hv
 have v:=Dr0.1 hv
 refine La2 m l p ?_
 unfold F_49 Sp.dov
 rw[c.1,c.2,Ai0]
 have t:=dv_l (f0:=m.1) l hs hl (by omega) (by omega) m.2 (0,()) (0,0,()) [] [] (0,0,()) l.length 4611686018427387904 0 _ (SG.init hv hw h0 h1) rfl (by omega) (by omega)
 rw[List.drop_zero]at t
 refine(congrArg (fun z=>B_49_0 z _ _ _) t).trans ?_
 by_cases e0:(Sp.dol l (m.1,p,0,())).2.2.1=0
 ·rw[if_pos e0,if_pos (.inl e0),e0]
  rfl
 rw[if_neg e0]
 by_cases e1:(Sp.dol l (m.1,p,0,())).2.2.1=18
 ·rw[if_pos e1,if_pos (.inr e1),e1]
  rfl
 ·rw[if_neg e1,if_neg (fun a=>a.elim e0 e1)]
  rfl
theorem Iw0:∀(n:Nat)(a:Int),(Sp.erl n a).length=n
 |0,_=>rfl
 |n+1,a=>by rw[Sp.erl,List.length_cons,Iw0 n]
theorem Cc1:∀(n:Nat)(a:Int),Sp.erl (n+1) a=Sp.erl n a++[(true,a+n,0,())]
 |0,a=>by simp[Sp.erl]
 |n+1,a=>by
  rw[Sp.erl,Cc1 n (a+1),Sp.erl,List.cons_append]
  congr 3
  congr 2
  omega
theorem Jk1{f0:FlT}:∀(n:Nat)(a:Int),0<=a->a+n<=f0.2.1.length->∀x∈Sp.erl n a,SV f0 x
 |0,a,_,_=>by simp[Sp.erl]
 |n+1,a,h0,h1=>by
  intro x hx
  rw[Sp.erl]at hx
  rcases List.mem_cons.1 hx with rfl|hx
  ·exact⟨h0,(fun _=>by show a<_;omega),(fun h=>by cases h)⟩
  ·exact Jk1 n (a+1) (by omega) (by omega) x hx
theorem Ba1{f0:FlT}:∀(l:List Int)(a:Int),0<=a->a+l.length<=f0.1.length->∀x∈Sp.pgl l a,SV f0 x
 |[],a,_,_=>by simp[Sp.pgl]
 |w::l,a,h0,h1=>by
  intro x hx
  rw[List.length_cons]at h1
  rw[Sp.pgl]at hx
  rcases List.mem_cons.1 hx with rfl|hx
  ·exact⟨h0,(fun h=>by cases h),(fun _=>by show a<_;omega)⟩
  ·exact Ba1 l (a+1) (by omega) (by omega) x hx
theorem Gi0:∀(l:List Int)(a:Int),(Sp.pgl l a).length=l.length
 |[],_=>rfl
 |x::l,a=>by rw[Sp.pgl,List.length_cons,List.length_cons,Gi0 l]
theorem Bb1:∀(l:List Int)(x a:Int),Sp.pgl (l++[x]) a=Sp.pgl l a++[(false,a+l.length,x,())]
 |[],x,a=>by simp[Sp.pgl]
 |y::l,x,a=>by
  rw[List.cons_append,Sp.pgl,Bb1 l x (a+1),Sp.pgl,List.cons_append]
  congr 3
  congr 2
  rw[List.length_cons];omega
theorem Mn2{m:MeT}(hw:m.1.2.1.length<=1000)(b:Nat)(hb:b<=m.1.2.1.length):∀(d q i:Nat)(a:Nat)(acc:Nat),a+acc=i->i+d=b->d<q->L_48_0 q b i m (Sp.erl acc a)=some (if Sp.wor m.1 d i=true then .e0 else .e1 (Sp.erl (acc+d) a)):=by
 intro d
 induction d with
 |zero=>
  intro q i a acc h1 h2 h3
  obtain⟨q,rfl⟩:∃k,q=k+1:=⟨q-1,by omega⟩
  rw[L_48_0,S_48_0,Ad0 (by omega),Sp.wor,if_neg Bool.false_ne_true]
  rfl
 |succ d ih=>
  intro q i a acc h1 h2 h3
  obtain⟨q,rfl⟩:∃k,q=k+1:=⟨q-1,by omega⟩
  rw[L_48_0,S_48_0,Af0 (by omega),Ap0 (by omega) (by omega),Int.toNat_natCast,Sp.wor]
  by_cases c:m.1.2.1.getD i 0>=m.1.2.2.1
  ·rw[Af0 c,decide_eq_true c,Bool.true_or,if_pos rfl]
  ·rw[Ad0 c,decide_eq_false c,Bool.false_or,Iw0,Be0 (by omega) (by omega),wi64 (by omega) (by omega),show(i:Int)+1=((i+1:Nat):Int) by push_cast;rfl]
   have:=ih q (i+1) a (acc+1) (by omega) (by omega) (by omega)
   rw[Cc1,show(a:Int)+(acc:Int)=(i:Int) by omega]at this
   rw[this,show acc+1+d=acc+(d+1) by omega]
theorem Qh1{m:MeT}(hw:m.1.2.1.length<=1000)(a n:Nat)(hb:a+n<=m.1.2.1.length):p_48 m (a:Int) ((a+n:Nat):Int)=true/\v_48 m (a:Int) ((a+n:Nat):Int)=(if Sp.wor m.1 n a=true then([],false,())else(Sp.erl n a,true,())):=by
 refine Lb2 _ _ _ ?_
 unfold F_48
 have t:=Mn2 hw (a+n) hb n 4611686018427387904 a a 0 (by omega) rfl (by omega)
 refine(congrArg (fun z=>B_48_0 z _ _) t).trans ?_
 cases Sp.wor m.1 n a
 ·rw[if_neg Bool.false_ne_true,if_neg Bool.false_ne_true,Nat.zero_add];rfl
 ·rfl
theorem Hd1{l:List Int}(hl:l.length<=100000){a:Int}(h0:0<=a)(h1:a<=1000000):p_50 a l=true/\v_50 a l=(Sp.pgl l a,()):=by
 refine Kz2 a l ?_
 unfold F_50
 have t:=run0 (fun m i acc=>L_50_0 m a l l.length i acc) (n:=l.length) (fun j=>Sp.pgl (l.take j) a) (r:=some (.e0 (Sp.pgl l a))) (by omega) (fun m j hj=>by
  have hlen:(Sp.pgl (l.take j) a).length=j:=by rw[Gi0,List.length_take];omega
  show L_50_0 (m+1) a l l.length (j:Int) (Sp.pgl (l.take j) a)=L_50_0 m a l l.length ((j+1:Nat):Int) (Sp.pgl (l.take (j+1)) a)
  rw[L_50_0,S_50_0,Af0 (by omega),Ap0 (by omega) (by omega),Int.toNat_natCast,hlen,Be0 (by omega) (by omega),wi64 (n:=(j:Int)+1) (by omega) (by omega),wi64 (n:=a+(j:Int)) (by omega) (by omega),List.take_succ_eq_append_getElem hj,Bb1,List.length_take,Nat.min_eq_left (by omega),getD_at 0 hj]
  rfl) (fun m=>by
  show L_50_0 (m+1) a l l.length (l.length:Int) (Sp.pgl (l.take l.length) a)=_
  rw[L_50_0,S_50_0,Ad0 (by omega),List.take_length])
 exact(congrArg (fun z=>B_50_0 z _) t).trans rfl
theorem Ox1(p:PwT):p_47 p=true/\v_47 p=(Sp.pok p,()):=by
 refine Lc2 p ?_
 unfold F_47 Sp.pok
 by_cases h:p.1>=0
 ·rw[Af0 h,decide_eq_true (p:=0<=p.1) h,Bool.true_and]
 ·rw[Ad0 h,decide_eq_false (p:=0<=p.1) h,Bool.false_and]
theorem Mm2{f:FlT}{a n:Int}(hv:Sp.fv f=true)(hp:Sp.plc (f,a,n,())=true):∀x∈Sp.erl n.toNat a++Sp.pgl [Sp.prw 1] (64*a),SV f x:=by
 obtain⟨p1,p2,p3,p4,p5⟩:=Eb0.1 hp
 dsimp only at p1 p2 p3 p4 p5
 have v:=Dr0.1 hv
 intro x hx
 rcases List.mem_append.1 hx with hx|hx
 ·exact Jk1 _ a p4 (by omega) x hx
 ·exact Ba1 _ _ (by omega) (by rw[List.length_singleton];omega) x hx
set_option maxRecDepth 100000
set_option maxHeartbeats 4000000
namespace Sp
noncomputable def rbt(p:PwT):Int×PwT×Int×Unit:=if p.1=0 then(0,p,18,())else if p.1=1 then(p.2.1,(0,p.2),18,())else(4294967295,(p.1-1,p.2),0,())
end Sp
set_option maxRecDepth 100000
set_option maxHeartbeats 4000000
theorem Gz0{m:MeT}(hv:Sp.fv m.1=true)(hp:Sp.plc m=true){k:Nat}(hk:k<2){i:Nat}(hi:i<Sp.hsz m):m.1.1.getD (Sp.hbs m k+i) 0=(Sp.hwr m k).getD i 0:=by
 unfold Sp.hwr
 rw[List.getD_eq_getElem?_getD,List.getD_eq_getElem?_getD,List.getElem?_take,if_pos hi,List.getElem?_drop]
namespace Sp
noncomputable def rac(m:MeT):Int:=if acb m=true then(acv m:Int)else-1
end Sp
set_option maxRecDepth 100000
set_option maxHeartbeats 4000000
namespace Sp
noncomputable def rdo(m:MeT)(l:List StT)(p:PwT):OuM:=(((dol l (m.1,p,0,())).1,m.2),(dol l (m.1,p,0,())).2.1,(dol l (m.1,p,0,())).2.2.1,())
end Sp
set_option maxRecDepth 100000
set_option maxHeartbeats 4000000
theorem bvk(b:BitVec 32):BitVec.ofInt 32 (wrap .u32 ((b.toNat:Nat):Int))=b:=by
 rw[Cb0 b.isLt]
 apply BitVec.eq_of_toNat_eq
 rw[Dc0 b.isLt]
theorem Bp1(x:Int):Sp.orI .u32 x 4294967295=4294967295:=by
 show wrap .u32 (((BitVec.ofInt 32 x|||BitVec.ofInt 32 4294967295).toNat:Nat):Int)=4294967295
 rw[show BitVec.ofInt 32 4294967295=BitVec.allOnes 32 from by decide,BitVec.or_allOnes]
 rfl
theorem Sr0{w:Int}(h0:0<=w)(h1:w<4294967296):Sp.andnI .u32 4294967295 (Sp.andnI .u32 4294967295 w)=w:=by
 show wrap .u32 (((BitVec.ofInt 32 4294967295&&& ~~~ BitVec.ofInt 32 (wrap .u32 (((BitVec.ofInt 32 4294967295&&& ~~~ BitVec.ofInt 32 w).toNat:Nat):Int))).toNat:Nat):Int)=w
 obtain⟨k,rfl⟩:=Int.eq_ofNat_of_zero_le h0
 rw[bvk,show BitVec.ofInt 32 4294967295=BitVec.allOnes 32 from by decide,BitVec.allOnes_and,BitVec.allOnes_and,BitVec.not_not,Dc0 (by omega),Cb0 (by omega)]
theorem Gq0:∀(x y:List StT)(s:RsT),Sp.dol (x++y) s=Sp.dol y (Sp.dol x s)
 |[],y,s=>rfl
 |a::x,y,s=>by
  rw[List.cons_append,Sp.dol,Sp.dol]
  by_cases e:s.2.2.1=0
  ·rw[if_pos e,if_pos e,Gq0 x y]
  ·rw[if_neg e,if_neg e,Fp0 y e]
theorem Os0(x:StT)(s:RsT):Sp.dol [x] s=if s.2.2.1=0 then Sp.dop s x else s:=rfl
structure EB(f0:FlT)(a k:Nat)(s:RsT):Prop where
 g:SG f0 s
 r:s.1.2.2=f0.2.2
 q:∀i,a+k<=i->s.1.2.1.getD i 0=f0.2.1.getD i 0
 b:s.2.2.1=0->∀i,64*a<=i->i<64*(a+k)->s.1.1.getD i 0=4294967295
 o:∀i,i<64*a\/64*(a+k)<=i->s.1.1.getD i 0=f0.1.getD i 0
theorem EB.init{f:FlT}{p:PwT}(h:Sp.fv f=true)(hw:W32f f)(h0:0<=p.1)(h1:p.1<=1099511627776)(a:Nat):EB f a 0 (f,p,0,()) :=
 ⟨SG.init h hw h0 h1,rfl,fun _ _=>rfl,fun _ i _ _=>by omega,fun _ _=>rfl⟩
theorem EB.up{f0:FlT}{a k j:Nat}{s:RsT}(h:EB f0 a k s)(hj:k<=j)(e:s.2.2.1≠0):EB f0 a j s:=
 ⟨h.g,h.r,fun i hi=>h.q i (by omega),fun e0=>absurd e0 e,fun i hi=>h.o i (by omega)⟩
theorem EB.step{f0:FlT}{a k:Nat}{s:RsT}(h:EB f0 a k s)(hk:a+k<f0.2.1.length)(hw:f0.2.1.getD (a+k) 0≠f0.2.2.1)(e:s.2.2.1=0):EB f0 a (k+1) (Sp.ers s.1 (a+k) s.2.1):=by
 have hl:s.1.2.2.1=f0.2.2.1:=by rw[h.r]
 have hn:s.1.2.1.getD (a+k) 0≠s.1.2.2.1:=by rw[h.q (a+k) (Nat.le_refl _),hl];exact hw
 have hkl:a+k<s.1.2.1.length:=by rw[h.g.n];exact hk
 have v:=Dr0.1 h.g.v
 have sg:SG f0 (Sp.ers s.1 (a+k) s.2.1):=(Qg1 h.g hk).resolve_right (fun z=>by
  unfold Sp.ers at z
  rw[if_neg hn]at z
  split at z
  ·exact absurd (show(18:Int)=19 from z) (by decide)
  split at z
  ·exact absurd (show(18:Int)=19 from z) (by decide)
  ·exact absurd (show(0:Int)=19 from z) (by decide))
 have hr1:∀b,(Sp.ew s.1 (a+k) b).2.2=f0.2.2:=fun b=>by rw[<-h.r];rfl
 have hq1:∀b i,a+(k+1)<=i->(Sp.ew s.1 (a+k) b).2.1.getD i 0=f0.2.1.getD i 0:=fun b i hi=>by
  unfold Sp.ew;dsimp only
  rw[<-h.q i (by omega),Dj0 _ _ _ _ _ hkl,if_neg (by omega)]
 have hg:∀b i,(Sp.ew s.1 (a+k) b).1.getD i 0=if 64*(a+k)<=i/\i<64*(a+k+1)then Sp.orI .u32 (s.1.1.getD i 0) b else s.1.1.getD i 0:=fun b i=>by
  unfold Sp.ew;dsimp only
  by_cases hi:i<s.1.1.length
  ·rw[Hj0 _ _ _ _ _ hi]
   by_cases c:64*(a+k)<=i/\i<64*(a+k+1)
   ·rw[if_pos c,if_pos (by omega)]
   ·rw[if_neg c,if_neg (by omega)]
  ·rw[if_neg (by omega),List.getD_eq_getElem?_getD,List.getD_eq_getElem?_getD,List.getElem?_eq_none (by rw[Db0];omega),List.getElem?_eq_none (by omega)]
 have ho1:∀b i,i<64*a\/64*(a+(k+1))<=i->(Sp.ew s.1 (a+k) b).1.getD i 0=f0.1.getD i 0:=fun b i hi=>by
  rw[hg,if_neg (by omega),h.o i (by omega)]
 revert sg
 unfold Sp.ers
 rw[if_neg hn]
 split
 ·exact fun sg=>⟨sg,h.r,fun i hi=>h.q i (by omega),fun z=>absurd z (show(18:Int)≠0 by decide),fun i hi=>h.o i (by omega)⟩
 split
 ·exact fun sg=>⟨sg,hr1 _,hq1 _,fun z=>absurd z (show(18:Int)≠0 by decide),ho1 _⟩
 ·refine fun sg=>⟨sg,hr1 _,hq1 _,fun _ i h1 h2=> ?_,ho1 _⟩
  show(Sp.ew s.1 (a+k) 4294967295).1.getD i 0=_
  rw[hg]
  split
  ·exact Bp1 _
  ·exact h.b e i h1 (by omega)
theorem Fj1{f:FlT}:∀(n a:Nat),Sp.wor f n a=false->∀i,a<=i->i<a+n->f.2.1.getD i 0≠f.2.2.1
 |0,a,_,i,h1,h2=>by omega
 |n+1,a,h,i,h1,h2=>by
  rw[Sp.wor,Bool.or_eq_false_iff]at h
  by_cases e:i=a
  ·subst e
   have:=of_decide_eq_false h.1
   omega
  ·exact Fj1 n (a+1) h.2 i (by omega) (by omega)
theorem Mt1{f0:FlT}{a:Nat}:∀(n k:Nat){s:RsT},EB f0 a k s->a+k+n<=f0.2.1.length->Sp.wor f0 n (a+k)=false->EB f0 a (k+n) (Sp.dol (Sp.erl n ((a+k:Nat):Int)) s)
 |0,k,s,h,_,_=>h
 |n+1,k,s,h,hl,hw=>by
  rw[Sp.erl,Sp.dol]
  split
  ·rename_i e
   have w0:=Fj1 _ _ hw (a+k) (by omega) (by omega)
   have:=Mt1 n (k+1) (h.step (by omega) w0 e) (by omega) (by
    rw[Sp.wor,Bool.or_eq_false_iff]at hw
    exact hw.2)
   unfold Sp.dop
   dsimp only
   rw[if_pos rfl,Int.toNat_natCast,show k+(n+1)=k+1+n by omega,show((a+k:Nat):Int)+1=((a+(k+1):Nat):Int) by push_cast;omega]
   exact this
  ·rename_i e
   exact h.up (by omega) e
theorem Er2{f:FlT}{k:Nat}{w:Int}{p:PwT}(h0:0<=w)(h1:w<4294967296)(hk:k<f.1.length)(hb:f.1.getD k 0=4294967295)(e:(Sp.prg f k w p).2.2.1=0):(Sp.prg f k w p).1=(f.1.set k w,f.2.1,f.2.2.1,()):=by
 revert e
 unfold Sp.prg
 split
 ·exact fun e=>absurd e (show(18:Int)≠0 by decide)
 split
 ·exact fun e=>absurd e (show(18:Int)≠0 by decide)
 ·intro _
  show Sp.pw f k w 4294967295=_
  unfold Sp.pw
  rw[hb,Sr0 h0 h1]
noncomputable def Asc(es:List EnT):Prop:=∀i j,i<j->j<es.length->(es.getD i Sp.dE).1<(es.getD j Sp.dE).1
theorem Jz1{es:List EnT}(h:Asc es)(key:Int):∀(f lo hi:Nat),hi-lo<=f->lo<=hi->hi<=es.length->(∀i,i<lo->(es.getD i Sp.dE).1<key)->(∀i,hi<=i->i<es.length->key<=(es.getD i Sp.dE).1) ->
 (∀i,i<Sp.bsl es key f lo hi->(es.getD i Sp.dE).1<key)/\(∀i,Sp.bsl es key f lo hi<=i->i<es.length->key<=(es.getD i Sp.dE).1)
 |0,lo,hi,h0,h1,h2,ha,hb=>by
  have:lo=hi:=by omega
  subst this
  exact⟨ha,hb⟩
 |f+1,lo,hi,h0,h1,h2,ha,hb=>by
  rw[Sp.bsl]
  split
  ·split
   ·rename_i c
    refine Jz1 h key f _ hi (by omega) (by omega) h2 (fun i hi2=> ?_) hb
    by_cases e:i=(lo+hi)/2
    ·rw[e];exact c
    ·have:=h i ((lo+hi)/2) (by omega) (by omega)
     omega
   ·rename_i c
    refine Jz1 h key f lo _ (by omega) (by omega) (by omega) ha (fun i h3 h4=> ?_)
    by_cases e:i=(lo+hi)/2
    ·rw[e];omega
    ·have:=h ((lo+hi)/2) i (by omega) h4
     omega
  ·have:lo=hi:=by omega
   subst this
   exact⟨ha,hb⟩
theorem Hc1{es:List EnT}(h:Asc es)(key:Int):(∀i,i<Sp.plE es key->(es.getD i Sp.dE).1<key)/\(∀i,Sp.plE es key<=i->i<es.length->key<=(es.getD i Sp.dE).1) :=
 Jz1 h key es.length 0 es.length (by omega) (Nat.zero_le _) (Nat.le_refl _) (fun i hi=>by omega) (fun i h1 h2=>by omega)
noncomputable def skE(es:List EnT)(key:Int):Nat:=if Sp.plE es key<es.length/\(es.getD (Sp.plE es key) Sp.dE).1=key then 1 else 0
theorem Nj0(es:List EnT)(key:Int)(data:List Int):Sp.putE es key data=es.take (Sp.plE es key)++([(key,data,())]++es.drop (Sp.plE es key+skE es key)):=by
 unfold Sp.putE skE
 split
 ·rename_i c
  rw[List.set_eq_take_append_cons_drop,if_pos c.1]
  rfl
 ·rw[Nat.add_zero]
theorem Ay1(es:List EnT)(key:Int)(data:List Int)(i:Nat):((Sp.putE es key data).getD i Sp.dE).1=if i<Sp.plE es key then(es.getD i Sp.dE).1 else if i=Sp.plE es key then key else(es.getD (i-1+skE es key) Sp.dE).1:=by
 have hp:=Rc0 es key
 have tl:(es.take (Sp.plE es key)).length=Sp.plE es key:=by rw[List.length_take];omega
 rw[Nj0,List.getD_eq_getElem?_getD,List.getD_eq_getElem?_getD,List.getD_eq_getElem?_getD,List.getElem?_append,tl]
 split
 ·rename_i c
  rw[List.getElem?_take,if_pos c]
 ·rename_i c
  rw[List.singleton_append]
  obtain⟨d,rfl⟩:∃d,i=Sp.plE es key+d:=⟨i-Sp.plE es key,by omega⟩
  rw[Nat.add_sub_cancel_left]
  cases d with
  |zero=>rw[List.getElem?_cons_zero,if_pos (show Sp.plE es key+0=Sp.plE es key from rfl)];rfl
  |succ d=>rw[List.getElem?_cons_succ,List.getElem?_drop,if_neg (by omega),show Sp.plE es key+(d+1)-1+skE es key=Sp.plE es key+skE es key+d by omega]
theorem Vv1(es:List EnT)(key:Int)(data:List Int):(Sp.putE es key data).length=es.length+1-skE es key:=by
 have hp:=Rc0 es key
 have:Sp.plE es key+skE es key<=es.length:=by unfold skE;split<;>omega
 rw[Nj0,List.length_append,List.length_append,List.length_take,List.length_drop,List.length_singleton];omega
theorem Asc.put{es:List EnT}(h:Asc es)(key:Int)(data:List Int):Asc (Sp.putE es key data):=by
 have hp:=Rc0 es key
 have ha:=Hc1 h key
 intro i j hij hj
 rw[Vv1]at hj
 rw[Ay1,Ay1]
 have hs:Sp.plE es key+skE es key<=es.length:=by unfold skE;split<;>omega
 have hgt:∀k,Sp.plE es key+skE es key<=k->k<es.length->key<(es.getD k Sp.dE).1:=fun k h1 h2=>by
  have h3:=ha.2 k (by omega) h2
  unfold skE at h1
  split at h1
  ·rename_i c
   have:=h (Sp.plE es key) k (by omega) h2
   omega
  ·rename_i c
   by_cases e:(es.getD k Sp.dE).1=key
   ·exfalso
    by_cases e2:k=Sp.plE es key
    ·exact c ⟨by omega,e2▸e⟩
    ·have:=h (Sp.plE es key) k (by omega) h2
     have:=ha.2 (Sp.plE es key) (by omega) (by omega)
     omega
   ·omega
 by_cases c1:i<Sp.plE es key
 ·rw[if_pos c1]
  have k1:=ha.1 i c1
  by_cases c2:j<Sp.plE es key
  ·rw[if_pos c2];exact h i j hij (by omega)
  rw[if_neg c2]
  by_cases c3:j=Sp.plE es key
  ·rw[if_pos c3];exact k1
  ·rw[if_neg c3]
   have:=hgt (j-1+skE es key) (by omega) (by omega)
   omega
 rw[if_neg c1,if_neg (show ¬j<Sp.plE es key by omega),if_neg (show ¬j=Sp.plE es key by omega)]
 by_cases c3:i=Sp.plE es key
 ·rw[if_pos c3]
  exact hgt _ (by omega) (by omega)
 ·rw[if_neg c3]
  exact h _ _ (by omega) (by omega)
namespace Sp
noncomputable def rcd(key:Int)(d:List Int):List Int:=[prw (256*key+d.length)]++d++[prw (smw ([prw (256*key+d.length)]++d))]
noncomputable def rcs(es:List EnT):List Int:=es.flatMap fun e=>rcd e.1 e.2.1
noncomputable def oh(m:MeT):Nat:=1-acv m
noncomputable def hc(m:MeT):Nat:=m.2.2.1.toNat/2
noncomputable def frs(m:MeT):Nat:=m.2.1.toNat+oh m*hc m
noncomputable def cst(m:MeT)(es:List EnT):List StT:=erl (hc m) (frs m)++pgl (rcs es) ((hbs m (oh m):Int)+1)++[(false,(hbs m (oh m):Int),prw (gnr m (acv m)+1),())]
noncomputable def cov(m:MeT)(es:List EnT):List StT×Int×Unit:=if hsz m<1+(rcs es).length then([],5,())else if wor m.1 (hc m) (frs m)=true then([],19,())else if gnr m (acv m)=65535 then([],19,())else(cst m es,0,())
noncomputable def clv(m:MeT)(p:PwT):OuM:=if mvl m=true/\pok p=true then(if(cov m (ent m)).2.1=0 then dov m (cov m (ent m)).1 p else(zM,(0,0,()),(cov m (ent m)).2.1,()))else(zM,(0,0,()),1,())
end Sp
theorem oh_b{m:MeT}(hv:Sp.fv m.1=true)(hp:Sp.plc m=true):Sp.oh m<2/\1<=Sp.hc m/\Sp.hc m<=8/\Sp.frs m+Sp.hc m<=m.1.2.1.length/\Sp.hbs m (Sp.oh m)=64*Sp.frs m/\Sp.hsz m=64*Sp.hc m:=by
 obtain⟨p1,p2,p3,p4,p5⟩:=Eb0.1 hp
 have v:=Dr0.1 hv
 have ha:=Bt0 m
 have h2:m.2.2.1.toNat=2*(m.2.2.1.toNat/2):=by omega
 unfold Sp.frs Sp.hbs Sp.hsz Sp.oh Sp.hc
 match h:Sp.acv m,ha with
 |0,_=>simp only[Nat.sub_zero,Nat.one_mul];omega
 |1,_=>simp only[Nat.sub_self,Nat.zero_mul];omega
theorem oh_e{m:MeT}(hv:Sp.fv m.1=true)(hp:Sp.plc m=true):wrap .i64 (1-(Sp.acv m:Int))=(Sp.oh m:Int)/\wrap .i64 (1-(Sp.oh m:Int))=(Sp.acv m:Int) /\
 wrap .i64 (m.2.1+wrap .i64 (Int.tdiv (wrap .i64 ((Sp.oh m:Int)*m.2.2.1)) 2))=(Sp.frs m:Int)/\wrap .i64 (Int.tdiv m.2.2.1 2)=(Sp.hc m:Int)/\wrap .i64 ((Sp.frs m:Int)+(Sp.hc m:Int))=((Sp.frs m+Sp.hc m:Nat):Int):=by
 obtain⟨p1,p2,p3,p4,p5⟩:=Eb0.1 hp
 have v:=Dr0.1 hv
 have ob:=oh_b hv hp
 have ha:=Bt0 m
 have eh:wrap .i64 (Int.tdiv m.2.2.1 2)=(Sp.hc m:Int):=by
  rw[Int.tdiv_eq_ediv_of_nonneg (by omega),wi64 (by omega) (by omega)];unfold Sp.hc;omega
 refine⟨?_,?_,?_,eh,?_⟩
 ·unfold Sp.oh;rw[wi64 (by omega) (by omega)];omega
 ·unfold Sp.oh;rw[wi64 (by omega) (by omega)];omega
 ·have e:Int.tdiv (wrap .i64 ((Sp.oh m:Int)*m.2.2.1)) 2=((Sp.oh m*Sp.hc m:Nat):Int):=by
   match h:Sp.oh m,ob.1 with
   |0,_=>simp;decide
   |1,_=>
    rw[wi64 (by omega) (by omega),Int.tdiv_eq_ediv_of_nonneg (by omega)]
    unfold Sp.hc;omega
  have:Sp.frs m=m.2.1.toNat+Sp.oh m*Sp.hc m:=rfl
  rw[e,wi64 (n:=((Sp.oh m*Sp.hc m:Nat):Int)) (by omega) (by omega),wi64 (by omega) (by omega)]
  omega
 ·rw[wi64 (by omega) (by omega)];omega
theorem Fu0(key:Int)(d:List Int):(Sp.rcd key d).length=d.length+2:=by
 unfold Sp.rcd
 rw[List.length_append,List.length_append,List.length_singleton,List.length_singleton];omega
theorem Md1{key:Int}{d:List Int}(h0:0<=key)(h1:key<=254)(hd:d.length<=24)(hw:W32l d):W32l ([Sp.prw (256*key+d.length)]++d):=fun x hx=>by
 rcases List.mem_append.1 hx with hx|hx
 ·rw[List.mem_singleton.1 hx]
  have:=In0 (n:=256*key+d.length) (by omega) (by omega)
  exact⟨this.1,this.2.1⟩
 ·exact hw x hx
theorem Ow1{key:Int}{d:List Int}(h0:0<=key)(h1:key<=254)(hd:d.length<=24)(hw:W32l d):p_59 key d=true/\v_59 key d=(Sp.rcd key d,()):=by
 have e1:wrap .i64 (wrap .i64 (256*key)+(d.length:Int))=256*key+d.length:=by
  rw[wi64 (n:=256*key) (by omega) (by omega),wi64 (by omega) (by omega)]
 have pr:=Kk0 (n:=256*key+d.length) (by omega) (by omega)
 have w:=Md1 h0 h1 hd hw
 have ll:([Sp.prw (256*key+d.length)]++d).length=d.length+1:=by rw[List.length_append,List.length_singleton];omega
 have s:=Fo1 w (by omega)
 have sb:=Xw0 ([Sp.prw (256*key+d.length)]++d) 0 (by decide) (by decide)
 have pr2:=Kk0 (n:=Sp.smw ([Sp.prw (256*key+d.length)]++d)) sb.1 sb.2
 refine Ks2 key d ?_
 unfold F_59
 rw[e1,pr.1,pr.2,Ai0]
 dsimp only
 rw[Be0 (by omega) (by omega),s.1,s.2,Ai0]
 dsimp only
 rw[pr2.1,pr2.2,Ai0,ll,Be0 (by omega) (by omega)]
 rfl
theorem He1:∀(x y:List Int)(a:Int),Sp.pgl (x++y) a=Sp.pgl x a++Sp.pgl y (a+x.length)
 |[],y,a=>by simp[Sp.pgl]
 |w::x,y,a=>by
  rw[List.cons_append,Sp.pgl,He1 x y,Sp.pgl,List.cons_append,List.length_cons]
  congr 3
  omega
theorem Jy2{es:List EnT}{j:Nat}(h:j<es.length):Sp.rcs (es.take (j+1))=Sp.rcs (es.take j)++Sp.rcd (es.getD j Zd2).1 (es.getD j Zd2).2.1:=by
 unfold Sp.rcs
 rw[List.take_succ_eq_append_getElem h,List.flatMap_append,getD_at _ h]
 congr 1
 rw[List.flatMap_cons,List.flatMap_nil,List.append_nil]
theorem Sp0:∀ {es:List EnT},KOK es->(Sp.rcs es).length<=26*es.length
 |[],_=>Nat.zero_le _
 |e::es,h=>by
  have:=Sp0 (es:=es) (fun x hx=>h x (List.mem_cons_of_mem _ hx))
  have h1:=(h e (List.mem_cons_self ..)).2.1
  unfold Sp.rcs at this⊢
  rw[List.flatMap_cons,List.length_append,Fu0,List.length_cons]
  omega
theorem KOK.take{es:List EnT}(h:KOK es)(j:Nat):KOK (es.take j):=fun e he=>h e (List.mem_of_mem_take he)
theorem KOK.get{es:List EnT}(h:KOK es){j:Nat}(hj:j<es.length):(0<=(es.getD j Zd2).1/\(es.getD j Zd2).1<=254)/\(es.getD j Zd2).2.1.length<=24/\W32l (es.getD j Zd2).2.1:=by
 rw[getD_at _ hj]
 exact h _ (List.getElem_mem hj)
theorem Gj2{m:MeT}(hw:W32f m.1)(hv:Sp.fv m.1=true)(hp:Sp.plc m=true){es:List EnT}(hk:KOK es)(hl:es.length<=600):p_60 m es=true/\v_60 m es=Sp.cov m es:=by
 have ac:=Wc0 hw hv hp
 have ob:=oh_b hv hp
 have oe:=oh_e hv hp
 have b:=pl_b hv hp
 have v:=Dr0.1 hv
 have bo:=pl_k hv hp ob.1
 have gb:=Dy1 hw (Sp.acv m)
 have rl:=Sp0 hk
 refine Kr2 m es ?_
 unfold F_60 Sp.cov Sp.cst
 rw[ac.1,ac.2,Ai0]
 dsimp only
 rw[oe.1]
 have t:=run0 (fun q i acc=>L_60_0 q (Sp.acv m) (Sp.oh m) es es.length i m acc) (n:=es.length) (fun j=>Sp.rcs (es.take j)) (r:=some (.e0 (Sp.acv m) (Sp.oh m) m (Sp.rcs es))) (by omega) (fun q j hj=>by
  show L_60_0 (q+1) (Sp.acv m) (Sp.oh m) es es.length (j:Int) m (Sp.rcs (es.take j))=L_60_0 q (Sp.acv m) (Sp.oh m) es es.length ((j+1:Nat):Int) m (Sp.rcs (es.take (j+1)))
  have g:=hk.get hj
  have r:=Ow1 g.1.1 g.1.2 g.2.1 g.2.2
  have l1:=Sp0 (hk.take j)
  have tl:(es.take j).length=j:=by rw[List.length_take];omega
  rw[L_60_0,S_60_0,Af0 (by omega),Ap0 (by omega) (by omega),Int.toNat_natCast,r.1,r.2,Ai0]
  dsimp only
  rw[Fu0,Be0 (by omega) (by omega),wi64 (by omega) (by omega),Jy2 hj]
  push_cast
  rfl) (fun q=>by
  show L_60_0 (q+1) (Sp.acv m) (Sp.oh m) es es.length (es.length:Int) m (Sp.rcs (es.take es.length))=_
  rw[L_60_0,S_60_0,Ad0 (by omega),List.take_length])
 refine(congrArg (fun z=>B_60_0 z _) t).trans ?_
 unfold B_60_0
 dsimp only
 have sz:=Pf1 hv hp
 have gn:=Ih1 hw hv hp (Bt0 m)
 have er:=Qh1 (m:=m) (by omega) (Sp.frs m) (Sp.hc m) ob.2.2.2.1
 rw[sz.1,sz.2,Ai0]
 dsimp only
 rw[wi64 (n:=1+((Sp.rcs es).length:Int)) (by omega) (by omega),oe.2.2.1,oe.2.2.2.1,oe.2.2.2.2]
 by_cases c:Sp.hsz m<1+(Sp.rcs es).length
 ·rw[Af0 (by omega),if_pos c]
 rw[Ad0 (by omega),if_neg c,er.1,er.2,Ai0,gn.1,gn.2,Ai0]
 dsimp only
 cases hwo:Sp.wor m.1 (Sp.hc m) (Sp.frs m)
 rotate_left
 ·rfl
 rw[if_neg Bool.false_ne_true,if_neg Bool.false_ne_true]
 dsimp only
 rw[Bool.not_true,At0,wi64 (n:=Sp.gnr m (Sp.acv m)+1) (by omega) (by omega)]
 by_cases c2:Sp.gnr m (Sp.acv m)=65535
 ·rw[Af0 (by omega),if_pos c2]
 have ad1:=Ru0 hv hp ob.1 (i:=1) (by decide) (by decide)
 have ad0:=Ru0 hv hp ob.1 (i:=0) (by decide) (by decide)
 rw[Int.add_zero]at ad0
 have pg:=Hd1 (l:=Sp.rcs es) (by omega) (a:=(Sp.hbs m (Sp.oh m):Int)+1) (by omega) (by omega)
 have pr:=Kk0 (n:=Sp.gnr m (Sp.acv m)+1) (by omega) (by omega)
 rw[Ad0 (by omega),if_neg c2,ad1.1,ad1.2,Ai0]
 dsimp only
 rw[pg.1,pg.2,Ai0]
 dsimp only
 rw[Iw0,Gi0,Be0 (by omega) (by omega),ad0.1,ad0.2,Ai0,pr.1,pr.2,Ai0]
 dsimp only
 rw[List.length_append,Iw0,Gi0,Be0 (by omega) (by omega)]
theorem Gi2{m:MeT}(hv:Sp.fv m.1=true)(hp:Sp.plc m=true){es:List EnT}(h:1+(Sp.rcs es).length<=Sp.hsz m):(∀x∈Sp.cst m es,SV m.1 x)/\(Sp.cst m es).length<=1000000:=by
 have ob:=oh_b hv hp
 have b:=pl_b hv hp
 have v:=Dr0.1 hv
 have bo:=pl_k hv hp ob.1
 unfold Sp.cst
 refine⟨fun x hx=> ?_,?_⟩
 ·rcases List.mem_append.1 hx with hx|hx
  ·rcases List.mem_append.1 hx with hx|hx
   ·exact Jk1 (Sp.hc m) (Sp.frs m:Int) (by omega) (by omega) x hx
   ·exact Ba1 (Sp.rcs es) ((Sp.hbs m (Sp.oh m):Int)+1) (by omega) (by omega) x hx
  ·rw[List.mem_singleton.1 hx]
   exact⟨(by show(0:Int)<=(Sp.hbs m (Sp.oh m):Int);omega),(fun h=>by cases h),(fun _=>by show(Sp.hbs m (Sp.oh m):Int)<_;omega)⟩
 ·rw[List.length_append,List.length_append,Iw0,Gi0,List.length_singleton];omega
set_option maxRecDepth 100000
set_option maxHeartbeats 4000000
theorem Cg1{f0:FlT}:∀(l:List StT){s:RsT},(∀x∈l,x.1=false)->SG f0 s->SG f0 (Sp.dol l s)
 |[],_,_,h=>h
 |x::l,s,hx,h=>by
  rw[Sp.dol]
  split
  ·refine Cg1 l (fun y hy=>hx y (List.mem_cons_of_mem _ hy)) ?_
   unfold Sp.dop
   rw[if_neg (by rw[hx x (List.mem_cons_self ..)];exact Bool.false_ne_true)]
   exact Az1 h _ _
  ·exact h
theorem Mg1:∀(l:List Int)(a:Int),∀x∈Sp.pgl l a,x.1=false
 |[],_,x,hx=>by cases hx
 |w::l,a,x,hx=>by
  rw[Sp.pgl]at hx
  rcases List.mem_cons.1 hx with rfl|hx
  ·rfl
  ·exact Mg1 l (a+1) x hx
theorem Qk1{m:MeT}(hw:W32f m.1)(hv:Sp.fv m.1=true)(hp:Sp.plc m=true){p:PwT}(h0:0<=p.1)(h1:p.1<=1099511627776)(es:List EnT)(hwo:Sp.wor m.1 (Sp.hc m) (Sp.frs m)=false):SG m.1 (Sp.dol (Sp.cst m es) (m.1,p,0,())):=by
 have ob:=oh_b hv hp
 have E:=Mt1 (f0:=m.1) (a:=Sp.frs m) (Sp.hc m) 0 (EB.init hv hw h0 h1 (Sp.frs m)) (by omega) (by rw[Nat.add_zero];exact hwo)
 rw[Nat.add_zero,Nat.zero_add]at E
 unfold Sp.cst
 rw[List.append_assoc,Gq0]
 refine Cg1 _ (fun x hx=> ?_) E.g
 rcases List.mem_append.1 hx with hx|hx
 ·exact Mg1 _ _ x hx
 ·rw[List.mem_singleton.1 hx]
theorem Vr1(l:List Int):∀(f i:Nat)(es:List EnT),Asc es->Asc (Sp.rdl l f i es).2:=by
 intro f
 induction f with
 |zero=>intro i es h;rw[Sp.rdl];exact h
 |succ f ih=>
  intro i es h
  rw[Sp.rdl]
  split
  ·refine ih _ _ ?_
   split
   ·exact h.put _ _
   ·exact h
  ·exact h
theorem Sn0{m:MeT}(hw:W32f m.1)(hv:Sp.fv m.1=true)(hp:Sp.plc m=true){k:Nat}(hk:k<2):True/\Asc (Sp.rdv (Sp.hwr m k)).1:=
 ⟨trivial,Vr1 _ _ _ _ (fun i j _ h=>absurd h (Nat.not_lt_zero _))⟩
namespace Sp
noncomputable def frl(m:MeT):Int:=(rdv (hwr m (acv m))).2.2.1
noncomputable def wrs(m:MeT)(key:Int)(d:List Int):List StT×Int×Unit:=if((rcd key d).length:Int)<=frl m then(pgl (rcd key d) ((hbs m (acv m):Int)+(rdv (hwr m (acv m))).2.1),0,())else cov m (putE (ent m) key d)
noncomputable def wrv(m:MeT)(key:Int)(d:List Int)(p:PwT):OuM:=if mvl m=true/\pok p=true then(if 0<=key/\key<=254/\d.length<=24 then(if(wrs m key d).2.1=0 then dov m (wrs m key d).1 p else(zM,(0,0,()),(wrs m key d).2.1,()))else(zM,(0,0,()),2,()))else(zM,(0,0,()),1,())
end Sp
theorem Wy1{m:MeT}(hw:W32f m.1)(h:Sp.mvl m=true):(Sp.ent m).length<=512:=by
 obtain⟨hv,hp,_⟩:=Gk0 h
 have l:=Dw0 hv hp (Bt0 m)
 have b:=pl_b hv hp
 have r:=Vo1 (hw.half (Sp.acv m)) (by omega) (by omega)
 have:=r.2.1
 unfold Sp.ent
 omega
theorem Zi0{m:MeT}(hw:W32f m.1)(h:Sp.mvl m=true):1<=(Sp.rdv (Sp.hwr m (Sp.acv m))).2.1/\(Sp.rdv (Sp.hwr m (Sp.acv m))).2.1<=(Sp.hsz m:Int)/\(Sp.frl m=(Sp.hsz m:Int)-(Sp.rdv (Sp.hwr m (Sp.acv m))).2.1/\Sp.blk (Sp.hwr m (Sp.acv m)) (Sp.rdl (Sp.hwr m (Sp.acv m)) (Sp.hwr m (Sp.acv m)).length 1 []).1=true\/Sp.frl m=0/\Sp.blk (Sp.hwr m (Sp.acv m)) (Sp.rdl (Sp.hwr m (Sp.acv m)) (Sp.hwr m (Sp.acv m)).length 1 []).1=false):=by
 obtain⟨hv,hp,_⟩:=Gk0 h
 have l:=Dw0 hv hp (Bt0 m)
 have b:=pl_b hv hp
 have r:=Vo1 (hw.half (Sp.acv m)) (by omega) (by omega)
 refine⟨r.2.2.1,by have:=r.2.2.2;omega,?_⟩
 unfold Sp.frl Sp.rdv
 dsimp only
 cases hb:Sp.blk (Sp.hwr m (Sp.acv m)) (Sp.rdl (Sp.hwr m (Sp.acv m)) (Sp.hwr m (Sp.acv m)).length 1 []).1
 ·rw[if_neg Bool.false_ne_true]
  exact .inr ⟨rfl,rfl⟩
 ·rw[if_pos rfl,l]
  exact .inl ⟨rfl,rfl⟩
theorem Jq1{m:MeT}(hv:Sp.fv m.1=true)(hp:Sp.plc m=true){es:List EnT}(c:(Sp.cov m es).2.1=0):(Sp.cov m es).1=Sp.cst m es/\Sp.wor m.1 (Sp.hc m) (Sp.frs m)=false/\(∀x∈(Sp.cov m es).1,SV m.1 x)/\(Sp.cov m es).1.length<=1000000:=by
 revert c
 unfold Sp.cov
 split
 ·intro c;cases c
 split
 ·intro c;cases c
 split
 ·intro c;cases c
 ·rename_i h1 h2 h3
  intro _
  have:=Gi2 hv hp (es:=es) (by omega)
  exact⟨rfl,Bool.eq_false_iff.2 h2,this.1,this.2⟩
theorem Uo0{m:MeT}(hw:W32f m.1)(hm:Sp.mvl m=true){key:Int}{d:List Int}(c:(Sp.wrs m key d).2.1=0):((∀x∈(Sp.wrs m key d).1,SV m.1 x)/\(Sp.wrs m key d).1.length<=1000000)/\∀p:PwT,0<=p.1->p.1<=1099511627776->SG m.1 (Sp.dol (Sp.wrs m key d).1 (m.1,p,0,())):=by
 obtain⟨hv,hp,_⟩:=Gk0 hm
 have b:=pl_b hv hp
 have bk:=pl_k hv hp (Bt0 m)
 have fb:=Zi0 hw hm
 revert c
 unfold Sp.wrs
 split
 ·rename_i h
  intro _
  have hl:((Sp.rcd key d).length:Int)<=(Sp.hsz m:Int)-(Sp.rdv (Sp.hwr m (Sp.acv m))).2.1:=by
   rcases fb.2.2 with q|q
   ·omega
   ·have:=Fu0 key d
    omega
  refine⟨⟨Ba1 _ _ (by omega) (by omega),by rw[Gi0];omega⟩,fun p h0 h1=> ?_⟩
  exact Cg1 _ (Mg1 _ _) (SG.init hv hw h0 h1)
 ·intro c
  have s:=Jq1 hv hp c
  refine⟨s.2.2,fun p h0 h1=> ?_⟩
  rw[s.1]
  exact Qk1 hw hv hp h0 h1 _ s.2.1
theorem Un0{m:MeT}(hw:W32f m.1){key:Int}{d:List Int}(hd:W32l d)(p:PwT):p_25 m key d p=true/\v_25 m key d p=Sp.wrv m key d p:=by
 have v:=Br1 hw
 have pw:=Ox1 p
 refine Ls2 m key d p ?_
 unfold F_25 Sp.wrv
 rw[v.1,v.2,Ai0]
 dsimp only
 by_cases hm:Sp.mvl m=true
 rotate_left
 ·rw[Bool.eq_false_iff.2 hm,if_neg (fun z=>Bool.noConfusion z.1)];rfl
 rw[hm,Bool.not_true,At0,pw.1,pw.2,Ai0]
 dsimp only
 cases hp:Sp.pok p
 ·rw[if_neg (fun z=>Bool.noConfusion z.2)];rfl
 have hpb:0<=p.1/\p.1<=1099511627776:=by unfold Sp.pok at hp;simpa using hp
 rw[Bool.not_true,At0,if_pos ⟨rfl,rfl⟩]
 by_cases k0:key<0
 ·rw[Af0 k0,if_neg (fun z=>by omega)];rfl
 by_cases k1:key>254
 ·rw[Ad0 k0,Af0 k1,if_neg (fun z=>by omega)];rfl
 by_cases k2:(d.length:Int)>24
 ·rw[Ad0 k0,Ad0 k1,Af0 k2,if_neg (fun z=>by omega)];rfl
 obtain⟨hv,hpl,_⟩:=Gk0 hm
 have b:=pl_b hv hpl
 have bk:=pl_k hv hpl (Bt0 m)
 have fb:=Zi0 hw hm
 have a:=Wc0 hw hv hpl
 have r:=Gs1 hw hv hpl (Bt0 m)
 have rc:=Ow1 (key:=key) (d:=d) (by omega) (by omega) (by omega) hd
 have rl:=Fu0 key d
 have eb:=Ew1 hw hm
 have el:=Wy1 hw hm
 have sv:=Uo0 (key:=key) (d:=d) hw hm
 rw[Ad0 k0,Ad0 k1,Ad0 k2,if_pos ⟨by omega,by omega,by omega⟩,a.1,a.2,Ai0]
 dsimp only
 rw[r.1,r.2,Ai0,rc.1,rc.2,Ai0]
 dsimp only
 rw[show(Sp.rdv (Sp.hwr m (Sp.acv m))).2.2.1=Sp.frl m from rfl,show(Sp.rdv (Sp.hwr m (Sp.acv m))).1=Sp.ent m from rfl]
 revert sv
 unfold Sp.wrs
 by_cases c:((Sp.rcd key d).length:Int)<=Sp.frl m
 ·intro sv
  rw[if_pos c]at sv⊢
  have sv:=sv rfl
  have ad:=Ru0 hv hpl (Bt0 m) (i:=(Sp.rdv (Sp.hwr m (Sp.acv m))).2.1) (by omega) (by omega)
  have pg:=Hd1 (l:=Sp.rcd key d) (by omega) (a:=(Sp.hbs m (Sp.acv m):Int)+(Sp.rdv (Sp.hwr m (Sp.acv m))).2.1) (by omega) (by omega)
  have dd:=Xc1 hv hw hpb.1 hpb.2 sv.1.1 sv.1.2
  rw[Af0 c,ad.1,ad.2,Ai0]
  dsimp only
  rw[pg.1,pg.2,Ai0]
  dsimp only at dd⊢
  rw[dd.1,dd.2,Ai0,if_pos rfl]
 ·intro sv
  rw[if_neg c]at sv⊢
  have pt:=Gz1 eb.1 (key:=key) (by omega) (by omega) (by omega) (data:=d) (by omega)
  have kp:=eb.1.put (key:=key) (by omega) (by omega) (data:=d) (by omega) hd
  have pl:=Mn0 (Sp.ent m) key d
  have cv:=Gj2 hw hv hpl kp (by omega)
  rw[Ad0 c,pt.1,pt.2,Ai0]
  dsimp only
  rw[cv.1,cv.2,Ai0]
  by_cases e:(Sp.cov m (Sp.putE (Sp.ent m) key d)).2.1=0
  ·have sv:=sv e
   have dd:=Xc1 hv hw hpb.1 hpb.2 sv.1.1 sv.1.2
   rw[Ar0 e,if_pos e,dd.1,dd.2,Ai0]
  ·rw[Bh0 e,if_neg e]
   rfl
set_option maxRecDepth 100000
set_option maxHeartbeats 4000000
namespace Sp
noncomputable def rom(m:MeT):Int:=(rdv (hwr m (acv m))).2.2.1
noncomputable def romv(m:MeT):Int×Int×Unit:=if mvl m=true then(rom m,0,())else(0,1,())
end Sp
set_option maxRecDepth 100000
set_option maxHeartbeats 4000000
theorem Mf1{f0:FlT}:∀(ws:List Int)(a:Nat){t:RsT},SG f0 t->t.2.2.1=0->W32l ws->a+ws.length<=f0.1.length->(∀i,a<=i->i<a+ws.length->t.1.1.getD i 0=4294967295)->(Sp.dol (Sp.pgl ws a) t).2.2.1=0->
 SG f0 (Sp.dol (Sp.pgl ws a) t)/\(∀i,a<=i->i<a+ws.length->(Sp.dol (Sp.pgl ws a) t).1.1.getD i 0=ws.getD (i-a) 0)/\(∀i,i<a\/a+ws.length<=i->(Sp.dol (Sp.pgl ws a) t).1.1.getD i 0=t.1.1.getD i 0)
 |[],a,t,g,e,hw,hl,hb,h0=>⟨g,fun i h1 h2=>by rw[List.length_nil]at h2;omega,fun _ _=>rfl⟩
 |w::ws,a,t,g,e,hw,hl,hb,h0=>by
  rw[List.length_cons]at hl hb
  have hw0:=hw w (List.mem_cons_self ..)
  rw[Sp.pgl,Sp.dol,if_pos e]at h0⊢
  have es:Sp.dop t (false,(a:Int),w,())=Sp.prg t.1 a w t.2.1:=by
   unfold Sp.dop
   dsimp only
   rw[if_neg Bool.false_ne_true,Int.toNat_natCast]
  rw[es,show(a:Int)+1=((a+1:Nat):Int) by push_cast;rfl]at h0⊢
  have g2:=Az1 g a w
  have e2:(Sp.prg t.1 a w t.2.1).2.2.1=0:=by
   rcases g2.e with z|z
   ·exact z
   ·exfalso
    rw[Fp0 _ (by rw[z];decide),z]at h0
    exact absurd h0 (by decide)
  have hf:=Er2 hw0.1 hw0.2 (by rw[g.l];omega) (hb a (Nat.le_refl _) (by omega)) e2
  have gt:∀i,(Sp.prg t.1 a w t.2.1).1.1.getD i 0=if a=i then w else t.1.1.getD i 0:=fun i=>by
   rw[hf];exact Dj0 _ _ _ _ _ (by rw[g.l];omega)
  obtain⟨r1,r2,r3⟩:=Mf1 ws (a+1) g2 e2 (fun x hx=>hw x (List.mem_cons_of_mem _ hx)) (by omega) (fun i h1 h2=>by rw[gt,if_neg (by omega)];exact hb i (by omega) (by omega)) h0
  refine⟨r1,fun i h1 h2=> ?_,fun i hi=> ?_⟩
  ·rw[List.length_cons]at h2
   by_cases c:i=a
   ·rw[r3 i (by omega),gt,if_pos c.symm,c,Nat.sub_self];rfl
   ·rw[r2 i (by omega) (by omega)]
    obtain⟨d,rfl⟩:∃d,i=a+(d+1):=⟨i-a-1,by omega⟩
    rw[show a+(d+1)-(a+1)=d by omega,show a+(d+1)-a=d+1 by omega]
    rfl
  ·rw[List.length_cons]at hi
   rw[r3 i (by omega),gt,if_neg (by omega)]
theorem Hr1{key:Int}{d:List Int}(h0:0<=key)(h1:key<=254)(hd:d.length<=24):Sp.nmb (Sp.prw (256*key+d.length))=(key*256+(d.length:Int),true):=by
 rw[(In0 (n:=256*key+d.length) (by omega) (by omega)).2.2,Int.mul_comm]
theorem Hw0(a b:List Int)(i:Nat):(a++b).getD (a.length+i) 0=b.getD i 0:=by
 rw[List.getD_eq_getElem?_getD,List.getD_eq_getElem?_getD,List.getElem?_append_right (by omega),show a.length+i-a.length=i by omega]
theorem Vu1{acc:List EnT}{key:Int}(h:Asc acc)(hk:∀i,i<acc.length->(acc.getD i Sp.dE).1<key)(d:List Int):Sp.putE acc key d=acc++[(key,d,())]:=by
 have pe:Sp.plE acc key=acc.length:=by
  have:=Rc0 acc key
  by_cases c:Sp.plE acc key<acc.length
  ·have a1:=(Hc1 h key).2 _ (Nat.le_refl _) c
   have a2:=hk _ c
   omega
  ·omega
 have sk:skE acc key=0:=by unfold skE;rw[if_neg (fun z=>by have:=z.1;omega)]
 rw[Nj0,sk,pe,List.take_length,Nat.add_zero,List.drop_length,List.append_nil]
theorem Gt1(k:Nat):∀(post acc:List EnT)(hd:List Int)(f:Nat),Asc (acc++post)->KOK post->
 ∀l,l=hd++(Sp.rcs post++replicate k 4294967295)->post.length<f->Sp.rdl l f hd.length acc=(hd.length+(Sp.rcs post).length,acc++post)
 |[],acc,hd,f,ha,hk,l,hl,hf=>by
  obtain⟨f,rfl⟩:∃j,f=j+1:=⟨f-1,by simp at hf;omega⟩
  have hl:l=hd++replicate k 4294967295:=hl
  have:¬(hd.length<l.length/\(Sp.nmb (l.getD hd.length 0)).2=true):=fun z=>by
   rw[hl,List.length_append,List.length_replicate]at z
   have e:=Hw0 hd (replicate k 4294967295) 0
   rw[Nat.add_zero]at e
   rw[e,List.getD_eq_getElem?_getD,List.getElem?_replicate,if_pos (by omega)]at z
   exact absurd z.2 (by decide)
  rw[Sp.rdl,if_neg (fun z=>this ⟨z.1,z.2.1⟩),List.append_nil]
  rfl
 |e::post,acc,hd,f,ha,hk,l,hl,hf=>by
  obtain⟨f,rfl⟩:∃j,f=j+1:=⟨f-1,by simp at hf;omega⟩
  obtain⟨key,d,⟨⟩⟩:=e
  have hk1:=hk _ (List.mem_cons_self ..)
  dsimp only at hk1
  obtain⟨⟨k0,k1⟩,kd,kw⟩:=hk1
  have rl:=Fu0 key d
  have e0:Sp.rcs ((key,d,())::post)=Sp.rcd key d++Sp.rcs post:=by unfold Sp.rcs;rw[List.flatMap_cons]
  have hl2:l=hd++(Sp.rcd key d++(Sp.rcs post++replicate k 4294967295)):=by rw[hl,e0,List.append_assoc]
  have g:∀i,i<d.length+2->l.getD (hd.length+i) 0=(Sp.rcd key d).getD i 0:=fun i hi=>by
   rw[hl2,Hw0,List.getD_eq_getElem?_getD,List.getD_eq_getElem?_getD,List.getElem?_append_left (by omega)]
  have ll:l.length=hd.length+(d.length+2+((Sp.rcs post).length+k)):=by
   rw[hl2,List.length_append,List.length_append,List.length_append,List.length_replicate,rl]
  have w0:l.getD hd.length 0=Sp.prw (256*key+d.length):=by
   have:=g 0 (by omega)
   rw[Nat.add_zero]at this
   rw[this];rfl
  have hD:HD l hd.length d.length key true:=⟨by rw[w0];exact Hr1 k0 k1 kd,by omega,k0,by omega⟩
  have dr:drop hd.length l=Sp.rcd key d++(Sp.rcs post++replicate k 4294967295):=by rw[hl2,List.drop_left]
  have tk:take (d.length+1) (drop hd.length l)=[Sp.prw (256*key+d.length)]++d:=by
   rw[dr]
   unfold Sp.rcd
   rw[List.append_assoc ([_]++d)]
   exact List.take_left' (by rw[List.length_append,List.length_singleton];omega)
  have td:take d.length (drop (hd.length+1) l)=d:=by
   rw[<-List.drop_drop,dr]
   unfold Sp.rcd
   rw[List.append_assoc,List.append_assoc,List.singleton_append,List.drop_one,List.tail_cons]
   exact List.take_left' rfl
  have w1:l.getD (hd.length+d.length+1) 0=Sp.prw (Sp.smw ([Sp.prw (256*key+d.length)]++d)):=by
   rw[Nat.add_assoc,g (d.length+1) (by omega)]
   unfold Sp.rcd
   have e:=Hw0 ([Sp.prw (256*key+d.length)]++d) [Sp.prw (Sp.smw ([Sp.prw (256*key+d.length)]++d))] 0
   rw[List.length_append,List.length_singleton,Nat.add_zero,Nat.add_comm 1]at e
   rw[e];rfl
  have sb:=Xw0 ([Sp.prw (256*key+d.length)]++d) 0 (by decide) (by decide)
  have n1:Sp.nmb (Sp.prw (Sp.smw ([Sp.prw (256*key+d.length)]++d)))=(Sp.smw ([Sp.prw (256*key+d.length)]++d),true):=(In0 (n:=Sp.smw ([Sp.prw (256*key+d.length)]++d)) sb.1 sb.2).2.2
  have ac:Asc acc:=fun i j h1 h2=>by
   have:=ha i j h1 (by rw[List.length_append];omega)
   rw[List.getD_eq_getElem?_getD,List.getD_eq_getElem?_getD,List.getElem?_append_left (by omega),List.getElem?_append_left h2,<-List.getD_eq_getElem?_getD,<-List.getD_eq_getElem?_getD]at this
   exact this
  have pe:=Vu1 (key:=key) ac (fun i hi=>by
   have:=ha i acc.length hi (by rw[List.length_append,List.length_cons];omega)
   rw[List.getD_eq_getElem?_getD,List.getD_eq_getElem?_getD,List.getElem?_append_left hi,List.getElem?_append_right (Nat.le_refl _),Nat.sub_self,<-List.getD_eq_getElem?_getD]at this
   exact this) d
  rw[Yd0 hD,if_pos ⟨by omega,rfl,k1,kd,by omega⟩,w1,n1,tk,if_pos ⟨rfl,rfl⟩,td,pe]
  have ih:=Gt1 k post (acc++[(key,d,())]) (hd++Sp.rcd key d) f (by rw[List.append_assoc];exact ha) (fun x hx=>hk x (List.mem_cons_of_mem _ hx)) l (by rw[hl2,List.append_assoc]) (by rw[List.length_cons]at hf;omega)
  rw[List.length_append,rl]at ih
  rw[show hd.length+d.length+2=hd.length+(d.length+2) by omega,ih,e0,List.length_append,rl,List.append_assoc]
  refine Prod.ext (by dsimp only;omega) rfl
theorem Ek2:∀ {es:List EnT},KOK es->W32l (Sp.rcs es)
 |[],_=>fun x hx=>by cases hx
 |e::es,h=>fun x hx=>by
  unfold Sp.rcs at hx
  rw[List.flatMap_cons]at hx
  rcases List.mem_append.1 hx with hx|hx
  ·have he:=h e (List.mem_cons_self ..)
   unfold Sp.rcd at hx
   rcases List.mem_append.1 hx with hx|hx
   ·exact Md1 he.1.1 he.1.2 he.2.1 he.2.2 x hx
   ·rw[List.mem_singleton.1 hx]
    have sb:=Xw0 ([Sp.prw (256*e.1+e.2.1.length)]++e.2.1) 0 (by decide) (by decide)
    have:=In0 (n:=Sp.smw ([Sp.prw (256*e.1+e.2.1.length)]++e.2.1)) sb.1 sb.2
    exact⟨this.1,this.2.1⟩
  ·exact Ek2 (fun y hy=>h y (List.mem_cons_of_mem _ hy)) x hx
theorem Ch1{m:MeT}(hw:W32f m.1)(hm:Sp.mvl m=true){es:List EnT}(hk:KOK es)(ha:Asc es)(hl:es.length<=600){p:PwT}(h0:0<=p.1)(h1:p.1<=1099511627776)(hz:1+(Sp.rcs es).length<=Sp.hsz m)(hwo:Sp.wor m.1 (Sp.hc m) (Sp.frs m)=false)(hg:Sp.gnr m (Sp.acv m)≠65535)
 (s:RsT) (hs:s=Sp.dol (Sp.cst m es) (m.1,p,0,())) (e0:s.2.2.1=0):SG m.1 s/\Sp.mvl (s.1,m.2)=true/\Sp.ent (s.1,m.2)=es/\Sp.acv (s.1,m.2)=Sp.oh m/\(Sp.rdv (Sp.hwr (s.1,m.2) (Sp.acv (s.1,m.2)))).2.2.1=(Sp.hsz m:Int)-(1+(Sp.rcs es).length):=by
 obtain⟨hv,hp,hac⟩:=Gk0 hm
 obtain⟨p1,p2,p3,p4,p5⟩:=Eb0.1 hp
 have ob:=oh_b hv hp
 have b:=pl_b hv hp
 have v:=Dr0.1 hv
 have bo:=pl_k hv hp ob.1
 have gb:=Dy1 hw (Sp.acv m)
 have E:=Mt1 (f0:=m.1) (a:=Sp.frs m) (Sp.hc m) 0 (EB.init hv hw h0 h1 (Sp.frs m)) (by omega) (by rw[Nat.add_zero];exact hwo)
 rw[Nat.add_zero,Nat.zero_add]at E
 unfold Sp.cst at hs
 rw[List.append_assoc,Gq0,Gq0,Os0]at hs
 generalize Sp.dol (Sp.erl (Sp.hc m) (Sp.frs m)) (m.1,p,0,())=t at E hs
 rw[show(Sp.hbs m (Sp.oh m):Int)+1=((Sp.hbs m (Sp.oh m)+1:Nat):Int) by push_cast;rfl]at hs
 generalize hu:Sp.dol (Sp.pgl (Sp.rcs es) ((Sp.hbs m (Sp.oh m)+1:Nat):Int)) t=u at hs
 have eu:u.2.2.1=0:=by
  by_cases c:u.2.2.1=0
  ·exact c
  ·rw[if_neg c]at hs
   rw[hs]at e0
   exact absurd e0 c
 have et:t.2.2.1=0:=by
  by_cases c:t.2.2.1=0
  ·exact c
  ·rw[Fp0 _ c]at hu
   rw[hu]at c
   exact absurd eu c
 have tb:=E.b et
 have W:=Mf1 (f0:=m.1) (Sp.rcs es) (Sp.hbs m (Sp.oh m)+1) E.g et (Ek2 hk) (by omega) (fun i h1 h2=>tb i (by omega) (by omega)) (by rw[hu];exact eu)
 rw[hu]at W
 obtain⟨gu,ui,uo⟩:=W
 rw[if_pos eu]at hs
 have hs:s=Sp.prg u.1 (Sp.hbs m (Sp.oh m)) (Sp.prw (Sp.gnr m (Sp.acv m)+1)) u.2.1:=by
  rw[hs]
  unfold Sp.dop
  dsimp only
  rw[if_neg Bool.false_ne_true,Int.toNat_natCast]
 have G:=Az1 gu (Sp.hbs m (Sp.oh m)) (Sp.prw (Sp.gnr m (Sp.acv m)+1))
 rw[<-hs]at G
 have pw:=In0 (n:=Sp.gnr m (Sp.acv m)+1) (by omega) (by omega)
 have ub:u.1.1.getD (Sp.hbs m (Sp.oh m)) 0=4294967295:=by
  rw[uo _ (by omega)]
  exact tb _ (by omega) (by omega)
 have hf:=Er2 (p:=u.2.1) pw.1 pw.2.1 (by rw[gu.l];omega) ub (by rw[<-hs];exact e0)
 rw[<-hs]at hf
 have gs:∀i,s.1.1.getD i 0=if Sp.hbs m (Sp.oh m)=i then Sp.prw (Sp.gnr m (Sp.acv m)+1)else u.1.1.getD i 0:=fun i=>by
  rw[hf];exact Dj0 _ _ _ _ _ (by rw[gu.l];omega)
 have hp2:Sp.plc (s.1,m.2)=true:=Eb0.2 ⟨p1,p2,p3,p4,(by dsimp only;rw[G.n];exact p5)⟩
 have bs:∀k,Sp.hbs (s.1,m.2) k=Sp.hbs m k:=fun _=>rfl
 have zs:Sp.hsz (s.1,m.2)=Sp.hsz m:=rfl
 have nl:=Dw0 (m:=(s.1,m.2)) G.v hp2 ob.1
 have old:Sp.hwr (s.1,m.2) (Sp.acv m)=Sp.hwr m (Sp.acv m):=by
  have l1:=Dw0 (m:=(s.1,m.2)) G.v hp2 (Bt0 m)
  have l2:=Dw0 hv hp (Bt0 m)
  refine Cn0 0 (by rw[l1,l2];rfl) (fun i hi=> ?_)
  rw[l1,zs]at hi
  have out:Sp.hbs m (Sp.acv m)+i<64*Sp.frs m\/64*(Sp.frs m+Sp.hc m)<=Sp.hbs m (Sp.acv m)+i:=by
   have ha:=Bt0 m
   have hbe:Sp.hbs m (Sp.acv m)=64*m.2.1.toNat+Sp.acv m*Sp.hsz m:=rfl
   have hbo:Sp.hbs m (Sp.oh m)=64*m.2.1.toNat+Sp.oh m*Sp.hsz m:=rfl
   have oe:Sp.oh m=1-Sp.acv m:=rfl
   match hh:Sp.acv m,ha with
   |0,_=>
    rw[hh]at oe hbe
    have o2:Sp.oh m*Sp.hsz m=Sp.hsz m:=by rw[show Sp.oh m=1 from oe,Nat.one_mul]
    left;omega
   |1,_=>
    rw[hh]at oe hbe
    have o2:Sp.oh m*Sp.hsz m=0:=by rw[show Sp.oh m=0 from oe,Nat.zero_mul]
    right;omega
  rw[<-Gz0 (m:=(s.1,m.2)) G.v hp2 (Bt0 m) hi,<-Gz0 hv hp (Bt0 m) hi,bs,gs,if_neg (by omega),uo _ (by omega)]
  exact E.o _ out
 have new:Sp.hwr (s.1,m.2) (Sp.oh m)=[Sp.prw (Sp.gnr m (Sp.acv m)+1)]++(Sp.rcs es++replicate (Sp.hsz m-(1+(Sp.rcs es).length)) 4294967295):=by
  refine Cn0 0 (by rw[nl,zs,List.length_append,List.length_append,List.length_replicate,List.length_singleton];omega) (fun i hi=> ?_)
  rw[nl,zs]at hi
  rw[<-Gz0 (m:=(s.1,m.2)) G.v hp2 ob.1 hi,bs,gs]
  cases i with
  |zero=>rw[Nat.add_zero,if_pos rfl];rfl
  |succ i=>
   rw[if_neg (by omega)]
   show _=(Sp.rcs es++replicate (Sp.hsz m-(1+(Sp.rcs es).length)) 4294967295).getD i 0
   by_cases c:i<(Sp.rcs es).length
   ·rw[ui _ (by omega) (by omega),show Sp.hbs m (Sp.oh m)+(i+1)-(Sp.hbs m (Sp.oh m)+1)=i by omega,List.getD_eq_getElem?_getD,List.getD_eq_getElem?_getD,List.getElem?_append_left c]
   ·rw[uo _ (by omega),tb _ (by omega) (by omega),List.getD_eq_getElem?_getD,List.getElem?_append_right (by omega),List.getElem?_replicate,if_pos (by omega)]
    rfl
 have gO:Sp.gnr (s.1,m.2) (Sp.oh m)=Sp.gnr m (Sp.acv m)+1:=by
  have w:(Sp.hwr (s.1,m.2) (Sp.oh m)).getD 0 0=Sp.prw (Sp.gnr m (Sp.acv m)+1):=by rw[new];rfl
  show(bif(Sp.nmb ((Sp.hwr (s.1,m.2) (Sp.oh m)).getD 0 0)).2 then(Sp.nmb ((Sp.hwr (s.1,m.2) (Sp.oh m)).getD 0 0)).1 else 0)=_
  rw[w,pw.2.2];rfl
 have gA:Sp.gnr (s.1,m.2) (Sp.acv m)=Sp.gnr m (Sp.acv m):=by unfold Sp.gnr;rw[old]
 have av:Sp.acv (s.1,m.2)=Sp.oh m/\Sp.acb (s.1,m.2)=true:=by
  have ha:=Bt0 m
  have oe:Sp.oh m=1-Sp.acv m:=rfl
  match hh:Sp.acv m,ha with
  |0,_=>
   rw[hh]at oe gO gA gb
   have oe:Sp.oh m=1:=oe
   rw[oe]at gO⊢
   unfold Sp.acv Sp.acb
   rw[gO,gA,decide_eq_true (by omega)]
   exact⟨rfl,rfl⟩
  |1,_=>
   rw[hh]at oe gO gA gb
   have oe:Sp.oh m=0:=oe
   rw[oe]at gO⊢
   unfold Sp.acv Sp.acb
   rw[gO,gA,decide_eq_false (by omega),decide_eq_true (p:=Sp.gnr m 1+1>0) (by omega)]
   exact⟨rfl,rfl⟩
 have R:=Gt1 (Sp.hsz m-(1+(Sp.rcs es).length)) es [] [Sp.prw (Sp.gnr m (Sp.acv m)+1)] (Sp.hwr (s.1,m.2) (Sp.oh m)).length (by rw[List.nil_append];exact ha) hk _ new (by
  rw[nl,zs]
  have:∀ {es:List EnT},2*es.length<=(Sp.rcs es).length:=by
   intro es
   induction es with
   |nil=>exact Nat.zero_le _
   |cons e es ih=>
    unfold Sp.rcs at ih⊢
    rw[List.flatMap_cons,List.length_append,Fu0,List.length_cons]
    omega
  have:= @this es
  omega)
 rw[List.length_singleton,List.nil_append]at R
 refine⟨G,?_,?_,av.1,?_⟩
 ·unfold Sp.mvl;rw[G.v,hp2,av.2];rfl
 ·unfold Sp.ent Sp.rdv
  rw[av.1,R]
 ·unfold Sp.rdv
  rw[av.1,R]
  dsimp only
  have bk:Sp.blk (Sp.hwr (s.1,m.2) (Sp.oh m)) (1+(Sp.rcs es).length)=true:=by
   unfold Sp.blk
   rw[new,<-List.append_assoc,List.drop_left' (by rw[List.length_append,List.length_singleton]),List.all_replicate]
   split<;>rfl
  rw[bk,if_pos rfl,nl,zs]
  push_cast
  rfl
theorem Vw1{f:FlT}{k:Nat}{w:Int}{p:PwT}{i:Nat}(h:i≠k):(Sp.prg f k w p).1.1.getD i 0=f.1.getD i 0:=by
 have q:∀b,(Sp.pw f k w b).1.getD i 0=f.1.getD i 0:=fun b=>by
  unfold Sp.pw
  dsimp only
  rw[List.getD_eq_getElem?_getD,List.getElem?_set_ne (Ne.symm h),<-List.getD_eq_getElem?_getD]
 unfold Sp.prg
 split
 ·rfl
 split
 ·exact q _
 ·exact q _
theorem Vy1:∀(ws:List Int)(a:Nat)(s:RsT)(i:Nat),i<a\/a+ws.length<=i->(Sp.dol (Sp.pgl ws a) s).1.1.getD i 0=s.1.1.getD i 0
 |[],_,_,_,_=>rfl
 |w::ws,a,s,i,h=>by
  rw[List.length_cons]at h
  rw[Sp.pgl,Sp.dol]
  split
  ·rw[show(a:Int)+1=((a+1:Nat):Int) by push_cast;rfl,Vy1 ws (a+1) _ i (by omega)]
   unfold Sp.dop
   dsimp only
   rw[if_neg Bool.false_ne_true,Int.toNat_natCast]
   exact Vw1 (by omega)
  ·rfl
theorem pg_o{m:MeT}(hw:W32f m.1)(hm:Sp.mvl m=true){key:Int}{d:List Int}(h:((Sp.rcd key d).length:Int)<=Sp.frl m){p:PwT}(s:RsT)(g:SG m.1 s)(hp2:Sp.plc (s.1,m.2)=true)(hs:s=Sp.dol (Sp.pgl (Sp.rcd key d) ((Sp.hbs m (Sp.acv m):Int)+(Sp.rdv (Sp.hwr m (Sp.acv m))).2.1)) (m.1,p,0,())) :
 ∀k,k<2->∀i,i<Sp.hsz m->(i:Int)<(Sp.rdv (Sp.hwr m (Sp.acv m))).2.1\/k≠Sp.acv m\/(Sp.rdv (Sp.hwr m (Sp.acv m))).2.1+((Sp.rcd key d).length:Int)<=i->(Sp.hwr (s.1,m.2) k).getD i 0=(Sp.hwr m k).getD i 0:=by
 intro k hk i hz hi
 obtain⟨hv,hp,_⟩:=Gk0 hm
 have b:=pl_b hv hp
 have fb:=Zi0 hw hm
 have rl:=Fu0 key d
 have ps:(Sp.hbs m (Sp.acv m):Int)+(Sp.rdv (Sp.hwr m (Sp.acv m))).2.1=((Sp.hbs m (Sp.acv m)+(Sp.rdv (Sp.hwr m (Sp.acv m))).2.1.toNat:Nat):Int):=by omega
 have al:=Bt0 m
 rw[<-Gz0 (m:=(s.1,m.2)) g.v hp2 hk (i:=i) hz,<-Gz0 hv hp hk (i:=i) hz,show Sp.hbs (s.1,m.2) k=Sp.hbs m k from rfl,hs,ps]
 refine Vy1 _ _ _ _ ?_
 have hbe:Sp.hbs m (Sp.acv m)=64*m.2.1.toNat+Sp.acv m*Sp.hsz m:=rfl
 have hbk:Sp.hbs m k=64*m.2.1.toNat+k*Sp.hsz m:=rfl
 have hl:((Sp.rcd key d).length:Int)<=(Sp.hsz m:Int)-(Sp.rdv (Sp.hwr m (Sp.acv m))).2.1:=by
  rcases fb.2.2 with q|q
  ·omega
  ·omega
 generalize (Sp.rdv (Sp.hwr m (Sp.acv m))).2.1=e at *
 generalize Sp.hbs m (Sp.acv m)=ba at *
 generalize Sp.hbs m k=bk at *
 generalize (Sp.rcd key d).length=n at *
 rw[hbe,hbk]
 rcases Nat.lt_or_ge k 1 with c1|c1
 ·have k0:k=0:=by omega
  subst k0
  rcases Nat.lt_or_ge (Sp.acv m) 1 with c2|c2
  ·have a0:Sp.acv m=0:=by omega
   rw[a0]at hi⊢
   rw[Nat.zero_mul]
   omega
  ·have a1:Sp.acv m=1:=by omega
   rw[a1,Nat.zero_mul,Nat.one_mul]
   omega
 ·have k1:k=1:=by omega
  subst k1
  rcases Nat.lt_or_ge (Sp.acv m) 1 with c2|c2
  ·have a0:Sp.acv m=0:=by omega
   rw[a0,Nat.zero_mul,Nat.one_mul]
   omega
  ·have a1:Sp.acv m=1:=by omega
   rw[a1]at hi⊢
   rw[Nat.one_mul]
   omega
theorem pg_g{m:MeT}(hw:W32f m.1)(hm:Sp.mvl m=true){key:Int}{d:List Int}(h:((Sp.rcd key d).length:Int)<=Sp.frl m){p:PwT}(s:RsT)(g:SG m.1 s)(hs:s=Sp.dol (Sp.pgl (Sp.rcd key d) ((Sp.hbs m (Sp.acv m):Int)+(Sp.rdv (Sp.hwr m (Sp.acv m))).2.1)) (m.1,p,0,())) :
 Sp.plc (s.1,m.2)=true/\Sp.mvl (s.1,m.2)=true/\Sp.acv (s.1,m.2)=Sp.acv m:=by
 obtain⟨hv,hp,hac⟩:=Gk0 hm
 obtain⟨p1,p2,p3,p4,p5⟩:=Eb0.1 hp
 have b:=pl_b hv hp
 have fb:=Zi0 hw hm
 have hp2:Sp.plc (s.1,m.2)=true:=Eb0.2 ⟨p1,p2,p3,p4,(by dsimp only;rw[g.n];exact p5)⟩
 have gn:∀k,k<2->Sp.gnr (s.1,m.2) k=Sp.gnr m k:=fun k hk=>by unfold Sp.gnr;rw[pg_o hw hm h s g hp2 hs k hk 0 (by omega) (by omega)]
 refine⟨hp2,?_,?_⟩
 ·unfold Sp.mvl Sp.acb at *
  rw[gn 0 (by omega),gn 1 (by omega)]
  dsimp only
  rw[g.v,hp2,hac]
  rfl
 ·unfold Sp.acv
  rw[gn 0 (by omega),gn 1 (by omega)]
theorem Hy2{m:MeT}(hw:W32f m.1)(hm:Sp.mvl m=true){key:Int}{d:List Int}(k0:0<=key)(k1:key<=254)(k2:d.length<=24)(hd:W32l d){p:PwT}(h0:0<=p.1)(h1:p.1<=1099511627776)(c:(Sp.wrs m key d).2.1=0)
 (s:RsT) (hs:s=Sp.dol (Sp.wrs m key d).1 (m.1,p,0,())) (e0:s.2.2.1=0):SG m.1 s/\Sp.mvl (s.1,m.2)=true:=by
 have g:=(Uo0 hw hm c).2 p h0 h1
 rw[<-hs]at g
 refine⟨g,?_⟩
 obtain⟨hv,hp,hac⟩:=Gk0 hm
 revert c hs
 unfold Sp.wrs
 split
 ·rename_i h
  intro _ hs
  exact(pg_g hw hm h s g hs).2.1
 ·intro c hs
  have s1:=Jq1 hv hp c
  rw[s1.1]at hs
  have eb:=Ew1 hw hm
  have el:=Wy1 hw hm
  have kp:=eb.1.put (key:=key) (by omega) (by omega) (data:=d) (by omega) hd
  have pl:=Mn0 (Sp.ent m) key d
  have ha:Asc (Sp.ent m):=(Sn0 hw hv hp (Bt0 m)).2
  have c2:=c
  unfold Sp.cov at c2
  split at c2
  ·cases c2
  split at c2
  ·cases c2
  split at c2
  ·cases c2
  rename_i z1 z2 z3
  exact(Ch1 hw hm kp (ha.put key d) (by omega) h0 h1 (by omega) s1.2.1 z3 s hs e0).2.1
theorem Ov1(l:List Int):∀(f i:Nat)(es:List EnT),i<=(Sp.rdl l f i es).1
 |0,_,_=>Nat.le_refl _
 |f+1,i,es=>by
  rw[Sp.rdl]
  split
  ·refine Nat.le_trans ?_ (Ov1 l f _ _)
   omega
  ·exact Nat.le_refl _
theorem Av1(l:List Int):∀(f g i:Nat)(es:List EnT),l.length-i<=f->l.length-i<=g->Sp.rdl l f i es=Sp.rdl l g i es
 |0,0,_,_,_,_=>rfl
 |0,g+1,i,es,h,_=>by rw[Sp.rdl,Sp.rdl,if_neg (fun z=>by omega)]
 |f+1,0,i,es,_,h=>by rw[Sp.rdl,Sp.rdl,if_neg (fun z=>by omega)]
 |f+1,g+1,i,es,h,h2=>by
  rw[Sp.rdl,Sp.rdl]
  split
  ·exact Av1 l f g _ _ (by omega) (by omega)
  ·rfl
theorem Ob1{l l':List Int}(hl:l'.length=l.length){a n:Nat}(h:∀j,a<=j->j<a+n->l'.getD j 0=l.getD j 0):take n (drop a l')=take n (drop a l):=by
 refine Cn0 0 (by simp only[List.length_take,List.length_drop,hl]) (fun i hi=> ?_)
 rw[List.length_take,List.length_drop]at hi
 have e:∀x:List Int,(take n (drop a x)).getD i 0=x.getD (a+i) 0:=fun x=>by
  rw[List.getD_eq_getElem?_getD,List.getElem?_take,if_pos (by omega),List.getElem?_drop,<-List.getD_eq_getElem?_getD]
 rw[e,e]
 exact h _ (by omega) (by omega)
theorem Ye0{l l':List Int}(hw:W32l l)(hl:l'.length=l.length):∀(f i:Nat)(es:List EnT),(∀j,j<(Sp.rdl l f i es).1->l'.getD j 0=l.getD j 0)->Sp.rdl l' l'.length i es=Sp.rdl l' l'.length (Sp.rdl l f i es).1 (Sp.rdl l f i es).2
 |0,_,_,_=>rfl
 |f+1,i,es,h=>by
  obtain⟨n,k,ok,hd⟩:=Wm1 hw i
  revert h
  rw[Yd0 hd]
  split
  rotate_left
  ·intro _;rfl
  rename_i c
  intro h
  have ge:=Ov1 l f (i+n+2) (if(Sp.nmb (l.getD (i+n+1) 0)).2=true/\(Sp.nmb (l.getD (i+n+1) 0)).1=Sp.smw (take (n+1) (drop i l))then Sp.putE es k (take n (drop (i+1) l))else es)
  rw[<-Ye0 hw hl f _ _ h]
  obtain⟨q,hq⟩:∃q,l'.length=q+1:=⟨l'.length-1,by omega⟩
  have hd':HD l' i n k ok:=⟨by rw[h i (by omega)];exact hd.e,hd.n,hd.k0,hd.k1⟩
  rw[Av1 l' l'.length (q+1) i es (by omega) (by omega),Yd0 hd',if_pos ⟨by omega,c.2.1,c.2.2.1,c.2.2.2.1,by omega⟩,h (i+n+1) (by omega),Ob1 hl (a:=i) (n:=n+1) (fun j h1 h2=>h j (by omega)),Ob1 hl (a:=i+1) (n:=n) (fun j h1 h2=>h j (by omega))]
  exact Av1 l' _ _ _ _ (by omega) (by omega)
theorem Gu1{l:List Int}{i:Nat}(h:i<l.length->l.getD i 0=4294967295):∀(f:Nat)(es:List EnT),Sp.rdl l f i es=(i,es)
 |0,_=>rfl
 |f+1,es=>by
  rw[Sp.rdl,if_neg (fun z=>by rw[h z.1]at z;exact absurd z.2.1 (by decide))]
theorem Ce1(l:List Int)(a i:Nat):(drop a l).getD i 0=l.getD (a+i) 0:=by
 rw[List.getD_eq_getElem?_getD,List.getElem?_drop,<-List.getD_eq_getElem?_getD]
theorem Vp1{l:List Int}{e:Nat}{key:Int}{d:List Int}(k0:0<=key)(k1:key<=254)(k2:d.length<=24)(hl:e+d.length+2<=l.length)(hr:∀i,i<d.length+2->l.getD (e+i) 0=(Sp.rcd key d).getD i 0)(hb:e+d.length+2<l.length->l.getD (e+d.length+2) 0=4294967295)(acc:List EnT) :
 Sp.rdl l l.length e acc=(e+d.length+2,Sp.putE acc key d):=by
 have rl:=Fu0 key d
 obtain⟨q,hq⟩:∃q,l.length=q+1:=⟨l.length-1,by omega⟩
 have w0:l.getD e 0=Sp.prw (256*key+d.length):=by
  have:=hr 0 (by omega)
  rw[Nat.add_zero]at this
  rw[this];rfl
 have hD:HD l e d.length key true:=⟨by rw[w0];exact Hr1 k0 k1 k2,by omega,k0,by omega⟩
 have dr:drop e l=Sp.rcd key d++drop (e+d.length+2) l:=by
  refine Cn0 0 (by rw[List.length_append,List.length_drop,List.length_drop,rl];omega) (fun i hi=> ?_)
  rw[List.length_drop]at hi
  rw[Ce1]
  by_cases c:i<d.length+2
  ·rw[hr i c,List.getD_eq_getElem?_getD,List.getD_eq_getElem?_getD,List.getElem?_append_left (by omega)]
  ·have q:(Sp.rcd key d++drop (e+d.length+2) l).getD i 0=(drop (e+d.length+2) l).getD (i-(Sp.rcd key d).length) 0:=by
    rw[List.getD_eq_getElem?_getD,List.getElem?_append_right (by omega),<-List.getD_eq_getElem?_getD]
   rw[q,Ce1,rl]
   congr 1
   omega
 have tk:take (d.length+1) (drop e l)=[Sp.prw (256*key+d.length)]++d:=by
  rw[dr]
  unfold Sp.rcd
  rw[List.append_assoc ([_]++d)]
  exact List.take_left' (by rw[List.length_append,List.length_singleton];omega)
 have td:take d.length (drop (e+1) l)=d:=by
  rw[<-List.drop_drop,dr]
  unfold Sp.rcd
  rw[List.append_assoc,List.append_assoc,List.singleton_append,List.drop_one,List.tail_cons]
  exact List.take_left' rfl
 have w1:l.getD (e+d.length+1) 0=Sp.prw (Sp.smw ([Sp.prw (256*key+d.length)]++d)):=by
  rw[Nat.add_assoc,hr (d.length+1) (by omega)]
  unfold Sp.rcd
  have e:=Hw0 ([Sp.prw (256*key+d.length)]++d) [Sp.prw (Sp.smw ([Sp.prw (256*key+d.length)]++d))] 0
  rw[List.length_append,List.length_singleton,Nat.add_zero,Nat.add_comm 1]at e
  rw[e];rfl
 have sb:=Xw0 ([Sp.prw (256*key+d.length)]++d) 0 (by decide) (by decide)
 have n1:Sp.nmb (Sp.prw (Sp.smw ([Sp.prw (256*key+d.length)]++d)))=(Sp.smw ([Sp.prw (256*key+d.length)]++d),true):=(In0 (n:=Sp.smw ([Sp.prw (256*key+d.length)]++d)) sb.1 sb.2).2.2
 rw[Av1 l l.length (q+1) e acc (by omega) (by omega),Yd0 hD,if_pos ⟨by omega,rfl,k1,k2,by omega⟩,w1,n1,tk,if_pos ⟨rfl,rfl⟩,td]
 exact Gu1 hb _ _
theorem Kc1{l:List Int}{e:Nat}(h:Sp.blk l e=true){i:Nat}(h1:e<=i)(h2:i<l.length):l.getD i 0=4294967295:=by
 unfold Sp.blk at h
 rw[List.all_eq_true]at h
 have:=h (l.getD i 0) (by
  rw[List.mem_iff_getElem]
  refine⟨i-e,by rw[List.length_drop];omega,?_⟩
  rw[List.getElem_drop,getD_at 0 h2]
  congr 1
  omega)
 exact beq_iff_eq.1 this
theorem Nx1{m:MeT}(hw:W32f m.1)(hm:Sp.mvl m=true){key:Int}{d:List Int}(k0:0<=key)(k1:key<=254)(k2:d.length<=24)(hd:W32l d){p:PwT}(h0:0<=p.1)(h1:p.1<=1099511627776)(c:(Sp.wrs m key d).2.1=0)
 (s:RsT) (hs:s=Sp.dol (Sp.wrs m key d).1 (m.1,p,0,())) (e0:s.2.2.1=0):Sp.ent (s.1,m.2)=Sp.putE (Sp.ent m) key d:=by
 have g:=(Uo0 hw hm c).2 p h0 h1
 rw[<-hs]at g
 obtain⟨hv,hp,hac⟩:=Gk0 hm
 have b:=pl_b hv hp
 revert c hs
 unfold Sp.wrs
 split
 ·rename_i h
  intro _ hs
  dsimp only at hs
  obtain⟨hp2,hm2,ha2⟩:=pg_g hw hm h s g hs
  have fb:=Zi0 hw hm
  have rl:=Fu0 key d
  have al:=Bt0 m
  have bk:=pl_k hv hp al
  obtain⟨q1,q2⟩:Sp.frl m=(Sp.hsz m:Int)-(Sp.rdv (Sp.hwr m (Sp.acv m))).2.1/\Sp.blk (Sp.hwr m (Sp.acv m)) (Sp.rdl (Sp.hwr m (Sp.acv m)) (Sp.hwr m (Sp.acv m)).length 1 []).1=true:=by
   rcases fb.2.2 with q|q
   ·exact q
   ·omega
  have hwl:W32l (Sp.hwr m (Sp.acv m)):=hw.half (Sp.acv m)
  have po:=pg_o hw hm h s g hp2 hs (Sp.acv m) al
  have ln:=Dw0 hv hp al
  have ln2:=Dw0 (m:=(s.1,m.2)) g.v hp2 al
  have ee:(Sp.rdv (Sp.hwr m (Sp.acv m))).2.1=((Sp.rdl (Sp.hwr m (Sp.acv m)) (Sp.hwr m (Sp.acv m)).length 1 []).1:Int):=rfl
  have en:Sp.ent m=(Sp.rdl (Sp.hwr m (Sp.acv m)) (Sp.hwr m (Sp.acv m)).length 1 []).2:=rfl
  have en2:Sp.ent (s.1,m.2)=(Sp.rdl (Sp.hwr (s.1,m.2) (Sp.acv m)) (Sp.hwr (s.1,m.2) (Sp.acv m)).length 1 []).2:=by
   unfold Sp.ent Sp.rdv
   rw[ha2]
  have zs:Sp.hsz (s.1,m.2)=Sp.hsz m:=rfl
  rw[zs]at ln2
  rw[ee]at hs fb q1 po
  have W:=Mf1 (f0:=m.1) (Sp.rcd key d) (Sp.hbs m (Sp.acv m)+(Sp.rdl (Sp.hwr m (Sp.acv m)) (Sp.hwr m (Sp.acv m)).length 1 []).1) (SG.init hv hw h0 h1) rfl
   (fun x hx=>by
    unfold Sp.rcd at hx
    rcases List.mem_append.1 hx with hx|hx
    ·exact Md1 k0 k1 k2 hd x hx
    ·rw[List.mem_singleton.1 hx]
     have sb:=Xw0 ([Sp.prw (256*key+d.length)]++d) 0 (by decide) (by decide)
     have:=In0 (n:=Sp.smw ([Sp.prw (256*key+d.length)]++d)) sb.1 sb.2
     exact⟨this.1,this.2.1⟩)
   (by omega)
   (fun i i1 i2=>by
    obtain⟨j,rfl⟩:∃j,i=Sp.hbs m (Sp.acv m)+j:=⟨i-Sp.hbs m (Sp.acv m),by omega⟩
    show m.1.1.getD _ 0=_
    rw[Gz0 hv hp al (by omega)]
    exact Kc1 q2 (by omega) (by omega))
   (by rw[Int.natCast_add,<-hs];exact e0)
  rw[Int.natCast_add,<-hs]at W
  rw[en2,Ye0 hwl (by rw[ln,ln2]) (Sp.hwr m (Sp.acv m)).length 1 [] (fun j hj=>po j (by omega) (by omega)),<-en]
  have:=Vp1 (l:=Sp.hwr (s.1,m.2) (Sp.acv m)) (e:=(Sp.rdl (Sp.hwr m (Sp.acv m)) (Sp.hwr m (Sp.acv m)).length 1 []).1) k0 k1 k2 (by omega)
   (fun i hi=>by
    rw[<-Gz0 (m:=(s.1,m.2)) g.v hp2 al (by omega),show Sp.hbs (s.1,m.2) (Sp.acv m)=Sp.hbs m (Sp.acv m)from rfl,<-Nat.add_assoc,W.2.1 _ (by omega) (by omega)]
    congr 1
    omega)
   (fun z=>by
    rw[po _ (by omega) (by omega)]
    exact Kc1 q2 (by omega) (by omega)) (Sp.ent m)
  rw[this]
 ·intro c hs
  have s1:=Jq1 hv hp c
  rw[s1.1]at hs
  have eb:=Ew1 hw hm
  have el:=Wy1 hw hm
  have kp:=eb.1.put (key:=key) (by omega) (by omega) (data:=d) (by omega) hd
  have pl:=Mn0 (Sp.ent m) key d
  have ha:Asc (Sp.ent m):=(Sn0 hw hv hp (Bt0 m)).2
  have c2:=c
  unfold Sp.cov at c2
  split at c2
  ·cases c2
  split at c2
  ·cases c2
  split at c2
  ·cases c2
  rename_i z1 z2 z3
  exact(Ch1 hw hm kp (ha.put key d) (by omega) h0 h1 (by omega) s1.2.1 z3 s hs e0).2.2.1
abbrev CfT:=Int×Int×Int×Int×Int×Int×Bool×Int×Unit
abbrev FaT:=Int×Int×Int×Int×Int×List Int×Int×Unit
abbrev FsT:=List CfT×List FaT×Int×Bool×Unit
namespace Sp
noncomputable def inr(x l h:Int):Bool:=decide (x>=l)&&decide (x<=h)
noncomputable def cfg(c:CfT):Bool:=inr c.1 1 16777215&&(inr c.2.1 1 100&&(inr c.2.2.1 1 100&&(inr c.2.2.2.1 1 100&&(inr c.2.2.2.2.1 c.2.2.2.1 255&&(inr c.2.2.2.2.2.1 0 255&&inr c.2.2.2.2.2.2.2.1 0 8)))))
noncomputable def val(x:Int):Bool:=inr x (-1099511627776) 1099511627776
noncomputable def vals(l:List Int):Bool:=(List.range l.length).all fun j=>val (l.getD j 0)
noncomputable def bt(f:FaT)(k:Int):Bool:=andI .i64 f.1 k==k
noncomputable def kno(f:FaT):Bool:=decide (f.2.2.2.2.1>=1)&&(decide (f.2.2.1>=1)&&decide (f.2.2.2.2.2.2.1>=1))
noncomputable def unk(f:FaT):Bool:=(f.2.2.1==0)&&((f.2.2.2.1==0)&&((f.2.2.2.2.1==0)&&(f.2.2.2.2.2.2.1==0)))
noncomputable def q2(f:FaT):Bool:= !(bt f 2&&(f.2.2.2.1 !=0))
noncomputable def q1(c:CfT)(f:FaT):Bool:=(bt f 4==(f.2.2.1==2))&&(!bt f 16||(bt f 4&&c.2.2.2.2.2.2.1))
noncomputable def q0(cyc:Int)(f:FaT):Bool:= !bt f 1||((bt f 2&&bt f 8)&&(f.2.2.2.2.2.2.1==cyc))
noncomputable def rngs(c:CfT)(f:FaT)(cyc:Int):Bool:=inr f.1 0 31&&(inr f.2.1 (0-c.2.2.1) c.2.1&&(inr f.2.2.1 0 2&&(inr f.2.2.2.1 0 (c.2.2.2.2.1-1)&&(inr f.2.2.2.2.1 0 255&&inr f.2.2.2.2.2.2.1 0 cyc))))
noncomputable def frq(c:CfT)(f:FaT):Bool:=(((f.2.2.2.2.2.1.length:Int)==0)||((f.2.2.2.2.2.1.length:Int)==c.2.2.2.2.2.2.2.1))&&vals f.2.2.2.2.2.1
noncomputable def fin(c:CfT)(f:FaT):Bool:=bif bt f 2||bt f 4 then kno f&&((f.2.2.2.2.2.1.length:Int)==c.2.2.2.2.2.2.2.1)else unk f&&((f.2.2.2.2.2.1.length:Int)==0)
noncomputable def rgt(c:CfT)(f:FaT)(cyc:Int):Bool:=rngs c f cyc&&(frq c f&&((q0 cyc f&&(q1 c f&&q2 f))&&fin c f))
end Sp
theorem Bj0{x l h:Int}:Sp.inr x l h=true↔l<=x/\x<=h:=by simp[Sp.inr]
theorem Zs1(x l h:Int):F_34 x l h=some (Sp.inr x l h,()):=by
 unfold F_34 Sp.inr
 cases decide (x>=l)<;>rfl
theorem Qr0(x l h:Int):p_34 x l h=true/\v_34 x l h=(Sp.inr x l h,()):=Lj2 x l h (Zs1 x l h)
theorem Gk2(c:CfT):F_54 c=some (Sp.cfg c,()):=by
 unfold F_54 Sp.cfg
 simp only[Qr0,Ai0]
 cases Sp.inr c.1 1 16777215<;>try rfl
 cases Sp.inr c.2.1 1 100<;>try rfl
 cases Sp.inr c.2.2.1 1 100<;>try rfl
 cases Sp.inr c.2.2.2.1 1 100<;>try rfl
 cases Sp.inr c.2.2.2.2.1 c.2.2.2.1 255<;>try rfl
 cases Sp.inr c.2.2.2.2.2.1 0 255<;>rfl
theorem Cj1(c:CfT):p_54 c=true/\v_54 c=(Sp.cfg c,()):=Kw2 c (Gk2 c)
theorem Ol0(f:FaT)(k:Int):p_67 f k=true/\v_67 f k=(Sp.bt f k,()):=Km2 f k rfl
theorem tab(P:Int->Bool)(h:(List.range 32).all (fun n=>P (n:Int))=true){s:Int}(h0:0<=s)(h1:s<=31):P s=true:=by
 obtain⟨n,rfl⟩:=Int.eq_ofNat_of_zero_le h0
 rw[List.all_eq_true]at h
 exact h n (by rw[List.mem_range];omega)
theorem Gn2{s:Int}(h0:0<=s)(h1:s<=31):((Sp.andI .i64 s 1 !=0)=(Sp.andI .i64 s 1==1)/\(Sp.andI .i64 s 2 !=0)=(Sp.andI .i64 s 2==2)/\(Sp.andI .i64 s 4 !=0)=(Sp.andI .i64 s 4==4))/\((Sp.andI .i64 s 8 !=0)=(Sp.andI .i64 s 8==8)/\(Sp.andI .i64 s 16 !=0)=(Sp.andI .i64 s 16==16))/\(Sp.andI .i64 s 10==10)=((Sp.andI .i64 s 2==2)&&(Sp.andI .i64 s 8==8))/\(Sp.andI .i64 s 6 !=0)=((Sp.andI .i64 s 2==2)||(Sp.andI .i64 s 4==4)):=by
 have:=tab (fun s=>((((Sp.andI .i64 s 1 !=0)==(Sp.andI .i64 s 1==1))&&((Sp.andI .i64 s 2 !=0)==(Sp.andI .i64 s 2==2))&&((Sp.andI .i64 s 4 !=0)==(Sp.andI .i64 s 4==4))))&&((((Sp.andI .i64 s 8 !=0)==(Sp.andI .i64 s 8==8))&&((Sp.andI .i64 s 16 !=0)==(Sp.andI .i64 s 16==16))))&&((Sp.andI .i64 s 10==10)==((Sp.andI .i64 s 2==2)&&(Sp.andI .i64 s 8==8)))&&((Sp.andI .i64 s 6 !=0)==((Sp.andI .i64 s 2==2)||(Sp.andI .i64 s 4==4)))) (by decide+kernel) h0 h1
 simp only[Bool.and_eq_true,beq_iff_eq]at this
 exact⟨⟨this.1.1.1.1.1,this.1.1.1.1.2,this.1.1.1.2⟩,this.1.1.2,this.1.2,this.2⟩
set_option maxRecDepth 100000
set_option maxHeartbeats 4000000
namespace Sp
noncomputable def wi(x h:Int):Bool:=decide (x>=0)&&decide (x<=h)
noncomputable def bval(x:Int):Bool:=decide (x>= -1099511627776)&&decide (x<=1099511627776)
noncomputable def bvals(l:List Int):Bool:=(fnd (fun j=> !bval (l.getD j 0)) l.length 0).isNone
noncomputable def good(f:FaT):Bool:=wi f.1 31&&(wi f.2.2.1 2&&(wi f.2.2.2.1 254&&(wi f.2.2.2.2.1 255&&(wi f.2.2.2.2.2.2.1 1073741824&&(decide ((f.2.2.2.2.2.1.length:Int)<=8)&&bvals f.2.2.2.2.2.1)))))
noncomputable def flat:List Int->List Int
 |[]=>[]
 |v::l=>((v+1099511627776)/4294967296)::((v+1099511627776)%4294967296)::flat l
noncomputable def unflat:List Int->List Int
 |a::b::l=>(a*4294967296+b-1099511627776)::unflat l
 |_=>[]
noncomputable def hdr(f:FaT):Int:=andI .i64 f.1 22+256*f.2.2.1+65536*f.2.2.2.1+16777216*f.2.2.2.2.1
noncomputable def wpk(f:FaT):List Int:=[hdr f,f.2.2.2.2.2.2.1,(f.2.2.2.2.2.1.length:Int)]++flat f.2.2.2.2.2.1
noncomputable def xof(l:List Int):FaT:=(andI .i64 (l.getD 0 0) 255,0,andI .i64 (Int.fdiv (l.getD 0 0) 256) 255,andI .i64 (Int.fdiv (l.getD 0 0) 65536) 255,Int.fdiv (l.getD 0 0) 16777216,unflat (l.drop 3),l.getD 1 0,())
noncomputable def cond(l:List Int):Bool:= !decide ((l.length:Int)<3)&&(!decide (l.getD 2 0>8)&&(((l.length:Int)==3+2*l.getD 2 0)&&(!decide (l.getD 1 0>1073741824)&&((andnI .i64 (andI .i64 (l.getD 0 0) 255) 22==0)&&((fnd (fun j=>decide (l.getD (3+2*j) 0>512)) (l.getD 2 0).toNat 0).isNone&&good (xof l))))))
end Sp
theorem Zt1(x h:Int):p_77 x h=true/\v_77 x h=(Sp.wi x h,()):=by
 refine Kh2 x h ?_
 unfold F_77 Sp.wi
 cases decide (x>=0)<;>rfl
theorem Tv0(x:Int):p_79 x=true/\v_79 x=(Sp.bval x,()):=by
 refine Kg2 x ?_
 unfold F_79 Sp.bval
 cases decide (x>= -1099511627776)<;>rfl
theorem Qs0{x h:Int}:Sp.wi x h=true↔0<=x/\x<=h:=by simp[Sp.wi]
theorem Jx1{l:List Int}:Sp.bvals l=true↔∀x∈l,-1099511627776<=x/\x<=1099511627776:=by
 unfold Sp.bvals
 rw[Option.isNone_iff_eq_none,Eh0]
 constructor
 ·intro h x hx
  obtain⟨j,hj,rfl⟩:=List.getElem_of_mem hx
  have:=h j (by omega) (by omega)
  rw[getD_at 0 hj]at this
  simpa[Sp.bval]using this
 ·intro h j _ hj
  have hj:j<l.length:=by omega
  rw[getD_at 0 hj]
  have:=h l[j] (List.getElem_mem hj)
  simpa[Sp.bval]using this
theorem Di0{f:FaT}:Sp.good f=true↔(0<=f.1/\f.1<=31)/\(0<=f.2.2.1/\f.2.2.1<=2)/\(0<=f.2.2.2.1/\f.2.2.2.1<=254)/\(0<=f.2.2.2.2.1/\f.2.2.2.2.1<=255)/\(0<=f.2.2.2.2.2.2.1/\f.2.2.2.2.2.2.1<=1073741824)/\f.2.2.2.2.2.1.length<=8/\∀x∈f.2.2.2.2.2.1,-1099511627776<=x/\x<=1099511627776:=by
 simp only[Sp.good,Bool.and_eq_true,Qs0,decide_eq_true_eq,Jx1]
 constructor<;>rintro⟨a,b,c,d,e,g,h⟩<;>exact⟨a,b,c,d,e,by omega,h⟩
theorem Kf1{n:Int}(k:Nat)(hk:k<=40)(h0:0<=n)(h1:n<4611686018427387904):Sp.andI .i64 n (((2^k-1:Nat):Int))=n%((2^k:Nat):Int):=by
 obtain⟨a,rfl⟩:=Int.eq_ofNat_of_zero_le h0
 have ha:a<2^62:=by
  have:(2:Nat)^62=4611686018427387904:=by decide
  omega
 have hb:(2:Nat)^k<=2^40:=Nat.pow_le_pow_right (by decide) hk
 have hb2:(2:Nat)^40<2^62:=by decide
 rw[Nf1 62 (by decide) ha (by omega),Nat.and_two_pow_sub_one_eq_mod,Int.natCast_emod]
theorem Ty0{n:Int}(h0:0<=n)(h1:n<4611686018427387904):Sp.andI .i64 n 255=n%256:=Kf1 8 (by decide) h0 h1
theorem Gw2{n:Int}(h0:0<=n)(h1:n<4611686018427387904):Sp.andI .i64 n 4294967295=n%4294967296:=Kf1 32 (by decide) h0 h1
theorem Hl1{a b:Int}(k:Nat)(hk:k<=30)(h0:0<=a)(h1:a<((2^k:Nat):Int))(h2:0<=b)(h3:b<1024):Sp.orI .i64 a (b*((2^k:Nat):Int))=a+b*((2^k:Nat):Int):=by
 obtain⟨x,rfl⟩:=Int.eq_ofNat_of_zero_le h0
 obtain⟨y,rfl⟩:=Int.eq_ofNat_of_zero_le h2
 have hb:(2:Nat)^k<=2^30:=Nat.pow_le_pow_right (by decide) hk
 have e30:(2:Nat)^30=1073741824:=by decide
 have e62:(2:Nat)^62=4611686018427387904:=by decide
 have hxy:y*2^k<=1024*1073741824:=Nat.mul_le_mul (by omega) (by omega)
 have hx:x<2^k:=by exact_mod_cast h1
 rw[<-Int.natCast_mul,Wc1 62 (by decide) (by omega) (by omega),Nat.or_comm,Pb1 k hx]
 push_cast
 omega
theorem btab(P:Int->Bool)(N:Nat)(h:(List.range N).all (fun n=>P (n:Int))=true){s:Int}(h0:0<=s)(h1:s<N):P s=true:=by
 obtain⟨n,rfl⟩:=Int.eq_ofNat_of_zero_le h0
 rw[List.all_eq_true]at h
 exact h n (by rw[List.mem_range];omega)
theorem Dm1{s:Int}(h0:0<=s)(h1:s<=31):0<=Sp.andI .i64 s 22/\Sp.andI .i64 s 22<=31/\Sp.andnI .i64 (Sp.andI .i64 s 22) 22=0/\Sp.andI .i64 (Sp.andI .i64 s 22) 22=Sp.andI .i64 s 22:=by
 have:=btab (fun s=>decide (0<=Sp.andI .i64 s 22/\Sp.andI .i64 s 22<=31/\Sp.andnI .i64 (Sp.andI .i64 s 22) 22=0/\Sp.andI .i64 (Sp.andI .i64 s 22) 22=Sp.andI .i64 s 22)) 32 (by decide+kernel) h0 (by omega)
 exact of_decide_eq_true this
theorem St0:∀l:List Int,(Sp.flat l).length=2*l.length
 |[]=>rfl
 |_::l=>by simp only[Sp.flat,List.length_cons,St0 l];omega
theorem Ca1:∀a b:List Int,Sp.flat (a++b)=Sp.flat a++Sp.flat b
 |[],_=>rfl
 |v::a,b=>by simp[Sp.flat,Ca1 a b]
theorem My0:∀ {l:List Int},Sp.unflat (Sp.flat l)=l
 |[]=>rfl
 |v::l=>by
  simp only[Sp.flat,Sp.unflat,My0 (l:=l)]
  congr 1
  omega
theorem Ae1:∀(n:Nat)(l:List Int),l.length=2*n->(Sp.unflat l).length=n
 |0,[],_=>rfl
 |n+1,a::b::l,h=>by
  have:=Ae1 n l (by simp only[List.length_cons]at h;omega)
  simp[Sp.unflat,this]
 |0,_::_,h=>by simp at h
 |n+1,[],h=>by simp at h
 |n+1,[_],h=>by exfalso;simp only[List.length_cons,List.length_nil]at h;omega
theorem Mx0:∀(k:Nat)(t:List Int),2*k+1<t.length->Sp.unflat (t.take (2*(k+1)))=Sp.unflat (t.take (2*k))++[t.getD (2*k) 0*4294967296+t.getD (2*k+1) 0-1099511627776]
 |0,a::b::t,_=>by simp[Sp.unflat]
 |k+1,a::b::t,h=>by
  have ih:=Mx0 k t (by simp only[List.length_cons]at h;omega)
  rw[show 2*(k+1+1)=2*(k+1)+1+1 by omega,List.take_succ_cons,List.take_succ_cons,show 2*(k+1)=2*k+1+1 by omega,List.take_succ_cons,List.take_succ_cons,Sp.unflat,Sp.unflat,show 2*k+1+1=2*(k+1) by omega,ih]
  rw[show 2*(k+1)=2*k+1+1 by omega]
  simp[List.getD_eq_getElem?_getD]
 |0,[],h=>by simp at h
 |0,[_],h=>by simp at h
 |k+1,[],h=>by simp at h
 |k+1,[_],h=>by exfalso;simp only[List.length_cons,List.length_nil]at h;omega
theorem Fk2{f:FaT}(h:Sp.good f=true):wrap .u32 (Sp.orI .i64 (Sp.orI .i64 (Sp.orI .i64 (Sp.andI .i64 f.1 (22:Int)) (wrap .i64 (f.2.2.1*(256:Int)))) (wrap .i64 (f.2.2.2.1*(65536:Int)))) (wrap .i64 (f.2.2.2.2.1*(16777216:Int))))=Sp.hdr f:=by
 obtain⟨h1,h2,h3,h4,h5,h6,h7⟩:=Di0.1 h
 have hs:=Dm1 h1.1 h1.2
 unfold Sp.hdr
 rw[wi64 (n:=f.2.2.1*256) (by omega) (by omega),wi64 (n:=f.2.2.2.1*65536) (by omega) (by omega),wi64 (n:=f.2.2.2.2.1*16777216) (by omega) (by omega)]
 generalize Sp.andI .i64 f.1 22=s at *
 have e1:Sp.orI .i64 s (f.2.2.1*256)=s+f.2.2.1*256:=Hl1 8 (by decide) hs.1 (by omega) h2.1 (by omega)
 have e2:Sp.orI .i64 (s+f.2.2.1*256) (f.2.2.2.1*65536)=s+f.2.2.1*256+f.2.2.2.1*65536:=Hl1 16 (by decide) (by omega) (by omega) h3.1 (by omega)
 have e3:Sp.orI .i64 (s+f.2.2.1*256+f.2.2.2.1*65536) (f.2.2.2.2.1*16777216)=s+f.2.2.1*256+f.2.2.2.1*65536+f.2.2.2.2.1*16777216:=Hl1 24 (by decide) (by omega) (by omega) h4.1 (by omega)
 rw[e1,e2,e3,Um0 (by omega) (by omega)]
 omega
theorem Hf1(fr base:List Int)(hv:∀x∈fr,-1099511627776<=x/\x<=1099511627776)(hl:fr.length<=8)(hb:base.length<=3):L_56_0 4611686018427387904 fr fr.length 0 base=some (.e0 (base++Sp.flat fr)):=by
 have h:=run0 (fun m i o=>L_56_0 m fr fr.length i o) (n:=fr.length) (fun j=>base++Sp.flat (fr.take j)) (r:=some (.e0 (base++Sp.flat fr))) (by omega) (fun m j hj=>by
  show L_56_0 (m+1) fr fr.length (j:Int) (base++Sp.flat (fr.take j))=L_56_0 m fr fr.length ((j+1:Nat):Int) (base++Sp.flat (fr.take (j+1)))
  have hlen:(base++Sp.flat (fr.take j)).length<=100:=by
   rw[List.length_append,St0,List.length_take];omega
  have hx:fr.getD j 0=fr[j]:=getD_at 0 hj
  have hvj:=hv fr[j] (List.getElem_mem hj)
  rw[List.take_succ_eq_append_getElem hj,Ca1,L_56_0,S_56_0,Af0 (by omega),Ap0 (by omega) (by omega),Int.toNat_natCast,hx]
  generalize fr[j]=v at *
  rw[<-List.append_assoc]
  generalize base++Sp.flat (fr.take j)=o at *
  rw[Be0 (by omega) (by omega),Be0 (by rw[List.length_append,List.length_singleton];omega) (by rw[List.length_append,List.length_singleton];omega),wi64 (n:=v+1099511627776) (by omega) (by omega),wi64 (n:=(j:Int)+1) (by omega) (by omega),Int.fdiv_eq_ediv_of_nonneg _ (by decide),Gw2 (by omega) (by omega),Um0 (n:=(v+1099511627776)/4294967296) (by omega) (by omega),Um0 (n:=(v+1099511627776)%4294967296) (by omega) (by omega)]
  push_cast
  simp[Sp.flat,List.append_assoc]) (fun m=>by
  show L_56_0 (m+1) fr fr.length fr.length (base++Sp.flat (fr.take fr.length))=_
  rw[L_56_0,S_56_0,Ad0 (by omega),List.take_length])
 simpa[Sp.flat]using h
theorem Wa1(f:FaT):F_56 f=some (bif Sp.good f then(Sp.wpk f,0,())else([],1,())):=by
 cases hg:Sp.good f
 ·
  have hg2:=hg
  unfold Sp.good at hg2
  unfold F_56
  simp only[Zt1,Ai0]
  cases h1:Sp.wi f.1 31
  ·rfl
  cases h2:Sp.wi f.2.2.1 2
  ·rfl
  cases h3:Sp.wi f.2.2.2.1 254
  ·rfl
  cases h4:Sp.wi f.2.2.2.2.1 255
  ·rfl
  cases h5:Sp.wi f.2.2.2.2.2.2.1 1073741824
  ·rfl
  simp only[Bool.not_true,At0]
  by_cases h6:(f.2.2.2.2.2.1.length:Int)>8
  ·rw[Af0 h6]
  rw[h1,h2,h3,h4,h5,decide_eq_true (by omega)]at hg2
  simp only[Bool.true_and]at hg2
  unfold Sp.bvals at hg2
  have hf:=Kq0 (fun m i=>L_56_90_0_0 m f.2.2.2.2.2.1 f.2.2.2.2.2.1.length i f) (n:=f.2.2.2.2.2.1.length) (fun j=> !Sp.bval (f.2.2.2.2.2.1.getD j 0)) (ex:=fun j=>some (.e0 (j:Int) f)) (e1:=some (.e1 f)) (by omega) (fun m j hj=>by
   show L_56_90_0_0 (m+1) f.2.2.2.2.2.1 f.2.2.2.2.2.1.length j f=bif !Sp.bval (f.2.2.2.2.2.1.getD j 0)then some (.e0 (j:Int) f)else L_56_90_0_0 m f.2.2.2.2.2.1 f.2.2.2.2.2.1.length ((j+1:Nat):Int) f
   rw[L_56_90_0_0,S_56_90_0_0,Af0 (by omega),Ap0 (by omega) (by omega),Int.toNat_natCast,(Tv0 _).1,(Tv0 _).2,Ai0,wi64 (by omega) (by omega)]
   push_cast
   rfl) (fun m=>by
   show L_56_90_0_0 (m+1) f.2.2.2.2.2.1 f.2.2.2.2.2.1.length f.2.2.2.2.2.1.length f=_
   rw[L_56_90_0_0,S_56_90_0_0,Ad0 (by omega)])
  rw[Ad0 h6,hf]
  cases hk:fnd (fun j=> !Sp.bval (f.2.2.2.2.2.1.getD j 0)) f.2.2.2.2.2.1.length 0 with
  |none=>rw[hk]at hg2;cases hg2
  |some k=>
   simp only[B_56_90_0_0]
   rw[Af0 (by omega)]
 ·obtain⟨h1,h2,h3,h4,h5,h6,h7⟩:=Di0.1 hg
  unfold F_56
  simp only[Zt1,Ai0]
  rw[Qs0.2 h1,Qs0.2 h2,Qs0.2 h3,Qs0.2 h4,Qs0.2 h5]
  simp only[Bool.not_true,At0]
  have hf:=run0 (fun m i(_:Unit)=>L_56_90_0_0 m f.2.2.2.2.2.1 f.2.2.2.2.2.1.length i f) (n:=f.2.2.2.2.2.1.length) (fun _=>()) (r:=some (.e1 f)) (by omega) (fun m j hj=>by
   show L_56_90_0_0 (m+1) f.2.2.2.2.2.1 f.2.2.2.2.2.1.length j f=L_56_90_0_0 m f.2.2.2.2.2.1 f.2.2.2.2.2.1.length ((j+1:Nat):Int) f
   have hvj:=h7 f.2.2.2.2.2.1[j] (List.getElem_mem hj)
   rw[L_56_90_0_0,S_56_90_0_0,Af0 (by omega),Ap0 (by omega) (by omega),Int.toNat_natCast,(Tv0 _).1,(Tv0 _).2,Ai0,getD_at 0 hj,wi64 (by omega) (by omega)]
   have hv:Sp.bval f.2.2.2.2.2.1[j]=true:=by simp[Sp.bval,hvj]
   rw[hv]
   push_cast
   rfl) (fun m=>by
   show L_56_90_0_0 (m+1) f.2.2.2.2.2.1 f.2.2.2.2.2.1.length f.2.2.2.2.2.1.length f=_
   rw[L_56_90_0_0,S_56_90_0_0,Ad0 (by omega)])
  have hf':L_56_90_0_0 4611686018427387904 f.2.2.2.2.2.1 f.2.2.2.2.2.1.length 0 f=_:=hf
  rw[Ad0 (by omega),hf']
  simp only[B_56_90_0_0]
  rw[Fk2 hg,Um0 (n:=f.2.2.2.2.2.2.1) (by omega) (by omega),Um0 (n:=(f.2.2.2.2.2.1.length:Int)) (by omega) (by omega),Hf1 _ _ h7 h6 (by simp)]
  rfl
theorem Su0(f:FaT):p_56 f=true/\v_56 f=(bif Sp.good f then(Sp.wpk f,0,())else([],1,())):=Kv2 f (Wa1 f)
set_option maxRecDepth 100000
set_option maxHeartbeats 4000000
noncomputable def Sp.zeroF:FaT:=(0,0,0,0,0,[],0,())
noncomputable def Sp.sto(f:FaT):Bool:=Sp.andI .i64 f.1 6 !=0
theorem Fp1(f:FaT):p_33 f=true/\v_33 f=(Sp.sto f,()):=Lk2 f rfl
section
variable{c:CfT}{f:FaT}{cyc:Int}
end
theorem Kp0(P:Nat->Bool)(n:Nat):(fnd (fun j=> !P j) n 0=none)↔(List.range n).all P=true:=by
 rw[Eh0,List.all_eq_true]
 constructor
 ·intro h x hx
  have:=h x (by omega) (by rw[List.mem_range]at hx;omega)
  simpa using this
 ·intro h i _ hi
  rw[h i (by rw[List.mem_range];omega)]
  rfl
namespace Sp
noncomputable def frm(c:CfT)(l:List Int):Bool:=((l.length:Int)==c.2.2.2.2.2.2.2.1)&&vals l
noncomputable def cfgs(l:List CfT):Bool:=(List.range l.length).all fun j=>cfg (l.getD j Zd0)
noncomputable def rgts(F:FsT):Bool:=(List.range F.2.1.length).all fun j=>rgt (F.1.getD j Zd0) (F.2.1.getD j Zd1) F.2.2.1
noncomputable def vf(F:FsT):Bool:=decide (F.1.length<=64)&&(cfgs F.1&&(dst (F.1.map fun c=>c.1)&&(((F.2.1.length:Int)==F.1.length)&&(inr F.2.2.1 0 1073741824&&((!F.2.2.2.1||decide (F.2.2.1>=1))&&rgts F)))))
end Sp
theorem Nz1(x:Int):p_93 x=true/\v_93 x=(Sp.val x,()):=by
 refine Kb2 x ?_
 unfold F_93
 rw[(Qr0 _ _ _).1,(Qr0 _ _ _).2,Ai0]
 rfl
theorem Fo2(c:CfT)(l:List Int)(h:l.length<4611686018427387904):F_66 c l=some (Sp.frm c l,()):=by
 unfold F_66 Sp.frm
 cases (l.length:Int)==c.2.2.2.2.2.2.2.1
 ·rfl
 have hf:=Kq0 (fun m i=>L_66_90_0_0 m l l.length i c) (n:=l.length) (fun j=> !Sp.val (l.getD j 0)) (ex:=fun j=>some (.e0 (j:Int) c)) (e1:=some (.e1 c)) h (fun m j hj=>by
  show L_66_90_0_0 (m+1) l l.length j c=bif !Sp.val (l.getD j 0)then some (.e0 (j:Int) c)else L_66_90_0_0 m l l.length ((j+1:Nat):Int) c
  rw[L_66_90_0_0,S_66_90_0_0,Af0 (by omega),Ap0 (by omega) (by omega),Int.toNat_natCast,(Nz1 _).1,(Nz1 _).2,Ai0,wi64 (by omega) (by omega)]
  push_cast
  rfl) (fun m=>by
  show L_66_90_0_0 (m+1) l l.length l.length c=_
  rw[L_66_90_0_0,S_66_90_0_0,Ad0 (by omega)])
 rw[hf,Cf0]
 cases hk:fnd (fun j=> !Sp.val (l.getD j 0)) l.length 0 with
 |none=>
  have:Sp.vals l=true:=(Kp0 (fun j=>Sp.val (l.getD j 0)) l.length).1 hk
  rw[this]
  rfl
 |some k=>
  have:Sp.vals l=false:=by
   cases hv:Sp.vals l
   ·rfl
   ·have:=(Kp0 (fun j=>Sp.val (l.getD j 0)) l.length).2 hv
    rw[this]at hk;cases hk
  rw[this]
  simp only[B_66_90_0_0]
  rw[decide_eq_true (by omega)]
  rfl
theorem Jg1(c:CfT)(l:List Int)(h:l.length<4611686018427387904):p_66 c l=true/\v_66 c l=(Sp.frm c l,()):=Kn2 c l (Fo2 c l h)
section
variable{c:CfT}{f:FaT}{cyc:Int}
theorem Fe2(h0:0<=f.1)(h1:f.1<=31):p_68 f=true/\v_68 f=(Sp.bt f 2||Sp.bt f 4,()):=by
 refine Kl2 f ?_
 unfold F_68 Sp.bt
 rw[(Gn2 h0 h1).2.2.2]
theorem bt10(h0:0<=f.1)(h1:f.1<=31):Sp.bt f 10=(Sp.bt f 2&&Sp.bt f 8):=(Gn2 h0 h1).2.2.1
theorem gJ3(h0:0<=f.1)(h1:f.1<=31):J_35_3 c f=some (bif Sp.bt f 2||Sp.bt f 4 then(bif Sp.kno f then .e0 c f else .e1)else .e2 c f):=by
 unfold J_35_3 S_35_3 Sp.kno
 rw[(Fe2 h0 h1).1,(Fe2 h0 h1).2,Ai0]
 cases Sp.bt f 2||Sp.bt f 4<;>try rfl
 cases decide (f.2.2.2.2.1>=1)<;>try rfl
 cases decide (f.2.2.1>=1)<;>try rfl
 cases decide (f.2.2.2.2.2.2.1>=1)<;>rfl
theorem gJ2(h0:0<=f.1)(h1:f.1<=31):J_35_2 c f=some (bif Sp.q2 f then(bif Sp.bt f 2||Sp.bt f 4 then(bif Sp.kno f then .e1 c f else .e0)else .e2 c f)else .e0):=by
 unfold J_35_2 S_35_2 Sp.q2
 simp only[Ol0,Ai0,gJ3 h0 h1]
 cases Sp.bt f 2<;>cases f.2.2.2.1 !=0<;>cases Sp.bt f 4<;>cases Sp.kno f<;>rfl
theorem gJ1(h0:0<=f.1)(h1:f.1<=31):J_35_1 c f=some (bif Sp.q1 c f&&Sp.q2 f then(bif Sp.bt f 2||Sp.bt f 4 then(bif Sp.kno f then .e1 c f else .e0)else .e2 c f)else .e0):=by
 unfold J_35_1 S_35_1 Sp.q1
 simp only[Ol0,Ai0,gJ2 h0 h1]
 cases Sp.bt f 4<;>cases f.2.2.1==2<;>cases Sp.bt f 16<;>cases c.2.2.2.2.2.2.1<;>cases Sp.q2 f<;>cases Sp.bt f 2<;>cases Sp.kno f<;>rfl
theorem gJ0(h0:0<=f.1)(h1:f.1<=31):J_35_0 cyc c f=some (bif Sp.q0 cyc f&&(Sp.q1 c f&&Sp.q2 f)then(bif Sp.bt f 2||Sp.bt f 4 then(bif Sp.kno f then .e1 c f else .e0)else bif Sp.unk f then .e2 f else .e0)else .e0):=by
 unfold J_35_0 S_35_0 Sp.q0 Sp.unk
 simp only[Ol0,Ai0,gJ1 h0 h1,bt10 h0 h1]
 have hz:∀x y:Int,(bif !(x==y)then(some (E_35_0.e0):Option E_35_0)else none)=(bif x !=y then some (E_35_0.e0)else none):=fun _ _=>rfl
 cases e1:f.2.2.1==0<;>cases e2:f.2.2.2.1==0<;>cases e3:f.2.2.2.2.1==0<;>cases e4:f.2.2.2.2.2.2.1==0<;>cases e5:f.2.2.2.2.2.2.1==cyc<;>cases Sp.q1 c f&&Sp.q2 f<;>cases Sp.bt f 1<;>cases Sp.bt f 2<;>cases Sp.bt f 8<;>cases Sp.bt f 4<;>cases Sp.kno f<;>simp only[bne,e1,e2,e3,e4,e5,B_35_1,Bool.not_true,Bool.not_false,cond_true,cond_false,Bool.and_true,Bool.and_false,Bool.true_and,Bool.false_and,Bool.or_true,Bool.or_false,Bool.true_or,Bool.false_or]
theorem Ma1(hc:Sp.cfg c=true)(hfr:f.2.2.2.2.2.1.length<4611686018427387904):F_35 c f cyc=some (Sp.rgt c f cyc,()):=by
 simp only[Sp.cfg,Bool.and_eq_true,Bj0]at hc
 unfold F_35 Sp.rgt Sp.rngs
 simp only[Qr0,Ai0]
 rw[wi64 (n:=0-c.2.2.1) (by omega) (by omega),wi64 (n:=c.2.2.2.2.1-1) (by omega) (by omega)]
 cases h1:Sp.inr f.1 0 31
 ·rfl
 have hb:=Bj0.1 h1
 cases Sp.inr f.2.1 (0-c.2.2.1) c.2.1
 ·rfl
 cases Sp.inr f.2.2.1 0 2
 ·rfl
 cases Sp.inr f.2.2.2.1 0 (c.2.2.2.2.1-1)
 ·rfl
 cases Sp.inr f.2.2.2.2.1 0 255
 ·rfl
 cases Sp.inr f.2.2.2.2.2.2.1 0 cyc
 ·rfl
 simp only[Bool.not_true,At0,Bool.and_true,Bool.true_and]
 simp only[Jg1 _ _ hfr,Ai0,gJ0 hb.1 hb.2]
 unfold Sp.frq Sp.fin Sp.frm
 by_cases hl:f.2.2.2.2.2.1=[]
 ·have hv:Sp.vals f.2.2.2.2.2.1=true:=by rw[hl];rfl
  have hz:((f.2.2.2.2.2.1.length:Int)==0)=true:=by rw[hl];rfl
  rw[Ad0 (by rw[hl];decide),hv,hz]
  cases e1:((f.2.2.2.2.2.1.length:Int)==c.2.2.2.2.2.2.2.1)<;>cases Sp.bt f 2<;>cases Sp.bt f 4<;>cases Sp.q0 cyc f&&(Sp.q1 c f&&Sp.q2 f)<;>cases Sp.kno f<;>cases Sp.unk f<;>simp only[bne,hz,e1,B_35_0,Bool.not_true,Bool.not_false,cond_true,cond_false,Bool.and_true,Bool.and_false,Bool.true_and,Bool.false_and,Bool.or_true,Bool.or_false,Bool.true_or,Bool.false_or]
 ·have hp:0<f.2.2.2.2.2.1.length:=List.length_pos_iff.2 hl
  have hz:((f.2.2.2.2.2.1.length:Int)==0)=false:=beq_eq_false_iff_ne.2 (by omega)
  rw[Af0 (by omega),hz]
  cases e1:((f.2.2.2.2.2.1.length:Int)==c.2.2.2.2.2.2.2.1)<;>cases Sp.vals f.2.2.2.2.2.1<;>cases Sp.bt f 2<;>cases Sp.bt f 4<;>cases Sp.q0 cyc f&&(Sp.q1 c f&&Sp.q2 f)<;>cases Sp.kno f<;>cases Sp.unk f<;>simp only[bne,hz,e1,B_35_0,Bool.not_true,Bool.not_false,cond_true,cond_false,Bool.and_true,Bool.and_false,Bool.true_and,Bool.false_and,Bool.or_true,Bool.or_false,Bool.true_or,Bool.false_or]
theorem Lz1(hc:Sp.cfg c=true)(hfr:f.2.2.2.2.2.1.length<4611686018427387904):p_35 c f cyc=true/\v_35 c f cyc=(Sp.rgt c f cyc,()):=Li2 c f cyc (Ma1 hc hfr)
end
structure Sm(F:FsT):Prop where
 l:F.2.1.length<4611686018427387904
 f:∀j,j<F.2.1.length->(F.2.1.getD j Zd1).2.2.2.2.2.1.length<4611686018427387904
theorem Gt0{l:List CfT}(h:Sp.cfgs l=true){j:Nat}(hj:j<l.length):Sp.cfg (l.getD j Zd0)=true:=by
 unfold Sp.cfgs at h
 rw[List.all_eq_true]at h
 exact h j (by rw[List.mem_range];exact hj)
theorem vJ0{F:FsT}(hs:Sm F)(hc:Sp.cfgs F.1=true)(hl:F.2.1.length=F.1.length):J_10_0 F=some (bif Sp.rgts F then .e1 else .e0):=by
 have:=all0 (fun m i=>L_10_1 m F.2.1 F.2.1.length i F) (n:=F.2.1.length) (fun j=>Sp.rgt (F.1.getD j Zd0) (F.2.1.getD j Zd1) F.2.2.1) (e0:=some .e0) (e1:=some .e1) hs.l (fun m j hj=>by
  show L_10_1 (m+1) F.2.1 F.2.1.length j F=bif Sp.rgt (F.1.getD j Zd0) (F.2.1.getD j Zd1) F.2.2.1 then L_10_1 m F.2.1 F.2.1.length ((j+1:Nat):Int) F else some .e0
  have hr:=Lz1 (cyc:=F.2.2.1) (Gt0 hc (j:=j) (by omega)) (hs.f j hj)
  rw[L_10_1,S_10_1,Af0 (by omega),Ap0 (by omega) (by omega),Ap0 (by omega) (by omega),Int.toNat_natCast,hr.1,hr.2,Ai0,wi64 (by have:=hs.l;omega) (by have:=hs.l;omega)]
  push_cast
  cases Sp.rgt (F.1.getD j Zd0) (F.2.1.getD j Zd1) F.2.2.1<;>rfl) (fun m=>by
  show L_10_1 (m+1) F.2.1 F.2.1.length F.2.1.length F=_
  rw[L_10_1,S_10_1,Ad0 (by omega)])
 unfold J_10_0 S_10_0
 rw[this]
 unfold Sp.rgts
 cases (List.range F.2.1.length).all fun j=>Sp.rgt (F.1.getD j Zd0) (F.2.1.getD j Zd1) F.2.2.1<;>rfl
theorem Ia2{F:FsT}(hs:Sm F):F_10 F=some (Sp.vf F,()):=by
 unfold F_10 Sp.vf
 by_cases h1:(F.1.length:Int)>64
 ·rw[Af0 h1,decide_eq_false (by omega)];rfl
 rw[Ad0 h1,decide_eq_true (p:=F.1.length<=64) (by omega),Bool.true_and]
 have hf:=Kq0 (fun m i=>L_10_53_0_0 m F.1 F.1.length i F) (n:=F.1.length) (fun j=> !Sp.cfg (F.1.getD j Zd0)) (ex:=fun j=>some (.e0 (j:Int) F)) (e1:=some (.e1 F)) (by omega) (fun m j hj=>by
  show L_10_53_0_0 (m+1) F.1 F.1.length j F=bif !Sp.cfg (F.1.getD j Zd0)then some (.e0 (j:Int) F)else L_10_53_0_0 m F.1 F.1.length ((j+1:Nat):Int) F
  rw[L_10_53_0_0,S_10_53_0_0,Af0 (by omega),Ap0 (by omega) (by omega),Int.toNat_natCast,(Cj1 _).1,(Cj1 _).2,Ai0,wi64 (by omega) (by omega)]
  push_cast
  rfl) (fun m=>by
  show L_10_53_0_0 (m+1) F.1 F.1.length F.1.length F=_
  rw[L_10_53_0_0,S_10_53_0_0,Ad0 (by omega)])
 rw[hf]
 cases hk:fnd (fun j=> !Sp.cfg (F.1.getD j Zd0)) F.1.length 0 with
 |some k=>
  have:Sp.cfgs F.1=false:=by
   cases hv:Sp.cfgs F.1
   ·rfl
   ·have:=(Kp0 (fun j=>Sp.cfg (F.1.getD j Zd0)) F.1.length).2 hv
    rw[this]at hk;cases hk
  rw[this]
  simp only[B_10_53_0_0]
  rw[Af0 (by omega)]
  rfl
 |none=>
  have hc:Sp.cfgs F.1=true:=(Kp0 (fun j=>Sp.cfg (F.1.getD j Zd0)) F.1.length).1 hk
  rw[hc]
  simp only[B_10_53_0_0,Bool.true_and]
  have em:(List.map (fun(y:Ty.den CfgTy)=>Prod.fst y) F.1)=(F.1.map fun c=>c.1):=rfl
  rw[em]
  cases Sp.dst (F.1.map fun c=>c.1)
  ·rfl
  simp only[Bool.not_true,At0,Bool.true_and]
  by_cases hl:(F.2.1.length:Int)=(F.1.length:Int)
  rotate_left
  ·rw[Bh0 hl,beq_eq_false_iff_ne.2 hl];rfl
  rw[Ar0 hl,beq_iff_eq.2 hl,Bool.true_and,(Qr0 _ _ _).1,(Qr0 _ _ _).2,Ai0]
  cases Sp.inr F.2.2.1 0 1073741824
  ·rfl
  simp only[Bool.not_true,At0,Bool.true_and]
  rw[vJ0 hs hc (by omega)]
  cases F.2.2.2.1
  ·cases Sp.rgts F<;>rfl
  ·by_cases hy:F.2.2.1<1
   ·rw[Cf0,Af0 hy,decide_eq_false (by omega)]
    rfl
   ·rw[Cf0,Ad0 hy,decide_eq_true (p:=F.2.2.1>=1) (by omega)]
    cases Sp.rgts F<;>rfl
theorem Mh0{F:FsT}(hs:Sm F):p_10 F=true/\v_10 F=(Sp.vf F,()):=Mb2 F (Ia2 hs)
set_option maxRecDepth 100000
set_option maxHeartbeats 4000000
namespace Sp
noncomputable def codesL(l:List CfT):List Int:=l.map fun c=>c.1
noncomputable def rcc(l:List CfT):Int:=bif decide (l.length<=64)then(bif cfgs l then(bif dst (codesL l)then 0 else 8)else 1)else 5
noncomputable def newF(l:List CfT):FsT×Int×Unit:=bif rcc l==0 then((l,replicate l.length Zd1,0,false,()),0,())else(([],[],0,false,()),rcc l,())
end Sp
set_option maxRecDepth 100000
set_option maxHeartbeats 4000000
namespace Sp
noncomputable def sw(a b:List Int):Bool:=bif(a.length:Int)!=(b.length:Int)then false else(fnd (fun j=>a.getD j 0 !=b.getD j 0) a.length 0).isNone
noncomputable def dat(F:FsT)(key:Int):List Int:=if key=254 then [wrap .u32 F.2.2.1]else if sto (F.2.1.getD key.toNat Zd1)=true then [wrap .u32 (F.1.getD key.toNat Zd0).1]++wpk (F.2.1.getD key.toNat Zd1)else []
noncomputable def utd(m:MeT)(key:Int)(d:List Int):Bool:=bif(rdk m key).2.1 !=0 then(bif(d.length:Int)==0 then true else bif key==254 then d.getD 0 0==0 else false)else sw (rdk m key).1 d
end Sp
theorem Wn1{c:CfT}{f:FaT}{cy:Int}(hc:Sp.cfg c=true)(h:Sp.rgt c f cy=true)(h1:cy<=1073741824):Sp.good f=true:=by
 unfold Sp.rgt Sp.rngs Sp.frq at h
 unfold Sp.cfg at hc
 simp only[Bool.and_eq_true,Bj0]at h hc
 obtain⟨⟨r1,r2,r3,r4,r5,r6⟩,⟨q1,q2⟩,_⟩:=h
 have l8:f.2.2.2.2.2.1.length<=8:=by
  simp only[Bool.or_eq_true,beq_iff_eq]at q1
  rcases q1 with z|z<;>omega
 refine Di0.2 ⟨r1,r3,⟨r4.1,by omega⟩,r5,⟨r6.1,by omega⟩,l8,fun x hx=> ?_⟩
 unfold Sp.vals at q2
 rw[List.all_eq_true]at q2
 obtain⟨j,hj,rfl⟩:=List.mem_iff_getElem.1 hx
 have:=q2 j (List.mem_range.2 hj)
 rw[getD_at 0 hj]at this
 exact Bj0.1 this
theorem vf_d{F:FsT}(h:Sp.vf F=true):F.1.length<=64/\Sp.cfgs F.1=true/\F.2.1.length=F.1.length/\0<=F.2.2.1/\F.2.2.1<=1073741824/\Sp.rgts F=true:=by
 unfold Sp.vf at h
 simp only[Bool.and_eq_true,Bj0,decide_eq_true_eq,beq_iff_eq]at h
 obtain⟨a,b,c,d,e,f,g⟩:=h
 exact⟨a,b,by omega,e.1,e.2,g⟩
theorem Kf0{F:FsT}(h:Sp.vf F=true){j:Nat}(hj:j<F.2.1.length):Sp.good (F.2.1.getD j Zd1)=true:=by
 obtain⟨a,b,c,d,e,g⟩:=vf_d h
 unfold Sp.rgts at g
 rw[List.all_eq_true]at g
 exact Wn1 (Gt0 b (by omega)) (g j (List.mem_range.2 hj)) e
theorem Nv1(n:Int):0<=wrap .u32 n/\wrap .u32 n<4294967296:=by
 rw[Up1];omega
theorem Qf1:∀ {l:List Int},(∀x∈l,-1099511627776<=x/\x<=1099511627776)->∀x∈Sp.flat l,0<=x/\x<4294967296
 |[],_,x,hx=>absurd hx (List.not_mem_nil)
 |a::l,h,x,hx=>by
  have ha:=h a (List.mem_cons_self ..)
  rw[Sp.flat]at hx
  simp only[List.mem_cons]at hx
  rcases hx with rfl|rfl|hx
  ·constructor<;>omega
  ·constructor<;>omega
  ·exact Qf1 (fun y hy=>h y (List.mem_cons_of_mem _ hy)) x hx
theorem Un1{f:FaT}(h:Sp.good f=true):W32l (Sp.wpk f)/\(Sp.wpk f).length=3+2*f.2.2.2.2.2.1.length:=by
 obtain⟨g1,g2,g3,g4,g5,g6,g7⟩:=Di0.1 h
 have s:=Dm1 g1.1 g1.2
 have fl:=St0 f.2.2.2.2.2.1
 unfold Sp.wpk
 refine⟨fun x hx=> ?_,by rw[List.length_append,fl];rfl⟩
 rcases List.mem_append.1 hx with z|z
 ·unfold Sp.hdr at z
  simp only[List.mem_cons,List.not_mem_nil,or_false]at z
  rcases z with rfl|rfl|rfl
  ·constructor<;>omega
  ·constructor<;>omega
  ·constructor<;>omega
 ·exact Qf1 g7 x z
theorem Jm1{F:FsT}(hv:Sp.vf F=true){key:Int}(hk:key=254\/0<=key/\key<(F.2.1.length:Int)):W32l (Sp.dat F key)/\(Sp.dat F key).length<=20:=by
 unfold Sp.dat
 split
 ·exact⟨fun x hx=>by rw[List.mem_singleton.1 hx];exact Nv1 _,by show 1<=20;decide⟩
 ·split
  ·rename_i h1 h2
   have g:=Kf0 hv (j:=key.toNat) (by omega)
   have w:=Un1 g
   have l8:=(Di0.1 g).2.2.2.2.2.1
   refine⟨fun x hx=> ?_,by rw[List.length_append,w.2];simp only[List.length_cons,List.length_nil];omega⟩
   rcases List.mem_append.1 hx with z|z
   ·rw[List.mem_singleton.1 z];exact Nv1 _
   ·exact w.1 x z
  ·exact⟨fun x hx=>absurd hx (List.not_mem_nil),by decide⟩
theorem Ib2(a b:List Int)(ha:a.length<=1000000)(hb:b.length<=1000000):p_57 a b=true/\v_57 a b=(Sp.sw a b,()):=by
 refine Ku2 a b ?_
 unfold F_57 Sp.sw
 by_cases c:(a.length:Int)=(b.length:Int)
 rotate_left
 ·rw[Bh0 c,Bh0 c]
 rw[Ar0 c,Ar0 c]
 have hf:=Kq0 (fun q i=>L_57_0 q a b a.length i) (n:=a.length) (fun j=>a.getD j 0 !=b.getD j 0) (ex:=fun _=>some .e0) (e1:=some .e1) (by omega) (fun q j hj=>by
  show L_57_0 (q+1) a b a.length (j:Int)=bif a.getD j 0 !=b.getD j 0 then some .e0 else L_57_0 q a b a.length ((j+1:Nat):Int)
  rw[L_57_0,S_57_0,Af0 (by omega),Ap0 (by omega) (by omega),Int.toNat_natCast,Ap0 (by omega) (by omega),wi64 (by omega) (by omega)]
  push_cast
  rfl) (fun q=>by
  show L_57_0 (q+1) a b a.length (a.length:Int)=_
  rw[L_57_0,S_57_0,Ad0 (by omega)])
 refine(congrArg (fun z=>B_57_0 z _ _) hf).trans ?_
 cases fnd (fun j=>a.getD j 0 !=b.getD j 0) a.length 0<;>rfl
theorem Fk1{m:MeT}(hw:W32f m.1){key:Int}{d:List Int}(hd:d.length<=1000):p_24 m key d=true/\v_24 m key d=(Sp.utd m key d,()):=by
 have r:=Gv1 hw key
 have b:=Gw1 hw key
 have s:=Ib2 (Sp.rdk m key).1 d (by omega) (by omega)
 refine Lu2 m key d ?_
 unfold F_24 Sp.utd
 rw[r.1,r.2,Ai0]
 by_cases e:(Sp.rdk m key).2.1=0
 ·rw[Ar0 e,Ar0 e,s.1,s.2,Ai0]
 ·rw[Bh0 e,Bh0 e]
  by_cases l:(d.length:Int)=0
  ·rw[Aw0 l,Aw0 l]
  ·rw[Ax0 l,Ax0 l]
   by_cases k:key=254
   ·rw[Aw0 k,Aw0 k,Ap0 (by omega) (by omega)]
   ·rw[Ax0 k,Ax0 k]
set_option maxRecDepth 100000
set_option maxHeartbeats 4000000
namespace Sp
noncomputable def svl(F:FsT):Nat->Nat->MeT->PwT->OuM
 |0,_,m,p=>(m,p,0,())
 |d+1,i,m,p=>if utd m i (dat F i)=true then svl F d (i+1) m p else if(wrv m i (dat F i) p).2.2.1=0 then svl F d (i+1) (wrv m i (dat F i) p).1 (wrv m i (dat F i) p).2.1 else wrv m i (dat F i) p
noncomputable def svw(F:FsT)(m:MeT)(p:PwT):OuM:=if utd m 254 (dat F 254)=true then svl F F.2.1.length 0 m p else if(wrv m 254 (dat F 254) p).2.2.1=0 then svl F F.2.1.length 0 (wrv m 254 (dat F 254) p).1 (wrv m 254 (dat F 254) p).2.1 else wrv m 254 (dat F 254) p
noncomputable def svv(m:MeT)(F:FsT)(p:PwT):OuM:=if mvl m=true/\vf F=true/\pok p=true then svw F m p else(zM,(0,0,()),1,())
end Sp
structure MG(m:MeT)(p:PwT):Prop where
 w:W32f m.1
 v:Sp.mvl m=true
 p0:0<=p.1
 p1:p.1<=1099511627776
theorem MG.pok{m:MeT}{p:PwT}(g:MG m p):Sp.pok p=true:=by
 unfold Sp.pok
 rw[decide_eq_true g.p0,decide_eq_true g.p1];rfl
theorem Zo1{m:MeT}{p:PwT}(g:MG m p){key:Int}{d:List Int}(k0:0<=key)(k1:key<=254)(k2:d.length<=24)(hd:W32l d):((Sp.wrs m key d).2.1≠0->Sp.wrv m key d p=(Sp.zM,(0,0,()),(Sp.wrs m key d).2.1,()))/\((Sp.wrs m key d).2.1=0->Sp.wrv m key d p=Sp.rdo m (Sp.wrs m key d).1 p/\SG m.1 (Sp.dol (Sp.wrs m key d).1 (m.1,p,0,()))):=by
 unfold Sp.wrv
 rw[if_pos ⟨g.v,g.pok⟩,if_pos ⟨k0,k1,k2⟩]
 refine⟨fun c=>by rw[if_neg c],fun c=> ?_⟩
 have s:=(Uo0 g.w g.v c).2 p g.p0 g.p1
 rw[if_pos c]
 refine⟨?_,s⟩
 unfold Sp.dov Sp.rdo
 rw[if_pos s.e]
theorem Fg1{m:MeT}{p:PwT}(g:MG m p){key:Int}{d:List Int}(k0:0<=key)(k1:key<=254)(k2:d.length<=24)(hd:W32l d)(e:(Sp.wrv m key d p).2.2.1=0):MG (Sp.wrv m key d p).1 (Sp.wrv m key d p).2.1:=by
 have r:=Zo1 g k0 k1 k2 hd
 by_cases c:(Sp.wrs m key d).2.1=0
 rotate_left
 ·rw[r.1 c]at e;exact absurd e c
 rw[(r.2 c).1]at e⊢
 have o:=Hy2 g.w g.v k0 k1 k2 hd g.p0 g.p1 c _ rfl e
 exact⟨o.1.w,o.2,o.1.p0,o.1.p1⟩
theorem bj1{R:Type}{m:MeT}{p:PwT}(hw:W32f m.1){key:Int}{d:List Int}(k2:d.length<=24)(hd:W32l d)(p1 p2 p3 p5 p7 p8 p9 p10 p11 p12 p13 k0 k1 kk):(B_7_55_1_1 (J_7_55_1_1 key p1 p2 p3 m p5 p p7 p8 p9 p10 p11 p12 p13 d) k0 k1 kk:Option R)=if Sp.utd m key d=true then k0 key p1 p2 p3 m p5 p p7 p8 p9 p10 p11 p12 p13 d else if(Sp.wrv m key d p).2.2.1=0 then kk key p1 p2 p3 m p5 p p7 p8 p9 p10 p11 p12 p13 d else k1 key m p5 p p11 p12 p13 d:=by
 have u:=Fk1 hw (key:=key) (d:=d) (by omega)
 have w:=Un0 hw (key:=key) hd p
 unfold J_7_55_1_1 S_7_55_1_1
 rw[u.1,u.2,Ai0]
 dsimp only
 cases Sp.utd m key d
 ·rw[At0,w.1,w.2,Ai0,if_neg Bool.false_ne_true]
  by_cases e:(Sp.wrv m key d p).2.2.1=0
  ·rw[Ar0 e,if_pos e];rfl
  ·rw[Bh0 e,if_neg e];rfl
 ·rfl
theorem bj0{R:Type}{w r:List Int}{l:Int×Unit}{fc p:PwT}(hw:W32f (w,r,l)){key:Int}{d:List Int}(k2:d.length<=24)(hd:W32l d)(p1 p2 p3 p6 p8 p9 p10 p11 p14 k0 k1 kk):(B_7_55_1_0 (J_7_55_1_0 key p1 p2 p3 l fc p6 p p8 p9 p10 p11 w r p14 d) k0 k1 kk:Option R)=if Sp.utd ((w,r,l),fc) key d=true then k0 key p1 p2 p3 l fc p6 p p8 p9 p10 p11 w r p14 d else if(Sp.wrv ((w,r,l),fc) key d p).2.2.1=0 then kk key p1 p2 p3 l fc p6 p p8 p9 p10 p11 w r p14 d else k1 key l fc p6 p w r p14 d:=by
 have u:=Fk1 (m:=((w,r,l),fc)) hw (key:=key) (d:=d) (by omega)
 have wv:=Un0 (m:=((w,r,l),fc)) hw (key:=key) hd p
 unfold J_7_55_1_0 S_7_55_1_0
 rw[u.1,u.2,Ai0]
 dsimp only
 cases Sp.utd ((w,r,l),fc) key d
 ·rw[At0,wv.1,wv.2,Ai0,if_neg Bool.false_ne_true]
  by_cases e:(Sp.wrv ((w,r,l),fc) key d p).2.2.1=0
  ·rw[Ar0 e,if_pos e];rfl
  ·rw[Bh0 e,if_neg e];rfl
 ·rfl
theorem Ex1{F:FsT}{i:Nat}(hi:i<=64):Sp.dat F i=if Sp.sto (F.2.1.getD i Zd1)=true then [wrap .u32 (F.1.getD i Zd0).1]++Sp.wpk (F.2.1.getD i Zd1)else []:=by
 unfold Sp.dat
 rw[if_neg (by omega),Int.toNat_natCast]
theorem sv1{F:FsT}(hv:Sp.vf F=true)(F4:FsT)(p6:Int×Unit)(p7 p8:PwT)(p9:Int)(p10 p11:List Int):∀(d q i:Nat)(m:MeT)(p:PwT),MG m p->i+d=F.2.1.length->d<q->
 B_7_55_0_1 (L_7_55_0_1 q F.2.1 F.2.1.length i m F4 p p6 p7 p8 p9 p10 p11 F) (fun(y80:Int)(y81:MeT)(y82:FsT)(y83:PwT)(y84 y85:List Int)(y86:FsT)(y87:List Int)=>some ((v_25 y81 y80 y87 y83).1,(v_25 y81 y80 y87 y83).2.1,(v_25 y81 y80 y87 y83).2.2.1,())) (fun(y88:MeT)(y89:FsT)(y90:PwT)(y91:Int×Unit)(y92 y93:PwT)(y94:Int)(y95 y96:List Int)(y97:FsT)=>some (y88,y90,0,()))=some (Sp.svl F d i m p)
 |0,q,i,m,p,g,hi,hq=>by
  obtain⟨q,rfl⟩:∃k,q=k+1:=⟨q-1,by omega⟩
  rw[L_7_55_0_1,S_7_55_0_1,Ad0 (by omega)];rfl
 |d+1,q,i,m,p,g,hi,hq=>by
  obtain⟨q,rfl⟩:∃k,q=k+1:=⟨q-1,by omega⟩
  have ih:=fun(m':MeT)(p':PwT)(g':MG m' p')=>sv1 hv F4 p6 p7 p8 p9 p10 p11 d q (i+1) m' p' g' (by omega) (by omega)
  have vd:=vf_d hv
  have st:=Fp1 (F.2.1.getD i Zd1)
  have gg:=Kf0 hv (j:=i) (by omega)
  have pk:=Su0 (F.2.1.getD i Zd1)
  rw[gg,Cf0]at pk
  have pw:=Un1 gg
  have l8:=(Di0.1 gg).2.2.2.2.2.1
  have db:=Jm1 hv (key:=(i:Int)) (.inr ⟨by omega,by omega⟩)
  have ei:wrap .i64 ((i:Int)+1)=((i+1:Nat):Int):=by rw[wi64 (by omega) (by omega)];push_cast;rfl
  have ed:=Ex1 (F:=F) (i:=i) (by omega)
  have wv:=Un0 g.w (key:=(i:Int)) db.1 p
  have fin:∀D,D=Sp.dat F i->B_7_55_0_1 (B_7_55_1_1 (J_7_55_1_1 (i:Int) F.2.1 F.2.1.length i m F4 p p6 p7 p8 p9 p10 p11 F D) (fun(y76:Int)(y77:List FaT)(y78 y79:Int)(y80:MeT)(y81:FsT)(y82:PwT)(y83:Int×Unit)(y84 y85:PwT)(y86:Int)(y87 y88:List Int)(y89:FsT)(y90:List Int)=>L_7_55_0_1 q y77 y78 (wrap .i64 (y79+1)) y80 y81 y82 y83 y84 y85 y86 y87 y88 y89) (fun(y91:Int)(y92:MeT)(y93:FsT)(y94:PwT)(y95 y96:List Int)(y97:FsT)(y98:List Int)=>some (.e0 y91 y92 y93 y94 y95 y96 y97 y98)) fun(y99:Int)(y100:List FaT)(y101 y102:Int)(y103:MeT)(y104:FsT)(y105:PwT)(y106:Int×Unit)(y107 y108:PwT)(y109:Int)(y110 y111:List Int)(y112:FsT)(y113:List Int)=>L_7_55_0_1 q y100 y101 (wrap .i64 (y102+1)) (v_25 y103 y99 y113 y105).1 y104 (v_25 y103 y99 y113 y105).2.1 y106 y107 y108 y109 y110 y111 y112) (fun(y80:Int)(y81:MeT)(y82:FsT)(y83:PwT)(y84 y85:List Int)(y86:FsT)(y87:List Int)=>some ((v_25 y81 y80 y87 y83).1,(v_25 y81 y80 y87 y83).2.1,(v_25 y81 y80 y87 y83).2.2.1,())) (fun(y88:MeT)(y89:FsT)(y90:PwT)(y91:Int×Unit)(y92 y93:PwT)(y94:Int)(y95 y96:List Int)(y97:FsT)=>some (y88,y90,0,()))=some (Sp.svl F (d+1) i m p):=by
   rintro D rfl
   rw[bj1 g.w (by omega) db.1,Sp.svl]
   by_cases u:Sp.utd m i (Sp.dat F i)=true
   ·rw[if_pos u,if_pos u,ei]
    exact ih m p g
   ·rw[if_neg u,if_neg u]
    by_cases e:(Sp.wrv m i (Sp.dat F i) p).2.2.1=0
    ·rw[if_pos e,if_pos e,ei,wv.2]
     exact ih _ _ (Fg1 g (by omega) (by omega) (by omega) db.1 e)
    ·rw[if_neg e,if_neg e]
     show some ((v_25 m i (Sp.dat F i) p).1,(v_25 m i (Sp.dat F i) p).2.1,(v_25 m i (Sp.dat F i) p).2.2.1,())=_
     rw[wv.2]
  rw[L_7_55_0_1,S_7_55_0_1,Af0 (by omega),Ap0 (by omega) (by omega),Int.toNat_natCast,st.1,st.2,Ai0]
  dsimp only
  cases hs:Sp.sto (F.2.1.getD i Zd1)
  ·rw[hs,if_neg Bool.false_ne_true]at ed
   rw[At0]
   exact fin [] ed.symm
  ·rw[hs,if_pos rfl]at ed
   rw[Cf0,pk.1,pk.2,Ai0,Ap0 (by omega) (by omega),Be0 (by dsimp only;omega) (by dsimp only;omega)]
   exact fin _ ed.symm
theorem bb01{R:Type}(x:Option E_7_55_0_1)(k0 k1 k2 k3):(B_7_55_0_0 (B_7_55_0_1 x (fun(y91:Int)(y92:MeT)(y93:FsT)(y94:PwT)(y95 y96:List Int)(y97:FsT)(y98:List Int)=>some (E_7_55_0_0.e2 y91 y92 y93 y94 y95 y96 y97 y98)) (fun(p3:MeT)(p4:FsT)(p5:PwT)(p6:Int×Unit)(p7 p8:PwT)(p9:Int)(p10 p11:List Int)(p12:FsT)=>some (E_7_55_0_0.e3 p3 p4 p5 p6 p7 p8 p9 p10 p11 p12))) k0 k1 k2 k3:Option R)=B_7_55_0_1 x k2 k3:=by
 cases x with
 |none=>rfl
 |some x=>cases x<;>rfl
theorem sv0{F:FsT}(hv:Sp.vf F=true)(F4:FsT)(z6:Int×Unit)(z7 z8:PwT)(z9:Int){w r:List Int}{l:Int×Unit}{fc p:PwT}(g:MG ((w,r,l),fc) p):∀(d q i:Nat),i+d=F.2.1.length->d+1<q->
 B_7_55_0_0 (L_7_55_0_0 q F.2.1 F.2.1.length i l fc F4 p z6 z7 z8 z9 w r F) (fun(y60:Int)(y61:Int×Unit)(y62:PwT)(y63:FsT)(y64:PwT)(y65 y66:List Int)(y67:FsT)(y68:List Int)=>some ((v_25 ((y65,y66,y61),y62) y60 y68 y64).1,(v_25 ((y65,y66,y61),y62) y60 y68 y64).2.1,(v_25 ((y65,y66,y61),y62) y60 y68 y64).2.2.1,())) (fun(y69:Int×Unit)(y70:PwT)(y71:FsT)(y72:PwT)(y73:Int×Unit)(y74 y75:PwT)(y76:Int)(y77 y78:List Int)(y79:FsT)=>some (((y77,y78,y69),y70),y72,0,())) (fun(y80:Int)(y81:MeT)(y82:FsT)(y83:PwT)(y84 y85:List Int)(y86:FsT)(y87:List Int)=>some ((v_25 y81 y80 y87 y83).1,(v_25 y81 y80 y87 y83).2.1,(v_25 y81 y80 y87 y83).2.2.1,())) (fun(y88:MeT)(y89:FsT)(y90:PwT)(y91:Int×Unit)(y92 y93:PwT)(y94:Int)(y95 y96:List Int)(y97:FsT)=>some (y88,y90,0,()))=some (Sp.svl F d i ((w,r,l),fc) p)
 |0,q,i,hi,hq=>by
  obtain⟨q,rfl⟩:∃k,q=k+1:=⟨q-1,by omega⟩
  rw[L_7_55_0_0,S_7_55_0_0,Ad0 (by omega)];rfl
 |d+1,q,i,hi,hq=>by
  obtain⟨q,rfl⟩:∃k,q=k+1:=⟨q-1,by omega⟩
  have ih:=sv0 hv F4 z6 z7 z8 z9 g d q (i+1) (by omega) (by omega)
  have vd:=vf_d hv
  have st:=Fp1 (F.2.1.getD i Zd1)
  have gg:=Kf0 hv (j:=i) (by omega)
  have pk:=Su0 (F.2.1.getD i Zd1)
  rw[gg,Cf0]at pk
  have pw:=Un1 gg
  have l8:=(Di0.1 gg).2.2.2.2.2.1
  have db:=Jm1 hv (key:=(i:Int)) (.inr ⟨by omega,by omega⟩)
  have ei:wrap .i64 ((i:Int)+1)=((i+1:Nat):Int):=by rw[wi64 (by omega) (by omega)];push_cast;rfl
  have ed:=Ex1 (F:=F) (i:=i) (by omega)
  have wv:=Un0 (m:=((w,r,l),fc)) g.w (key:=(i:Int)) db.1 p
  have fin:∀D,D=Sp.dat F i->B_7_55_0_0 (B_7_55_1_0 (J_7_55_1_0 (i:Int) F.2.1 F.2.1.length i l fc F4 p z6 z7 z8 z9 w r F D) (fun(y82:Int)(y83:List FaT)(y84 y85:Int)(y86:Int×Unit)(y87:PwT)(y88:FsT)(y89:PwT)(y90:Int×Unit)(y91 y92:PwT)(y93:Int)(y94 y95:List Int)(y96:FsT)(y97:List Int)=>L_7_55_0_0 q y83 y84 (wrap .i64 (y85+1)) y86 y87 y88 y89 y90 y91 y92 y93 y94 y95 y96) (fun(y98:Int)(y99:Int×Unit)(y100:PwT)(y101:FsT)(y102:PwT)(y103 y104:List Int)(y105:FsT)(y106:List Int)=>some (.e0 y98 y99 y100 y101 y102 y103 y104 y105 y106)) fun(y107:Int)(y108:List FaT)(y109 y110:Int)(y111:Int×Unit)(y112:PwT)(y113:FsT)(y114:PwT)(y115:Int×Unit)(y116 y117:PwT)(y118:Int)(y119 y120:List Int)(y121:FsT)(y122:List Int)=>(fun q0 q1 q2 q3 q4 q5 q6 q7 q8 q9 q10 q11 q12=>B_7_55_0_1 (L_7_55_0_1 q q0 q1 q2 q3 q4 q5 q6 q7 q8 q9 q10 q11 q12) (fun(y91:Int)(y92:MeT)(y93:FsT)(y94:PwT)(y95 y96:List Int)(y97:FsT)(y98:List Int)=>some (E_7_55_0_0.e2 y91 y92 y93 y94 y95 y96 y97 y98)) (fun(p3:MeT)(p4:FsT)(p5:PwT)(p6:Int×Unit)(p7 p8:PwT)(p9:Int)(p10 p11:List Int)(p12:FsT)=>some (E_7_55_0_0.e3 p3 p4 p5 p6 p7 p8 p9 p10 p11 p12))) y108 y109 (wrap .i64 (y110+1)) (v_25 ((y119,y120,y111),y112) y107 y122 y114).1 y113 (v_25 ((y119,y120,y111),y112) y107 y122 y114).2.1 y115 y116 y117 y118 y119 y120 y121) (fun(y60:Int)(y61:Int×Unit)(y62:PwT)(y63:FsT)(y64:PwT)(y65 y66:List Int)(y67:FsT)(y68:List Int)=>some ((v_25 ((y65,y66,y61),y62) y60 y68 y64).1,(v_25 ((y65,y66,y61),y62) y60 y68 y64).2.1,(v_25 ((y65,y66,y61),y62) y60 y68 y64).2.2.1,())) (fun(y69:Int×Unit)(y70:PwT)(y71:FsT)(y72:PwT)(y73:Int×Unit)(y74 y75:PwT)(y76:Int)(y77 y78:List Int)(y79:FsT)=>some (((y77,y78,y69),y70),y72,0,())) (fun(y80:Int)(y81:MeT)(y82:FsT)(y83:PwT)(y84 y85:List Int)(y86:FsT)(y87:List Int)=>some ((v_25 y81 y80 y87 y83).1,(v_25 y81 y80 y87 y83).2.1,(v_25 y81 y80 y87 y83).2.2.1,())) (fun(y88:MeT)(y89:FsT)(y90:PwT)(y91:Int×Unit)(y92 y93:PwT)(y94:Int)(y95 y96:List Int)(y97:FsT)=>some (y88,y90,0,()))=some (Sp.svl F (d+1) i ((w,r,l),fc) p):=by
   rintro D rfl
   rw[bj0 g.w (by omega) db.1,Sp.svl]
   by_cases u:Sp.utd ((w,r,l),fc) i (Sp.dat F i)=true
   ·rw[if_pos u,if_pos u,ei]
    exact ih
   ·rw[if_neg u,if_neg u]
    by_cases e:(Sp.wrv ((w,r,l),fc) i (Sp.dat F i) p).2.2.1=0
    ·rw[if_pos e,if_pos e,ei,wv.2]
     dsimp only
     rw[bb01]
     exact sv1 hv F4 z6 z7 z8 z9 w r d q (i+1) _ _ (Fg1 g (by omega) (by omega) (by omega) db.1 e) (by omega) (by omega)
    ·rw[if_neg e,if_neg e]
     show some ((v_25 ((w,r,l),fc) i (Sp.dat F i) p).1,(v_25 ((w,r,l),fc) i (Sp.dat F i) p).2.1,(v_25 ((w,r,l),fc) i (Sp.dat F i) p).2.2.1,())=_
     rw[wv.2]
  rw[L_7_55_0_0,S_7_55_0_0,Af0 (by omega),Ap0 (by omega) (by omega),Int.toNat_natCast,st.1,st.2,Ai0]
  dsimp only
  cases hs:Sp.sto (F.2.1.getD i Zd1)
  ·rw[hs,if_neg Bool.false_ne_true]at ed
   rw[At0]
   exact fin [] ed.symm
  ·rw[hs,if_pos rfl]at ed
   rw[Cf0,pk.1,pk.2,Ai0,Ap0 (by omega) (by omega),Be0 (by dsimp only;omega) (by dsimp only;omega)]
   exact fin _ ed.symm
theorem Vg1{m:MeT}{F:FsT}(hw:W32f m.1)(sm:Sm F)(p:PwT):p_7 m F p=true/\v_7 m F p=Sp.svv m F p:=by
 have v:=Br1 hw
 have f:=Mh0 sm
 refine pv_7 m F p ?_
 unfold F_7 Sp.svv
 rw[v.1,v.2,Ai0]
 dsimp only
 cases hm:Sp.mvl m
 ·rw[Bool.not_false,Cf0,if_neg (fun z=>Bool.noConfusion z.1)];rfl
 rw[Bool.not_true,At0,f.1,f.2,Ai0]
 dsimp only
 cases hf:Sp.vf F
 ·rw[Bool.not_false,Cf0,if_neg (fun z=>Bool.noConfusion z.2.1)];rfl
 rw[Bool.not_true,At0]
 by_cases h0:p.1<0
 ·rw[Af0 h0,if_neg (fun z=>by have:=z.2.2;unfold Sp.pok at this;simp at this;omega)];rfl
 by_cases h1:p.1>1099511627776
 ·rw[Ad0 h0,Af0 h1,if_neg (fun z=>by have:=z.2.2;unfold Sp.pok at this;simp at this;omega)];rfl
 have g:MG m p:=⟨hw,hm,by omega,by omega⟩
 have vd:=vf_d hf
 have fl:=Dr0.1 (Gk0 hm).1
 have db:=Jm1 hf (key:=254) (.inl rfl)
 have d0:Sp.dat F 254=[wrap .u32 F.2.2.1]:=by unfold Sp.dat;rw[if_pos rfl]
 have em:((m.1.1,m.1.2.1,m.1.2.2),m.2)=m:=rfl
 have u:=Fk1 hw (key:=254) (d:=[wrap .u32 F.2.2.1]) (by show 1<=1000;decide)
 have wv:=Un0 hw (key:=254) (d0▸db.1) p
 rw[Ad0 h0,Ad0 h1,if_pos ⟨rfl,rfl,g.pok⟩,Be0 (by omega) (by omega),Be0 (by omega) (by omega),em,u.1,u.2,Ai0]
 unfold Sp.svw
 rw[d0]
 dsimp only
 cases hu:Sp.utd m 254 [wrap .u32 F.2.2.1]
 ·rw[At0,wv.1,wv.2,Ai0,if_neg Bool.false_ne_true]
  by_cases e:(Sp.wrv m 254 [wrap .u32 F.2.2.1] p).2.2.1=0
  ·rw[Ar0 e,if_pos e]
   exact sv1 hf F (0,()) (0,0,()) (0,0,()) 0 m.1.1 m.1.2.1 F.2.1.length 4611686018427387904 0 _ _ (Fg1 g (by omega) (by omega) (by show 1<=24;decide) (d0▸db.1) e) (by omega) (by omega)
  ·rw[Bh0 e,if_neg e]
 ·rw[Cf0,if_pos rfl]
  exact sv0 hf F (0,()) (0,0,()) (0,0,()) 0 (w:=m.1.1) (r:=m.1.2.1) (l:=m.1.2.2) (fc:=m.2) g F.2.1.length 4611686018427387904 0 (by omega) (by omega)
set_option maxRecDepth 100000
set_option maxHeartbeats 4000000
namespace Sp
noncomputable def lku(E:List EnT)(k:Int):Option (List Int):=(E.filter fun e=>e.1==k).head?.map fun e=>e.2.1
noncomputable def fil(P:Int->Bool)(E:List EnT):List EnT:=E.filter fun e=>P e.1
end Sp
theorem Zl0{E:List EnT}{P:EnT->Bool}(h:∀e∈E,P e=false):E.filter P=[]:=by
 rw[List.filter_eq_nil_iff]
 intro e he
 rw[h e he]
 exact Bool.false_ne_true
theorem drop_at{E:List EnT}{n:Nat}(h:n<E.length):E.drop n=E.getD n Sp.dE::E.drop (n+1):=by
 rw[List.drop_eq_getElem_cons h,getD_at _ h]
theorem Wu1{E:List EnT}{key:Int}{P:Int->Bool}(hp:P key=false)(d:List Int):Sp.fil P (Sp.putE E key d)=Sp.fil P E:=by
 unfold Sp.fil
 rw[Nj0,List.filter_append,List.filter_append]
 have e1:List.filter (fun e:EnT=>P e.1) [(key,d,())]=[]:=by
  simp[hp]
 rw[e1,List.nil_append,<-List.filter_append]
 by_cases c:Sp.plE E key<E.length/\(E.getD (Sp.plE E key) Sp.dE).1=key
 ·have s:skE E key=1:=by unfold skE;rw[if_pos c]
  rw[s,List.filter_append]
  conv=>rhs;rw[<-List.take_append_drop (Sp.plE E key) E,drop_at c.1,List.filter_append,List.filter_cons,c.2,hp]
  rfl
 ·have s:skE E key=0:=by unfold skE;rw[if_neg c]
  rw[s,Nat.add_zero,List.take_append_drop]
theorem Zb0{E:List EnT}{n:Nat}{e:EnT}(h:e∈E.take n):∃i,i<n/\i<E.length/\E.getD i Sp.dE=e:=by
 obtain⟨i,hi,he⟩:=List.mem_iff_getElem.1 h
 rw[List.length_take]at hi
 refine⟨i,by omega,by omega,?_⟩
 rw[getD_at _ (show i<E.length by omega),<-he,List.getElem_take]
theorem Th0{E:List EnT}{k:Int}:Sp.lku E k=(Sp.fil (fun x=>x==k) E).head?.map fun e=>e.2.1:=rfl
theorem Nw0{E:List EnT}(h:Asc E)(key:Int)(d:List Int)(k:Int):Sp.lku (Sp.putE E key d) k=if k=key then some d else Sp.lku E k:=by
 by_cases e:k=key
 rotate_left
 ·rw[if_neg e,Th0,Wu1 (P:=fun x=>x==k) (key:=key) (beq_eq_false_iff_ne.2 (fun z=>e z.symm)),<-Th0]
 subst e
 have pa:=Hc1 h k
 rw[if_pos rfl]
 unfold Sp.lku
 rw[Nj0,List.filter_append]
 have e0:List.filter (fun e:EnT=>e.1==k) (E.take (Sp.plE E k))=[]:=Zl0 (fun e he=>by
  obtain⟨i,h1,h2,rfl⟩:=Zb0 he
  have:=pa.1 i h1
  exact beq_eq_false_iff_ne.2 (by omega))
 rw[e0,List.nil_append,List.filter_append]
 have e1:List.filter (fun e:EnT=>e.1==k) [(k,d,())]=[(k,d,())]:=by simp
 rw[e1]
 rfl
theorem Wt1(E:List EnT)(k:Int):(match Sp.fky E k with|some j=>some (E.getD j Sp.dE).2.1|none=>none)=Sp.lku E k:=by
 unfold Sp.lku
 rw[List.head?_filter]
 cases hf:Sp.fky E k with
 |none=>
  unfold Sp.fky at hf
  have:E.find? (fun e=>e.1==k)=none:=by
   rw[List.find?_eq_none]
   intro e he
   obtain⟨i,hi,rfl⟩:=List.mem_iff_getElem.1 he
   have:=Eh0.1 hf i (by omega) (by omega)
   rw[getD_at _ hi]at this
   rw[this]
   exact Bool.false_ne_true
  rw[this]
  rfl
 |some j=>
  unfold Sp.fky at hf
  obtain⟨_,hj,hp,hl⟩:=Tm0 hf
  have hj:j<E.length:=by omega
  rw[getD_at _ hj]at hp
  have:E.find? (fun e=>e.1==k)=some (E[j]):=by
   rw[List.find?_eq_some_iff_getElem]
   refine⟨hp,j,hj,rfl,fun i hi=> ?_⟩
   have:=hl i (by omega) hi
   rw[getD_at _ (show i<E.length by omega)]at this
   rw[this]
   rfl
  rw[this]
  dsimp only
  rw[getD_at _ hj]
  rfl
theorem Vs1{m:MeT}(hm:Sp.mvl m=true){k:Int}(h0:0<=k)(h1:k<=254):Sp.rdk m k=(match Sp.lku (Sp.ent m) k with|some d=>(d,0,())|none=>([],7,())):=by
 unfold Sp.rdk
 rw[if_pos hm,if_neg (fun z=>by omega),<-Wt1]
 cases Sp.fky (Sp.ent m) k<;>rfl
theorem Oa1{a b:List Int}:Sp.sw a b=true↔a=b:=by
 unfold Sp.sw
 by_cases c:(a.length:Int)=(b.length:Int)
 rotate_left
 ·rw[Bh0 c]
  exact⟨fun z=>Bool.noConfusion z,fun z=>absurd (by rw[z]) c⟩
 rw[Ar0 c,Option.isNone_iff_eq_none,Eh0]
 constructor
 ·intro h
  refine Cn0 0 (by omega) (fun i hi=> ?_)
  have:=h i (by omega) (by omega)
  simpa using this
 ·rintro rfl i _ _
  simp
noncomputable def Sp.uto(o:Option (List Int))(k:Int)(d:List Int):Prop:=match o with|some e=>e=d|none=>d=[]\/k=254/\d.getD 0 0=0
theorem Fl1{m:MeT}(hm:Sp.mvl m=true){k:Int}(h0:0<=k)(h1:k<=254)(d:List Int):Sp.utd m k d=true↔Sp.uto (Sp.lku (Sp.ent m) k) k d:=by
 unfold Sp.utd Sp.uto
 rw[Vs1 hm h0 h1]
 cases Sp.lku (Sp.ent m) k with
 |some e=>
  dsimp only
  rw[Ar0 rfl]
  exact Oa1
 |none=>
  dsimp only
  rw[Bh0 (show(7:Int)≠0 by decide)]
  by_cases l:(d.length:Int)=0
  ·rw[Aw0 l]
   exact⟨fun _=> .inl (List.eq_nil_of_length_eq_zero (by omega)),fun _=>rfl⟩
  rw[Ax0 l]
  have l':d≠[]:=fun z=>l (by rw[z];rfl)
  by_cases e:k=254
  ·rw[Aw0 e,beq_iff_eq]
   exact⟨fun z=> .inr ⟨e,z⟩,fun z=>z.elim (fun z=>absurd z l') (fun z=>z.2)⟩
  ·rw[Ax0 e]
   exact⟨fun z=>Bool.noConfusion z,fun z=>z.elim (fun z=>absurd z l') (fun z=>absurd z.1 e)⟩
theorem Ey2{E E':List EnT}{k:Int}(h:Sp.fil (fun x=>x==k) E=Sp.fil (fun x=>x==k) E'):Sp.lku E k=Sp.lku E' k:=by
 rw[Th0,Th0,h]
theorem Wz1{m:MeT}{p:PwT}(g:MG m p):Asc (Sp.ent m):=by
 obtain⟨hv,hp,_⟩:=Gk0 g.v
 exact(Sn0 g.w hv hp (Bt0 m)).2
structure SVD(F:FsT)(K:Int->Bool)(m x:MeT)(q:PwT):Prop where
 g:MG x q
 s:x.2=m.2
 u:∀k,0<=k->k<=254->K k=true->Sp.uto (Sp.lku (Sp.ent x) k) k (Sp.dat F k)
 f:∀P:Int->Bool,(∀k,K k=true->P k=false)->Sp.fil P (Sp.ent x)=Sp.fil P (Sp.ent m)
theorem SVD.step{F:FsT}{K K':Int->Bool}{m m1 x:MeT}{q:PwT}(h:SVD F K m1 x q){key:Int}(k0:0<=key)(k1:key<=254)(hk:K key=false)(hK:∀k,K' k=(k==key||K k))(hs:m1.2=m.2)(hu:Sp.uto (Sp.lku (Sp.ent m1) key) key (Sp.dat F key))
 (hf:∀P:Int->Bool,P key=false->Sp.fil P (Sp.ent m1)=Sp.fil P (Sp.ent m)):SVD F K' m x q:=by
 refine⟨h.g,h.s.trans hs,fun k h0 h1 hk'=> ?_,fun P hP=> ?_⟩
 ·by_cases e:k=key
  ·subst e
   have:Sp.lku (Sp.ent x) k=Sp.lku (Sp.ent m1) k:=Ey2 (h.f _ (fun j hj=>beq_eq_false_iff_ne.2 (fun z=>by rw[z,hk]at hj;cases hj)))
   rw[this]
   exact hu
  ·rw[hK,beq_eq_false_iff_ne.2 e,Bool.false_or]at hk'
   exact h.u k h0 h1 hk'
 ·rw[h.f P (fun k hk2=>hP k (by rw[hK,hk2,Bool.or_true])),hf P (hP key (by rw[hK,beq_self_eq_true];rfl))]
theorem Vt1{E:List EnT}(h:Asc E)(key:Int)(d:List Int):Sp.uto (Sp.lku (Sp.putE E key d) key) key d:=by
 rw[Nw0 h,if_pos rfl]
 rfl
noncomputable def Sp.kyb(n:Nat)(k:Int):Bool:=k==254||(decide (0<=k)&&decide (k<(n:Int)))
set_option maxRecDepth 100000
set_option maxHeartbeats 4000000
noncomputable def FRL(L:List FaT):Prop:=∀f∈L,f.2.2.2.2.2.1.length<=1000
theorem FRL.set{L:List FaT}(h:FRL L)(i:Nat){f:FaT}(hf:f.2.2.2.2.2.1.length<=1000):FRL (L.set i f):=fun x hx=>by
 rcases List.mem_or_eq_of_mem_set hx with h1|rfl
 ·exact h x h1
 ·exact hf
theorem FRL.sm{F:FsT}(h:FRL F.2.1)(hl:F.2.1.length<=1000):Sm F:=⟨by omega,fun j hj=>by
 have:=h _ (List.getElem_mem hj)
 rw[getD_at _ hj]
 omega⟩
theorem Ew2(l:List CfT):F_6 l=some (Sp.newF l):=by
 unfold F_6 Sp.newF Sp.rcc
 by_cases h1:(l.length:Int)>64
 ·rw[Af0 h1,decide_eq_false (by omega)];rfl
 rw[Ad0 h1,decide_eq_true (p:=l.length<=64) (by omega),Cf0]
 have hf:=Kq0 (fun m i=>L_6_53_0_0 m l l.length i (0,false,())) (n:=l.length) (fun j=> !Sp.cfg (l.getD j Zd0)) (ex:=fun j=>some (.e0 (j:Int) (0,false,()))) (e1:=some (.e1 (0,false,()))) (by omega) (fun m j hj=>by
  show L_6_53_0_0 (m+1) l l.length j (0,false,())=bif !Sp.cfg (l.getD j Zd0)then some (.e0 (j:Int) (0,false,()))else L_6_53_0_0 m l l.length ((j+1:Nat):Int) (0,false,())
  rw[L_6_53_0_0,S_6_53_0_0,Af0 (by omega),Ap0 (by omega) (by omega),Int.toNat_natCast,(Cj1 _).1,(Cj1 _).2,Ai0,wi64 (by omega) (by omega)]
  push_cast
  rfl) (fun m=>by
  show L_6_53_0_0 (m+1) l l.length l.length (0,false,())=_
  rw[L_6_53_0_0,S_6_53_0_0,Ad0 (by omega)])
 rw[hf]
 cases hk:fnd (fun j=> !Sp.cfg (l.getD j Zd0)) l.length 0 with
 |some k=>
  have:Sp.cfgs l=false:=by
   cases hv:Sp.cfgs l
   ·rfl
   ·have:=(Kp0 (fun j=>Sp.cfg (l.getD j Zd0)) l.length).2 hv
    rw[this]at hk;cases hk
  rw[this]
  simp only[B_6_53_0_0]
  rw[Af0 (by omega)]
  rfl
 |none=>
  have hc:Sp.cfgs l=true:=(Kp0 (fun j=>Sp.cfg (l.getD j Zd0)) l.length).1 hk
  rw[hc]
  simp only[B_6_53_0_0]
  rw[Be0 (by omega) (by omega),Int.toNat_natCast,beq_self_eq_true,Bool.true_and,show room l.length 72=true from Ya0 (by omega) (by omega),Ai0]
  have em:(List.map (fun(y:Ty.den CfgTy)=>Prod.fst y) l)=Sp.codesL l:=rfl
  rw[em]
  cases Sp.dst (Sp.codesL l)<;>rfl
theorem Pe1(l:List CfT):p_6 l=true/\v_6 l=Sp.newF l:=pv_6 l (Ew2 l)
theorem Lh1(l:List Int)(n:Nat)(hl:l.length=3+2*n)(hn:n<=100)(hw:∀x∈l,0<=x/\x<4294967296)(p2 p3 p4 p5 p6:Int)(p7:Int×Unit)(p8:List Int)(p9 p10 p11 p12 p13:Int)(p14:Int×Unit) :
 L_32_0 4611686018427387904 l 3 p2 p3 p4 p5 p6 p7 p8 p9 p10 p11 p12 p13 p14 []=(match fnd (fun j=>decide (l.getD (3+2*j) 0>512)) n 0 with|some _=>some .e0|none=>some (.e1 p2 p3 p4 p5 p6 p7 p8 p9 p10 p11 p12 p13 p14 (Sp.unflat (l.drop 3)))):=by
 have hat:∀j,j<l.length->0<=l.getD j 0/\l.getD j 0<4294967296:=by
  intro j hj
  rw[getD_at 0 hj]
  exact hw _ (List.getElem_mem hj)
 have h:=Kq0 (fun m i=>L_32_0 m l (3+2*i) p2 p3 p4 p5 p6 p7 p8 p9 p10 p11 p12 p13 p14 (Sp.unflat ((l.drop 3).take (2*i.toNat)))) (n:=n) (fun j=>decide (l.getD (3+2*j) 0>512)) (ex:=fun _=>some .e0) (e1:=some (.e1 p2 p3 p4 p5 p6 p7 p8 p9 p10 p11 p12 p13 p14 (Sp.unflat (l.drop 3)))) (by omega) (fun m j hj=>by
  show L_32_0 (m+1) l (3+2*(j:Int)) p2 p3 p4 p5 p6 p7 p8 p9 p10 p11 p12 p13 p14 (Sp.unflat ((l.drop 3).take (2*j)))=bif decide (l.getD (3+2*j) 0>512)then some .e0 else L_32_0 m l (3+2*((j+1:Nat):Int)) p2 p3 p4 p5 p6 p7 p8 p9 p10 p11 p12 p13 p14 (Sp.unflat ((l.drop 3).take (2*(j+1))))
  have hlen:(Sp.unflat ((l.drop 3).take (2*j))).length=j:=by
   refine Ae1 j _ ?_
   rw[List.length_take,List.length_drop];omega
  rw[Mx0 j (l.drop 3) (by rw[List.length_drop];omega)]
  have g1:(l.drop 3).getD (2*j) 0=l.getD (3+2*j) 0:=by simp[List.getD_eq_getElem?_getD]
  have g2:(l.drop 3).getD (2*j+1) 0=l.getD (3+2*j+1) 0:=by simp[List.getD_eq_getElem?_getD,Nat.add_assoc]
  rw[g1,g2]
  have b1:=hat (3+2*j) (by omega)
  have b2:=hat (3+2*j+1) (by omega)
  rw[L_32_0,S_32_0,Af0 (by omega),Ap0 (by omega) (by omega),show(3+2*(j:Int)).toNat=3+2*j by omega]
  generalize Sp.unflat ((l.drop 3).take (2*j))=fr at *
  by_cases hh:l.getD (3+2*j) 0>512
  ·rw[Af0 hh,Af0 hh]
  rw[Ad0 hh,Ad0 hh,Ap0 (by omega) (by omega),wi64 (n:=3+2*(j:Int)+1) (by omega) (by omega),Ap0 (by omega) (by omega),Be0 (by omega) (by omega),show(3+2*(j:Int)+1).toNat=3+2*j+1 by omega]
  generalize l.getD (3+2*j) 0=a at *
  generalize l.getD (3+2*j+1) 0=b at *
  rw[wi64 (n:=a) (by omega) (by omega),wi64 (n:=b) (by omega) (by omega),wi64 (n:=a*4294967296) (by omega) (by omega),wi64 (n:=a*4294967296+b) (by omega) (by omega),wi64 (n:=a*4294967296+b-1099511627776) (by omega) (by omega),wi64 (n:=3+2*(j:Int)+2) (by omega) (by omega),show 3+2*(j:Int)+2=3+2*((j+1:Nat):Int) by omega]) (fun m=>by
  show L_32_0 (m+1) l (3+2*(n:Int)) p2 p3 p4 p5 p6 p7 p8 p9 p10 p11 p12 p13 p14 (Sp.unflat ((l.drop 3).take (2*n)))=_
  rw[L_32_0,S_32_0,Ad0 (by omega),List.take_of_length_le (by rw[List.length_drop];omega)])
 exact h
theorem Zx1(l:List Int)(hw:∀x∈l,0<=x/\x<4294967296):F_32 l=some (bif Sp.cond l then(Sp.xof l,0,())else(Sp.zeroF,3,())):=by
 have hat:∀j,j<l.length->0<=l.getD j 0/\l.getD j 0<4294967296:=by
  intro j hj
  rw[getD_at 0 hj]
  exact hw _ (List.getElem_mem hj)
 unfold F_32 Sp.cond
 by_cases h1:(l.length:Int)<3
 ·rw[Af0 h1,decide_eq_true h1];rfl
 rw[Ad0 h1,decide_eq_false h1,Bool.not_false,Bool.true_and]
 have b0:=hat 0 (by omega)
 have b1:=hat 1 (by omega)
 have b2:=hat 2 (by omega)
 simp only[Ap0 (show(0:Int)<=2 by decide) (show(2:Int)<(l.length:Nat) by omega),Ap0 (show(0:Int)<=1 by decide) (show(1:Int)<(l.length:Nat) by omega),Ap0 (show(0:Int)<=0 by decide) (show(0:Int)<(l.length:Nat) by omega)]
 by_cases h2:l.getD 2 0>8
 ·rw[Af0 h2,decide_eq_true h2];rfl
 rw[Ad0 h2,decide_eq_false h2,Bool.not_false,Bool.true_and,wi64 (n:=l.getD 2 0) (by omega) (by omega),wi64 (n:=2*l.getD 2 0) (by omega) (by omega),wi64 (n:=3+2*l.getD 2 0) (by omega) (by omega)]
 by_cases h3:(l.length:Int)=3+2*l.getD 2 0
 rotate_left
 ·rw[Bh0 h3,beq_eq_false_iff_ne.2 h3];rfl
 rw[Ar0 h3,beq_iff_eq.2 h3,Bool.true_and]
 by_cases h4:l.getD 1 0>1073741824
 ·rw[Af0 h4,decide_eq_true h4];rfl
 rw[Ad0 h4,decide_eq_false h4,Bool.not_false,Bool.true_and,wi64 (n:=l.getD 0 0) (by omega) (by omega),wi64 (n:=l.getD 1 0) (by omega) (by omega)]
 by_cases h5:Sp.andnI .i64 (Sp.andI .i64 (l.getD 0 0) 255) 22=0
 rotate_left
 ·rw[Bh0 h5,beq_eq_false_iff_ne.2 h5];rfl
 rw[Ar0 h5,beq_iff_eq.2 h5,Bool.true_and,Lh1 l (l.getD 2 0).toNat (by omega) (by omega) hw]
 cases hk:fnd (fun j=>decide (l.getD (3+2*j) 0>512)) (l.getD 2 0).toNat 0 with
 |some k=>rfl
 |none=>
  simp only[B_32_0,Option.isNone,Bool.true_and]
  have hx:((Sp.andI .i64 (l.getD 0 0) 255,0,Sp.andI .i64 (Int.fdiv (l.getD 0 0) 256) 255,Sp.andI .i64 (Int.fdiv (l.getD 0 0) 65536) 255,Int.fdiv (l.getD 0 0) 16777216,Sp.unflat (l.drop 3),l.getD 1 0,()):FaT)=Sp.xof l:=rfl
  rw[hx,(Su0 _).1,(Su0 _).2,Ai0]
  cases Sp.good (Sp.xof l)<;>rfl
theorem Zw1(l:List Int)(hw:∀x∈l,0<=x/\x<4294967296):p_32 l=true/\v_32 l=(bif Sp.cond l then(Sp.xof l,0,())else(Sp.zeroF,3,())):=Ll2 l (Zx1 l hw)
theorem Es1{fr:List Int}(hv:∀x∈fr,-1099511627776<=x/\x<=1099511627776):∀x∈Sp.flat fr,0<=x/\x<4294967296:=by
 induction fr with
 |nil=>intro x hx;simp[Sp.flat]at hx
 |cons v fr ih=>
  intro x hx
  have h0:=hv v (by simp)
  simp only[Sp.flat,List.mem_cons]at hx
  rcases hx with rfl|rfl|hx
  ·omega
  ·omega
  ·exact ih (fun y hy=>hv y (by simp[hy])) x hx
theorem Wr1{fr:List Int}(hv:∀x∈fr,-1099511627776<=x/\x<=1099511627776):∀j,j<fr.length->(Sp.flat fr).getD (2*j) 0<=512:=by
 induction fr with
 |nil=>intro j hj;simp at hj
 |cons v fr ih=>
  intro j hj
  have h0:=hv v (by simp)
  cases j with
  |zero=>simp only[Sp.flat,List.getD_eq_getElem?_getD,Nat.mul_zero,List.getElem?_cons_zero,Option.getD_some];omega
  |succ j=>
   have:=ih (fun y hy=>hv y (by simp[hy])) j (by simpa using hj)
   rw[show 2*(j+1)=2*j+1+1 by omega]
   simp only[Sp.flat,List.getD_eq_getElem?_getD,List.getElem?_cons_succ]at this⊢
   exact this
theorem Mi2{f:FaT}(h:Sp.good f=true):0<=Sp.hdr f/\Sp.hdr f<4294967296/\Sp.hdr f%256=Sp.andI .i64 f.1 22/\Sp.hdr f/256%256=f.2.2.1/\Sp.hdr f/65536%256=f.2.2.2.1/\Sp.hdr f/16777216=f.2.2.2.2.1:=by
 obtain⟨h1,h2,h3,h4,h5,h6,h7⟩:=Di0.1 h
 have hs:=Dm1 h1.1 h1.2
 unfold Sp.hdr
 omega
theorem Mt2{f:FaT}(h:Sp.good f=true):(∀x∈Sp.wpk f,0<=x/\x<4294967296)/\Sp.xof (Sp.wpk f)=(Sp.andI .i64 f.1 22,0,f.2.2)/\Sp.cond (Sp.wpk f)=true:=by
 obtain⟨h1,h2,h3,h4,h5,h6,h7⟩:=Di0.1 h
 have hs:=Dm1 h1.1 h1.2
 obtain⟨q1,q2,q3,q4,q5,q6⟩:=Mi2 h
 have hx:Sp.xof (Sp.wpk f)=(Sp.andI .i64 f.1 22,0,f.2.2):=by
  unfold Sp.xof Sp.wpk
  have e0:([Sp.hdr f,f.2.2.2.2.2.2.1,(f.2.2.2.2.2.1.length:Int)]++Sp.flat f.2.2.2.2.2.1).getD 0 0=Sp.hdr f:=rfl
  have e1:([Sp.hdr f,f.2.2.2.2.2.2.1,(f.2.2.2.2.2.1.length:Int)]++Sp.flat f.2.2.2.2.2.1).getD 1 0=f.2.2.2.2.2.2.1:=rfl
  have e3:([Sp.hdr f,f.2.2.2.2.2.2.1,(f.2.2.2.2.2.1.length:Int)]++Sp.flat f.2.2.2.2.2.1).drop 3=Sp.flat f.2.2.2.2.2.1:=rfl
  rw[e0,e1,e3,My0,Ty0 q1 (by omega),Int.fdiv_eq_ediv_of_nonneg _ (by decide),Int.fdiv_eq_ediv_of_nonneg _ (by decide),Int.fdiv_eq_ediv_of_nonneg _ (by decide),Ty0 (by omega) (by omega),Ty0 (by omega) (by omega),q3,q4,q5,q6]
 refine⟨?_,hx,?_⟩
 ·intro x hx
  unfold Sp.wpk at hx
  rw[List.mem_append]at hx
  rcases hx with hx|hx
  ·simp only[List.mem_cons,List.not_mem_nil,or_false]at hx
   rcases hx with rfl|rfl|rfl
   ·exact⟨q1,q2⟩
   ·omega
   ·omega
  ·exact Es1 h7 x hx
 ·unfold Sp.cond
  have hl:(Sp.wpk f).length=3+2*f.2.2.2.2.2.1.length:=by
   unfold Sp.wpk
   rw[List.length_append,St0];rfl
  have e1:(Sp.wpk f).getD 1 0=f.2.2.2.2.2.2.1:=rfl
  have e2:(Sp.wpk f).getD 2 0=(f.2.2.2.2.2.1.length:Int):=rfl
  have e0:Sp.andI .i64 ((Sp.wpk f).getD 0 0) 255=Sp.andI .i64 f.1 22:=by
   show Sp.andI .i64 (Sp.hdr f) 255=_
   rw[Ty0 q1 (by omega),q3]
  have hgx:Sp.good (Sp.xof (Sp.wpk f))=true:=by
   rw[hx,Di0]
   exact⟨⟨hs.1,hs.2.1⟩,h2,h3,h4,h5,h6,h7⟩
  have hn:(fnd (fun j=>decide ((Sp.wpk f).getD (3+2*j) 0>512)) (f.2.2.2.2.2.1.length:Int).toNat 0).isNone=true:=by
   rw[Option.isNone_iff_eq_none,Eh0]
   intro j _ hj
   have hj:j<f.2.2.2.2.2.1.length:=by omega
   have:=Wr1 h7 j hj
   have e:(Sp.wpk f).getD (3+2*j) 0=(Sp.flat f.2.2.2.2.2.1).getD (2*j) 0:=by
    unfold Sp.wpk
    rw[List.getD_eq_getElem?_getD,List.getElem?_append_right (by simp only[List.length_cons,List.length_nil];omega),List.getD_eq_getElem?_getD]
    congr 2
    simp
   rw[e]
   exact decide_eq_false (by omega)
  rw[e1,e2,e0,hgx,hn,hs.2.2.1,decide_eq_false (by omega),decide_eq_false (by omega),decide_eq_false (by omega),beq_iff_eq.2 (by omega)]
  rfl
namespace Sp
noncomputable def cyc(m:MeT):Int:=if(rdk m 254).2.1=0/\(rdk m 254).1.length=1/\(rdk m 254).1.getD 0 0<=1073741824 then(rdk m 254).1.getD 0 0 else 0
noncomputable def upk(l:List Int):FaT×Int×Unit:=bif cond l then(xof l,0,())else(zeroF,3,())
noncomputable def lof(m:MeT)(c:CfT)(i:Nat):Option FaT:=if(rdk m i).2.1=0/\1<=(rdk m i).1.length/\(rdk m i).1.getD 0 0=c.1/\(upk ((rdk m i).1.drop 1)).2.1=0/\sto (upk ((rdk m i).1.drop 1)).1=true then some (upk ((rdk m i).1.drop 1)).1 else none
noncomputable def lo1(m:MeT)(cs:List CfT)(r:Int×Bool×Unit)(i:Nat)(L:List FaT):List FaT:=match lof m (cs.getD i Zd0) i with
 |some f=>if vf (cs,L.set i f,r)=true then L.set i f else(L.set i f).set i zeroF
 |none=>L
noncomputable def lol(m:MeT)(cs:List CfT)(r:Int×Bool×Unit):Nat->Nat->List FaT->List FaT
 |0,_,L=>L
 |d+1,i,L=>lol m cs r d (i+1) (lo1 m cs r i L)
noncomputable def lod(m:MeT)(l:List CfT):FsT×Int×Unit:=if mvl m=true then(if rcc l=0 then((l,lol m l (cyc m,false,()) l.length 0 (replicate l.length Zd1),cyc m,false,()),0,())else(([],[],0,false,()),rcc l,()))else(([],[],0,false,()),1,())
end Sp
theorem Gh2{m:MeT}(hw:W32f m.1):p_30 m=true/\v_30 m=(Sp.cyc m,()):=by
 have r:=Gv1 hw 254
 have b:=Gw1 hw 254
 refine Ln2 m ?_
 unfold F_30 Sp.cyc
 rw[r.1,r.2,Ai0]
 have bx:=W32l.at b.1 0
 by_cases h1:(Sp.rdk m 254).2.1=0
 rotate_left
 ·rw[Bh0 h1,if_neg (fun a=>h1 a.1)]
 rw[Ar0 h1]
 by_cases h2:(Sp.rdk m 254).1.length=1
 rotate_left
 ·rw[Bh0 (by omega),if_neg (fun a=>h2 a.2.1)]
 rw[Ar0 (by omega),Ap0 (by omega) (by omega)]
 by_cases h3:(Sp.rdk m 254).1.getD 0 0<=1073741824
 ·rw[Ad0 (by omega),Ap0 (by omega) (by omega),if_pos ⟨h1,h2,h3⟩,wi64 (by omega) (by omega)]
 ·rw[Af0 (by omega),if_neg (fun a=>h3 a.2.2)]
theorem Fm1:∀l:List Int,(Sp.unflat l).length<=l.length
 |[]=>Nat.le_refl _
 |[_]=>Nat.zero_le _
 |a::b::l=>by
  have:=Fm1 l
  simp only[Sp.unflat,List.length_cons]
  omega
theorem Zv1{l:List Int}(h:l.length<=1000):(Sp.upk l).1.2.2.2.2.2.1.length<=1000:=by
 unfold Sp.upk
 cases Sp.cond l
 ·exact Nat.zero_le _
 ·have:=Fm1 (l.drop 3)
  rw[List.length_drop]at this
  show(Sp.unflat (l.drop 3)).length<=1000
  omega
theorem Pg1{m:MeT}(hw:W32f m.1){c:CfT}{i:Nat}{f:FaT}(h:Sp.lof m c i=some f):f.2.2.2.2.2.1.length<=1000:=by
 unfold Sp.lof at h
 split at h
 ·have b:=Gw1 hw (i:Int)
  have:=Zv1 (l:=(Sp.rdk m i).1.drop 1) (by rw[List.length_drop];omega)
  injection h with h
  rw[<-h]
  exact this
 ·cases h
theorem Mg2{m:MeT}(hw:W32f m.1)(cs:List CfT)(r:Int×Bool×Unit)(i:Nat){L:List FaT}(h:FRL L):FRL (Sp.lo1 m cs r i L)/\(Sp.lo1 m cs r i L).length=L.length:=by
 unfold Sp.lo1
 cases hf:Sp.lof m (cs.getD i Zd0) i with
 |none=>exact⟨h,rfl⟩
 |some f=>
  have:=Pg1 hw hf
  dsimp only
  split
  ·exact⟨h.set i this,List.length_set ..⟩
  ·exact⟨(h.set i this).set i (Nat.zero_le _),by rw[List.length_set,List.length_set]⟩
theorem ld_l{m:MeT}(hw:W32f m.1)(cs:List CfT)(hc:cs.length<=64)(r p4:Int×Bool×Unit)(p5:List CfT)(p6:List FaT):∀(d q i:Nat)(L:List FaT),FRL L->L.length=cs.length->i+d=cs.length->d<q->
 L_9_0 q cs cs.length i m p4 p5 p6 cs r L=some (.e0 p4 p5 p6 cs r (Sp.lol m cs r d i L)):=by
 intro d
 induction d with
 |zero=>
  intro q i L _ _ hi hq
  obtain⟨q,rfl⟩:∃k,q=k+1:=⟨q-1,by omega⟩
  rw[L_9_0,S_9_0,Ad0 (by omega)]
  rfl
 |succ d ih=>
  intro q i L hL hl hi hq
  obtain⟨q,rfl⟩:∃k,q=k+1:=⟨q-1,by omega⟩
  have v:=Gv1 hw (i:Int)
  have b:=Gw1 hw (i:Int)
  have bx:=W32l.at b.1 0
  have ab:=Mg2 hw cs r i hL
  have nx:=ih q (i+1) (Sp.lo1 m cs r i L) ab.1 (ab.2.trans hl) (by omega) (by omega)
  have ei:wrap .i64 ((i:Int)+1)=((i+1:Nat):Int):=by rw[wi64 (by omega) (by omega)];push_cast;rfl
  rw[L_9_0,S_9_0,Af0 (by omega),Ap0 (by omega) (by omega),v.1,v.2,Ai0,Int.toNat_natCast,ei,Sp.lol]
  have skip:Sp.lof m (cs.getD i Zd0) i=none->Sp.lo1 m cs r i L=L:=fun h=>by unfold Sp.lo1;rw[h]
  have e0:∀c:CfT,Sp.lof m c i=if(Sp.rdk m i).2.1=0/\1<=(Sp.rdk m i).1.length/\(Sp.rdk m i).1.getD 0 0=c.1/\(Sp.upk ((Sp.rdk m i).1.drop 1)).2.1=0/\Sp.sto (Sp.upk ((Sp.rdk m i).1.drop 1)).1=true then some (Sp.upk ((Sp.rdk m i).1.drop 1)).1 else none:=fun c=>rfl
  by_cases h1:(Sp.rdk m i).2.1=0
  rotate_left
  ·rw[skip (by rw[e0,if_neg (fun a=>h1 a.1)])]at nx⊢
   rw[Bh0 h1]
   exact nx
  rw[Ar0 h1]
  by_cases h2:1<=(Sp.rdk m i).1.length
  rotate_left
  ·rw[skip (by rw[e0,if_neg (fun a=>h2 a.2.1)])]at nx⊢
   rw[Af0 (by omega)]
   exact nx
  rw[Ad0 (by omega),Ap0 (by omega) (by omega),wi64 (n:=(Sp.rdk m i).1.getD 0 0) (by omega) (by omega)]
  by_cases h3:(Sp.rdk m i).1.getD 0 0=(cs.getD i Zd0).1
  rotate_left
  ·rw[skip (by rw[e0,if_neg (fun a=>h3 a.2.2.1)])]at nx⊢
   rw[Bh0 h3]
   exact nx
  have u:=Zw1 ((Sp.rdk m i).1.drop 1) (fun x hx=>b.1 x (List.mem_of_mem_drop hx))
  rw[show(bif Sp.cond ((Sp.rdk m i).1.drop 1)then(Sp.xof ((Sp.rdk m i).1.drop 1),0,())else(Sp.zeroF,3,()))=Sp.upk ((Sp.rdk m i).1.drop 1)from rfl]at u
  rw[Ar0 h3,Ih0 (by omega) (by omega) (by omega),u.1,u.2,Ai0]
  by_cases h4:(Sp.upk ((Sp.rdk m i).1.drop 1)).2.1=0
  rotate_left
  ·rw[skip (by rw[e0,if_neg (fun a=>h4 a.2.2.2.1)])]at nx⊢
   rw[Bh0 h4]
   exact nx
  have s:=Fp1 (Sp.upk ((Sp.rdk m i).1.drop 1)).1
  rw[Ar0 h4,s.1,s.2,Ai0]
  dsimp only
  cases h5:Sp.sto (Sp.upk ((Sp.rdk m i).1.drop 1)).1 with
  |false=>
   rw[skip (by rw[e0,if_neg (fun a=>by rw[h5]at a;exact Bool.noConfusion a.2.2.2.2)])]at nx⊢
   rw[Bool.not_false,Cf0]
   exact nx
  |true=>
  have hlo:Sp.lof m (cs.getD i Zd0) i=some (Sp.upk ((Sp.rdk m i).1.drop 1)).1:=by rw[e0,if_pos ⟨h1,h2,h3,h4,h5⟩]
  have hfr:=Pg1 hw hlo
  have e1:Sp.lo1 m cs r i L=if Sp.vf (cs,L.set i (Sp.upk ((Sp.rdk m i).1.drop 1)).1,r)=true then L.set i (Sp.upk ((Sp.rdk m i).1.drop 1)).1 else(L.set i (Sp.upk ((Sp.rdk m i).1.drop 1)).1).set i Sp.zeroF:=by
   unfold Sp.lo1;rw[hlo]
  have g:=Mh0 (F:=(cs,L.set i (Sp.upk ((Sp.rdk m i).1.drop 1)).1,r)) (FRL.sm (hL.set i hfr) (by dsimp only;rw[List.length_set];omega))
  rw[e1]at nx⊢
  rw[Bool.not_true,At0,Ap0 (by omega) (by omega),Bool.and_true,Bool.and_true,Eq0 (by omega),g.1,g.2,Ai0]
  dsimp only
  cases h6:Sp.vf (cs,L.set i (Sp.upk ((Sp.rdk m i).1.drop 1)).1,r)with
  |true=>
   rw[h6,if_pos rfl]at nx
   rw[Bool.not_true,At0,if_pos rfl]
   exact nx
  |false=>
   rw[h6,if_neg Bool.false_ne_true]at nx
   rw[Bool.not_false,Cf0,if_neg Bool.false_ne_true,List.length_set,Ap0 (by omega) (by omega),Bool.and_true,Bool.and_true,Eq0 (by omega)]
   exact nx
theorem Gx1{l:List CfT}(h:Sp.rcc l=0):l.length<=64:=by
 unfold Sp.rcc at h
 by_cases c:l.length<=64
 ·exact c
 ·rw[decide_eq_false c,At0]at h;cases h
theorem Ph1{m:MeT}(hw:W32f m.1)(l:List CfT):p_9 m l=true/\v_9 m l=Sp.lod m l:=by
 have v:=Br1 hw
 have n:=Pe1 l
 have c:=Gh2 hw
 refine pv_9 m l ?_
 unfold F_9 Sp.lod
 rw[v.1,v.2,Ai0]
 dsimp only
 cases Sp.mvl m
 ·rfl
 rw[Bool.not_true,At0,if_pos rfl,n.1,n.2,Ai0]
 unfold Sp.newF
 by_cases h:Sp.rcc l=0
 rotate_left
 ·rw[Ax0 h,if_neg h,Bh0 h]
 rw[Aw0 h,if_pos h,Ar0 rfl,c.1,c.2,Ai0]
 dsimp only
 have fr:FRL (replicate l.length Zd1):=fun x hx=>by
  rw[(List.mem_replicate.1 hx).2];exact Nat.zero_le _
 have t:=ld_l hw l (Gx1 h) (Sp.cyc m,false,()) (0,false,()) [] [] l.length 4611686018427387904 0 (replicate l.length Zd1) fr (List.length_replicate ..) (by omega) (by have:=Gx1 h;omega)
 exact(congrArg (fun z=>B_9_0 z _) t).trans rfl
set_option maxRecDepth 100000
set_option maxHeartbeats 4000000
namespace Sp
noncomputable def rla(m:MeT)(cs:List CfT)(cy:Int)(i:Nat):FaT:=match lof m (cs.getD i Zd0) i with
 |some f=>if rgt (cs.getD i Zd0) f cy=true then f else zeroF
 |none=>zeroF
noncomputable def rll(m:MeT)(cs:List CfT)(cy:Int)(n:Nat):List FaT:=(List.range n).map (rla m cs cy)
noncomputable def rlw(m:MeT)(cs:List CfT)(cy:Int)(n i:Nat):List FaT:=(List.range n).map fun k=>if k<i then rla m cs cy k else zeroF
end Sp
theorem Me1{l:List CfT}(h:Sp.rcc l=0):l.length<=64/\Sp.cfgs l=true/\Sp.dst (l.map fun c=>c.1)=true:=by
 unfold Sp.rcc at h
 by_cases c:l.length<=64
 rotate_left
 ·rw[decide_eq_false c,At0]at h;cases h
 rw[decide_eq_true c,Cf0]at h
 cases hc:Sp.cfgs l
 ·rw[hc,At0]at h;cases h
 rw[hc,Cf0]at h
 cases hd:Sp.dst (Sp.codesL l)
 ·rw[hd,At0]at h;cases h
 exact⟨c,rfl,hd⟩
theorem Xd1{m:MeT}(hw:W32f m.1):0<=Sp.cyc m/\Sp.cyc m<=1073741824:=by
 have b:=W32l.at (Gw1 hw 254).1 0
 unfold Sp.cyc
 split
 ·rename_i h;exact⟨b.1,h.2.2⟩
 ·decide
theorem Gp1{c:CfT}(h:Sp.cfg c=true){cy:Int}(h0:0<=cy):Sp.rgt c Sp.zeroF cy=true:=by
 obtain⟨c1,c2,c3,c4,c5,c6,c7,c8,⟨⟩⟩:=c
 simp only[Sp.cfg,Bool.and_eq_true,Bj0]at h
 have z:Sp.zeroF=(0,0,0,0,0,[],0,()):=rfl
 have r:Sp.rngs (c1,c2,c3,c4,c5,c6,c7,c8,()) (0,0,0,0,0,[],0,()) cy=true:=by
  simp only[Sp.rngs,Bool.and_eq_true,Bj0]
  omega
 rw[z]
 unfold Sp.rgt
 rw[r]
 rfl
theorem Ec2{m:MeT}{cs:List CfT}{cy:Int}(h0:0<=cy)(hc:Sp.cfgs cs=true){i:Nat}(hi:i<cs.length):Sp.rgt (cs.getD i Zd0) (Sp.rla m cs cy i) cy=true:=by
 unfold Sp.rla
 split
 ·split
  ·assumption
  ·exact Gp1 (Gt0 hc hi) h0
 ·exact Gp1 (Gt0 hc hi) h0
theorem Dz0(m:MeT)(cs:List CfT)(cy:Int)(n i:Nat):(Sp.rlw m cs cy n i).length=n:=by simp[Sp.rlw]
theorem Ng0(m:MeT)(cs:List CfT)(cy:Int){n k:Nat}(i:Nat)(hk:k<n)(d:FaT):(Sp.rlw m cs cy n i).getD k d=if k<i then Sp.rla m cs cy k else Sp.zeroF:=by
 rw[getD_at d (by rw[Dz0];exact hk)]
 simp[Sp.rlw]
theorem Mf2{m:MeT}{cs:List CfT}{cy:Int}(h0:0<=cy)(h1:cy<=1073741824)(hr:Sp.rcc cs=0){i:Nat}(hi:i<cs.length):Sp.lo1 m cs (cy,false,()) i (Sp.rlw m cs cy cs.length i)=Sp.rlw m cs cy cs.length (i+1):=by
 obtain⟨r1,r2,r3⟩:=Me1 hr
 have set_eq:∀f,f=Sp.rla m cs cy i->(Sp.rlw m cs cy cs.length i).set i f=Sp.rlw m cs cy cs.length (i+1):=fun f hf=>by
  refine Cn0 Sp.zeroF (by rw[List.length_set,Dz0,Dz0]) (fun k hk=> ?_)
  rw[List.length_set,Dz0]at hk
  rw[Dj0 _ _ _ _ _ (by rw[Dz0];exact hi),Ng0 m cs cy i hk,Ng0 m cs cy (i+1) hk,hf]
  by_cases e:i=k
  ·rw[if_pos e,if_pos (by omega),e]
  ·rw[if_neg e]
   by_cases c:k<i
   ·rw[if_pos c,if_pos (by omega)]
   ·rw[if_neg c,if_neg (by omega)]
 unfold Sp.lo1
 cases hl:Sp.lof m (cs.getD i Zd0) i with
 |none=>
  have e:Sp.rla m cs cy i=Sp.zeroF:=by unfold Sp.rla;rw[hl]
  dsimp only
  have:=set_eq Sp.zeroF e.symm
  rw[<-this]
  refine Cn0 Sp.zeroF (by rw[List.length_set]) (fun k hk=> ?_)
  rw[Dz0]at hk
  rw[Dj0 _ _ _ _ _ (by rw[Dz0];exact hi)]
  split
  ·rename_i e2
   subst e2
   rw[Ng0 m cs cy i hk,if_neg (by omega)]
  ·rfl
 |some f=>
  dsimp only
  have vfe:Sp.vf (cs,(Sp.rlw m cs cy cs.length i).set i f,cy,false,())=Sp.rgt (cs.getD i Zd0) f cy:=by
   have rg:Sp.rgts (cs,(Sp.rlw m cs cy cs.length i).set i f,cy,false,())=Sp.rgt (cs.getD i Zd0) f cy:=by
    rw[Bool.eq_iff_iff]
    unfold Sp.rgts
    dsimp only
    rw[List.all_eq_true,List.length_set,Dz0]
    constructor
    ·intro h
     have:=h i (List.mem_range.2 hi)
     rw[Dj0 _ _ _ _ _ (by rw[Dz0];exact hi),if_pos rfl]at this
     exact this
    ·intro h k hk
     have hk:=List.mem_range.1 hk
     rw[Dj0 _ _ _ _ _ (by rw[Dz0];exact hi)]
     split
     ·rename_i e;subst e;exact h
     ·rw[Ng0 m cs cy i hk]
      split
      ·exact Ec2 h0 r2 hk
      ·exact Gp1 (Gt0 r2 hk) h0
   unfold Sp.vf
   rw[rg]
   dsimp only
   rw[decide_eq_true r1,r2,r3,List.length_set,Dz0,beq_self_eq_true,Bj0.2 ⟨h0,h1⟩]
   rfl
  rw[vfe]
  cases hg:Sp.rgt (cs.getD i Zd0) f cy
  ·rw[if_neg Bool.false_ne_true,List.set_set]
   exact set_eq _ (by unfold Sp.rla;rw[hl];dsimp only;rw[hg,if_neg Bool.false_ne_true])
  ·rw[if_pos rfl]
   exact set_eq _ (by unfold Sp.rla;rw[hl];dsimp only;rw[hg,if_pos rfl])
theorem Ex2{m:MeT}{cs:List CfT}{cy:Int}(h0:0<=cy)(h1:cy<=1073741824)(hr:Sp.rcc cs=0):∀(d i:Nat),i+d=cs.length->Sp.lol m cs (cy,false,()) d i (Sp.rlw m cs cy cs.length i)=Sp.rll m cs cy cs.length
 |0,i,hi=>by
  rw[Sp.lol]
  unfold Sp.rlw Sp.rll
  refine List.map_congr_left (fun k hk=> ?_)
  have:=List.mem_range.1 hk
  rw[if_pos (by omega)]
 |d+1,i,hi=>by
  rw[Sp.lol,Mf2 h0 h1 hr (by omega)]
  exact Ex2 h0 h1 hr d (i+1) (by omega)
theorem Me2{m:MeT}(hw:W32f m.1){cs:List CfT}(hm:Sp.mvl m=true)(hr:Sp.rcc cs=0):Sp.lod m cs=((cs,Sp.rll m cs (Sp.cyc m) cs.length,Sp.cyc m,false,()),0,()):=by
 have cb:=Xd1 hw
 have w0:Sp.rlw m cs (Sp.cyc m) cs.length 0=replicate cs.length Zd1:=by
  refine Cn0 Sp.zeroF (by rw[Dz0,List.length_replicate]) (fun k hk=> ?_)
  rw[Dz0]at hk
  rw[Ng0 m cs _ 0 hk,if_neg (by omega),List.getD_eq_getElem?_getD,List.getElem?_replicate,if_pos hk]
  rfl
 have l:=Ex2 (m:=m) cb.1 cb.2 hr cs.length 0 (by omega)
 rw[w0]at l
 unfold Sp.lod
 rw[if_pos hm,if_pos hr,l]
set_option maxRecDepth 100000
set_option maxHeartbeats 4000000
noncomputable def Sp.kpt(f:FaT):FaT:=if Sp.sto f=true then(Sp.andI .i64 f.1 22,0,f.2.2)else Sp.zeroF
theorem st_k{s:Int}(h0:0<=s)(h1:s<=31):((Sp.andI .i64 (Sp.andI .i64 s 22) 2==2)=(Sp.andI .i64 s 2==2)/\(Sp.andI .i64 (Sp.andI .i64 s 22) 4==4)=(Sp.andI .i64 s 4==4))/\((Sp.andI .i64 (Sp.andI .i64 s 22) 16==16)=(Sp.andI .i64 s 16==16)/\(Sp.andI .i64 (Sp.andI .i64 s 22) 1==1)=false)/\(Sp.andI .i64 (Sp.andI .i64 s 22) 6 !=0)=(Sp.andI .i64 s 6 !=0):=by
 have:=tab (fun s=>decide (((Sp.andI .i64 (Sp.andI .i64 s 22) 2==2)=(Sp.andI .i64 s 2==2)/\(Sp.andI .i64 (Sp.andI .i64 s 22) 4==4)=(Sp.andI .i64 s 4==4))/\((Sp.andI .i64 (Sp.andI .i64 s 22) 16==16)=(Sp.andI .i64 s 16==16)/\(Sp.andI .i64 (Sp.andI .i64 s 22) 1==1)=false)/\(Sp.andI .i64 (Sp.andI .i64 s 22) 6 !=0)=(Sp.andI .i64 s 6 !=0))) (by decide+kernel) h0 h1
 exact of_decide_eq_true this
theorem Vj1{c:CfT}{f:FaT}{cy:Int}(h:Sp.rgt c f cy=true):0<=f.1/\f.1<=31:=by
 unfold Sp.rgt Sp.rngs at h
 simp only[Bool.and_eq_true,Bj0]at h
 exact h.1.1
theorem Wj1{c:CfT}{f:FaT}{cy:Int}(hc:Sp.cfg c=true)(h:Sp.rgt c f cy=true)(h0:0<=cy):Sp.rgt c (Sp.kpt f) cy=true:=by
 unfold Sp.kpt
 cases hs:Sp.sto f
 ·rw[if_neg Bool.false_ne_true]
  exact Gp1 hc h0
 rw[if_pos rfl]
 have rs:=Vj1 h
 have k:=st_k rs.1 rs.2
 have s22:=Dm1 rs.1 rs.2
 have b1:Sp.bt (Sp.andI .i64 f.1 22,0,f.2.2) 1=false:=k.2.1.2
 have b2:Sp.bt (Sp.andI .i64 f.1 22,0,f.2.2) 2=Sp.bt f 2:=k.1.1
 have b4:Sp.bt (Sp.andI .i64 f.1 22,0,f.2.2) 4=Sp.bt f 4:=k.1.2
 have b16:Sp.bt (Sp.andI .i64 f.1 22,0,f.2.2) 16=Sp.bt f 16:=k.2.1.1
 unfold Sp.rgt at h⊢
 rw[Bool.and_eq_true,Bool.and_eq_true,Bool.and_eq_true,Bool.and_eq_true,Bool.and_eq_true]at h
 obtain⟨a1,a2,⟨a3,a4,a5⟩,a6⟩:=h
 have q1:Sp.rngs c (Sp.andI .i64 f.1 22,0,f.2.2) cy=true:=by
  unfold Sp.rngs at a1⊢
  unfold Sp.cfg at hc
  simp only[Bool.and_eq_true,Bj0]at a1 hc⊢
  omega
 have q2:Sp.frq c (Sp.andI .i64 f.1 22,0,f.2.2)=true:=a2
 have q3:Sp.q0 cy (Sp.andI .i64 f.1 22,0,f.2.2)=true:=by unfold Sp.q0;rw[b1];rfl
 have q4:Sp.q1 c (Sp.andI .i64 f.1 22,0,f.2.2)=true:=by
  unfold Sp.q1 at a4⊢
  rw[b4,b16]
  exact a4
 have q5:Sp.q2 (Sp.andI .i64 f.1 22,0,f.2.2)=true:=by
  unfold Sp.q2 at a5⊢
  rw[b2]
  exact a5
 have q6:Sp.fin c (Sp.andI .i64 f.1 22,0,f.2.2)=true:=by
  unfold Sp.fin at a6⊢
  rw[b2,b4]
  exact a6
 rw[q1,q2,q3,q4,q5,q6]
 rfl
theorem Hz1{f:FaT}(h0:0<=f.1)(h1:f.1<=31)(hs:Sp.sto f=true):Sp.sto (Sp.andI .i64 f.1 22,0,f.2.2)=true:=by
 unfold Sp.sto at hs⊢
 rw[(st_k h0 h1).2.2]
 exact hs
theorem El2{F:FsT}(hv:Sp.vf F=true):Sp.rcc F.1=0:=by
 have h:=hv
 unfold Sp.vf at h
 simp only[Bool.and_eq_true,decide_eq_true_eq]at h
 obtain⟨a,b,c,_⟩:=h
 unfold Sp.rcc
 rw[decide_eq_true a,Cf0,b,Cf0,show Sp.codesL F.1=F.1.map (fun c=>c.1)from rfl,c,Cf0]
theorem Jf1:p_15=true/\v_15=((1099511627776,0,()),()):=Lw2 rfl
noncomputable def Qw(w:Int):Prop:=∀i,i<16->w.toNat.testBit i=true\/w.toNat.testBit (i+16)=true
noncomputable def Sup(w x:Int):Prop:=∀i,w.toNat.testBit i=true->x.toNat.testBit i=true
theorem Sup.rfl{w:Int}:Sup w w:=fun _ h=>h
theorem Sup.trans{a b c:Int}(h:Sup a b)(h':Sup b c):Sup a c:=fun i hi=>h' i (h i hi)
theorem Qw.sup{w x:Int}(h:Qw w)(s:Sup w x):Qw x:=fun i hi=>(h i hi).imp (s _) (s _)
theorem Zy1(v:BitVec 32)(i:Nat):(wrap .u32 ((v.toNat:Nat):Int)).toNat.testBit i=v.getLsbD i:=by
 rw[Cb0 v.isLt,Int.toNat_natCast];rfl
theorem Gm2{w:Int}(h0:0<=w)(h1:w<4294967296)(i:Nat):(BitVec.ofInt 32 w).getLsbD i=w.toNat.testBit i:=by
 obtain⟨k,rfl⟩:=Int.eq_ofNat_of_zero_le h0
 show(BitVec.ofInt 32 (k:Int)).toNat.testBit i=_
 rw[Dc0 (by omega)]
 rfl
theorem Aa2{w:Int}(h0:0<=w)(h1:w<4294967296)(b:Int):Sup w (Sp.orI .u32 w b):=fun i hi=>by
 show(wrap .u32 (((BitVec.ofInt 32 w|||BitVec.ofInt 32 b).toNat:Nat):Int)).toNat.testBit i=true
 rw[Zy1,BitVec.getLsbD_or,Gm2 h0 h1,hi]
 rfl
theorem Us1{w:Int}(h0:0<=w)(h1:w<4294967296){i:Nat}(h:32<=i):w.toNat.testBit i=false:=
 Nat.testBit_lt_two_pow (Nat.lt_of_lt_of_le (show w.toNat<2^32 by omega) (Nat.pow_le_pow_right (by decide) h))
theorem Fn1{w:Int}(h0:0<=w)(h1:w<4294967296)(b:Int):Sup w (Sp.andnI .u32 4294967295 (Sp.andnI .u32 b w)):=fun i hi=>by
 have h32:i<32:=by
  rcases Nat.lt_or_ge i 32 with h|h
  ·exact h
  ·rw[Us1 h0 h1 h]at hi;cases hi
 show(wrap .u32 (((BitVec.ofInt 32 4294967295&&& ~~~ BitVec.ofInt 32 (wrap .u32 (((BitVec.ofInt 32 b&&& ~~~ BitVec.ofInt 32 w).toNat:Nat):Int))).toNat:Nat):Int)).toNat.testBit i=true
 rw[Zy1,bvk,show BitVec.ofInt 32 4294967295=BitVec.allOnes 32 from by decide,BitVec.allOnes_and,BitVec.getLsbD_not,BitVec.getLsbD_and,BitVec.getLsbD_not,Gm2 h0 h1,hi]
 simp[h32]
theorem Hq1{x:Int}(h0:0<=x)(h1:x<4294967296)(h:(Sp.nmb x).2=true){i:Nat}(hi:i<16):x.toNat.testBit i= !x.toNat.testBit (i+16):=by
 obtain⟨k,rfl⟩:=Int.eq_ofNat_of_zero_le h0
 have e:(k:Int)/65536*65536+(65535-(k:Int)/65536)=k:=by simpa[Sp.nmb,Sp.prw]using h
 rw[Int.toNat_natCast]
 have a:k.testBit i=(k%2^16).testBit i:=by rw[Nat.testBit_mod_two_pow,decide_eq_true hi,Bool.true_and]
 have b:k.testBit (i+16)=(k/2^16).testBit i:=by rw[Nat.testBit_div_two_pow,Nat.add_comm]
 rw[a,show k%2^16=2^16-(k/2^16+1) by omega,Nat.testBit_two_pow_sub_succ (by omega),decide_eq_true hi,Bool.true_and,b]
theorem Ah1{w x:Int}(q:Qw w)(s:Sup w x)(h0:0<=w)(h1:w<4294967296)(x0:0<=x)(x1:x<4294967296)(h:(Sp.nmb x).2=true):x=w:=by
 have e:x.toNat=w.toNat:=by
  refine Nat.eq_of_testBit_eq fun i=> ?_
  have up:=s i
  rcases Nat.lt_or_ge i 32 with hi|hi
  rotate_left
  ·rw[Us1 h0 h1 hi,Us1 x0 x1 hi]
  rcases Nat.lt_or_ge i 16 with h16|h16
  ·have n:=Hq1 x0 x1 h h16
   have q:=q i h16
   have u2:=s (i+16)
   revert n q u2 up
   cases w.toNat.testBit i<;>cases w.toNat.testBit (i+16)<;>cases x.toNat.testBit i<;>cases x.toNat.testBit (i+16)<;>simp
  ·obtain⟨j,rfl⟩:∃j,i=j+16:=⟨i-16,by omega⟩
   have n:=Hq1 x0 x1 h (i:=j) (by omega)
   have q:=q j (by omega)
   have u2:=s j
   revert n q u2 up
   cases w.toNat.testBit j<;>cases w.toNat.testBit (j+16)<;>cases x.toNat.testBit j<;>cases x.toNat.testBit (j+16)<;>simp
 omega
theorem Ns1:Qw 4294967295:=by unfold Qw;decide
theorem Wo0{n:Int}(h0:0<=n)(h1:n<65536):Qw (Sp.prw n):=fun i hi=>by
 have b:=In0 h0 h1
 have:=Hq1 b.1 b.2.1 (by rw[b.2.2]) hi
 rw[this]
 cases (Sp.prw n).toNat.testBit (i+16)<;>simp
end Go.Ev
