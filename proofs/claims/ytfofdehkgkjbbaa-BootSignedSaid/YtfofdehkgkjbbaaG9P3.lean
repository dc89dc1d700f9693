/- Helpers: functions of the program as Lean functions, and what they compute. No condition. -/
import Derived.Test.YtfofdehkgkjbbaaE9P4
import Derived.Test.YtfofdehkgkjbbaaG9P1
import Derived.Test.YtfofdehkgkjbbaaG9P2
set_option maxRecDepth 10000
set_option linter.unusedVariables false
set_option linter.unusedSimpArgs false
open Go.IntKind (wrap i64 i32 i16 i8 u64 u32 u16 u8)
open List (getD length take drop replicate)
open Int (toNat)
open Go.Ev.Sp
set_option linter.unusedSimpArgs false
set_option linter.unusedVariables false
namespace Go.Ev
open Go
set_option maxRecDepth 100000
set_option maxHeartbeats 4000000
abbrev FlT:=List Int×List Int×Int×Unit
abbrev PwT:=Int×Int×Unit
abbrev OpT:=Bool×Int×Int×Unit
abbrev RsT:=FlT×PwT×Int×Unit
namespace Sp
noncomputable def wb(f:FlT)(j:Nat):Bool:=decide (f.2.1.getD j 0<0)||decide (f.2.1.getD j 0>f.2.2.1)
noncomputable def fv(f:FlT):Bool:=decide (1<=f.2.1.length)&&(decide (f.2.1.length<=64)&&(decide (f.1.length=f.2.1.length*64)&&(decide (1<=f.2.2.1)&&(decide (f.2.2.1<=1000000)&&(fnd (wb f) f.2.1.length 0).isNone))))
noncomputable def pw(f:FlT)(k:Nat)(w bits:Int):FlT:=(f.1.set k (andnI .u32 (f.1.getD k 0) (andnI .u32 bits w)),f.2.1,f.2.2.1,())
noncomputable def prg(f:FlT)(k:Nat)(w:Int)(p:PwT):RsT:=if p.1=0 then(f,p,18,())else if p.1=1 then(pw f k w p.2.1,(0,p.2),18,())else(pw f k w 4294967295,(p.1-1,p.2),0,())
end Sp
theorem full_pv:p_34=true/\v_34=((1099511627776,0,()),()):=pv_34 rfl
theorem fv_iff{f:FlT}:Sp.fv f=true↔1<=f.2.1.length/\f.2.1.length<=64/\f.1.length=f.2.1.length*64/\1<=f.2.2.1/\f.2.2.1<=1000000/\∀j,j<f.2.1.length->0<=f.2.1.getD j 0/\f.2.1.getD j 0<=f.2.2.1:=by
 simp only[Sp.fv,Bool.and_eq_true,decide_eq_true_eq,Option.isNone_iff_eq_none,fnd_none,Sp.wb,Bool.or_eq_false_iff,decide_eq_false_iff_not]
 constructor
 ·rintro⟨a,b,c,d,e,g⟩
  refine⟨a,b,c,d,e,fun j hj=> ?_⟩
  have:=g j (by omega) (by omega)
  omega
 ·rintro⟨a,b,c,d,e,g⟩
  refine⟨a,b,c,d,e,fun j _ hj=> ?_⟩
  have:=g j (by omega)
  omega
theorem fv_ok(f:FlT):F_40 f=some (Sp.fv f,()):=by
 unfold F_40 Sp.fv
 by_cases h1:(f.2.1.length:Int)<1
 ·rw[cond_dtt h1,decide_eq_false (by omega)];rfl
 rw[cond_dff h1,decide_eq_true (p:=1<=f.2.1.length) (by omega),Bool.true_and]
 by_cases h2:(f.2.1.length:Int)>64
 ·rw[cond_dtt h2,decide_eq_false (by omega)];rfl
 rw[cond_dff h2,decide_eq_true (p:=f.2.1.length<=64) (by omega),Bool.true_and,wi64 (by omega) (by omega)]
 by_cases h3:(f.1.length:Int)=(f.2.1.length:Int)*64
 rotate_left
 ·rw[cond_ntt h3,decide_eq_false (p:=f.1.length=_) (by omega)];rfl
 rw[cond_nff h3,decide_eq_true (p:=f.1.length=_) (by omega),Bool.true_and]
 by_cases h4:f.2.2.1<1
 ·rw[cond_dtt h4,decide_eq_false (by omega)];rfl
 rw[cond_dff h4,decide_eq_true (p:=1<=f.2.2.1) (by omega),Bool.true_and]
 by_cases h5:f.2.2.1>1000000
 ·rw[cond_dtt h5,decide_eq_false (by omega)];rfl
 rw[cond_dff h5,decide_eq_true (p:=f.2.2.1<=1000000) (by omega),Bool.true_and]
 have hf:=find0 (fun m i=>L_40_98_0_0 m f.2.1 f.2.1.length i f) (n:=f.2.1.length) (Sp.wb f) (ex:=fun j=>some (.e0 (j:Int) f)) (e1:=some (.e1 f)) (by omega) (fun m j hj=>by
  show L_40_98_0_0 (m+1) f.2.1 f.2.1.length j f=bif Sp.wb f j then some (.e0 (j:Int) f)else L_40_98_0_0 m f.2.1 f.2.1.length ((j+1:Nat):Int) f
  rw[L_40_98_0_0,S_40_98_0_0,cond_dtt (by omega),gd_inB (by omega) (by omega),Int.toNat_natCast,wi64 (by omega) (by omega)]
  unfold Sp.wb
  push_cast
  grind) (fun m=>by
  show L_40_98_0_0 (m+1) f.2.1 f.2.1.length f.2.1.length f=_
  rw[L_40_98_0_0,S_40_98_0_0,cond_dff (by omega)])
 rw[hf]
 cases fnd (Sp.wb f) f.2.1.length 0 with
 |none=>rfl
 |some k=>
  simp only[B_40_98_0_0,Option.isNone]
  rw[decide_eq_true (by omega)]
  rfl
theorem fv_pv(f:FlT):p_40 f=true/\v_40 f=(Sp.fv f,()):=pv_40 f (fv_ok f)
theorem chk_pv{f:FlT}{p:PwT}{a n:Int}(h:Sp.fv f=true)(h0:0<=p.1)(h1:p.1<=1099511627776)(h2:0<=a)(h3:a<n):p_91 f p a n=true/\v_91 f p a n=(0,()):=by
 refine pv_91 f p a n ?_
 unfold F_91
 rw[(fv_pv f).1,(fv_pv f).2,gd_tt,h,Bool.not_true,cond_f,cond_dff (by omega),cond_dff (by omega),cond_dff (by omega),cond_dff (by omega)]
theorem prg_ok{f:FlT}{p:PwT}{k:Nat}{w:Int}(h:Sp.fv f=true)(h0:0<=p.1)(h1:p.1<=1099511627776)(h2:k<f.1.length):F_63 f k w p=some (Sp.prg f k w p):=by
 have hv:=fv_iff.1 h
 unfold F_63 Sp.prg Sp.pw
 rw[(chk_pv h h0 h1 (by omega) (by omega)).1,(chk_pv h h0 h1 (by omega) (by omega)).2,gd_tt,cond_nff rfl,gd_room (by omega) (by omega),gd_room (by omega) (by omega)]
 simp only[gd_inB (show(0:Int)<=(k:Int) by omega) (show(k:Int)<((f.1.length:Nat):Int) by omega),Int.toNat_natCast,Bool.and_true,gd_dec h2]
 by_cases e0:p.1=0
 ·rw[cond_ett e0,if_pos e0]
 rw[cond_eff e0,if_neg e0]
 by_cases e1:p.1=1
 ·rw[cond_ett e1,if_pos e1]
 rw[cond_eff e1,if_neg e1,wi64 (by omega) (by omega)]
theorem prg_pv{f:FlT}{p:PwT}{k:Nat}{w:Int}(h:Sp.fv f=true)(h0:0<=p.1)(h1:p.1<=1099511627776)(h2:k<f.1.length):p_63 f k w p=true/\v_63 f k w p=Sp.prg f k w p:=pv_63 f k w p (prg_ok h h0 h1 h2)
theorem getD_set{α:Type}(l:List α)(i j:Nat)(x d:α)(h:i<l.length):(l.set i x).getD j d=if i=j then x else l.getD j d:=by
 simp only[List.getD_eq_getElem?_getD,List.getElem?_set]
 split
 ·simp[h]
 ·rfl
set_option maxRecDepth 100000
set_option maxHeartbeats 4000000
namespace Sp
noncomputable def rotr(x:Int)(n:Nat):Int:=orI .u32 (x.fdiv (2^n)) (wrap .u32 (x*2^(32-n)))
noncomputable def wat(b:List Int)(i:Nat):Int:=orI .u32 (orI .u32 (orI .u32 (wrap .u32 (wrap .u32 (b.getD i 0)*16777216)) (wrap .u32 (wrap .u32 (b.getD (i+1) 0)*65536))) (wrap .u32 (wrap .u32 (b.getD (i+2) 0)*256))) (wrap .u32 (b.getD (i+3) 0))
end Sp
theorem orI_comm(k:IntKind)(a b:Int):Sp.orI k a b=Sp.orI k b a:=by unfold Sp.orI;rw[BitVec.or_comm]
theorem word_ok(b:List Int)(h:4<=b.length):F_95 b=some (Sp.wat b 0,()):=by
 unfold F_95
 simp (disch:=first|omega|(simp only[List.length_drop,List.length_take,List.length_set,List.length_append,List.length_replicate,List.length_cons,List.length_nil];omega)) only[gd_and,gd_tt,gd_dec,gd_beq,gd_inB,gd_sl3,gd_room,cond_dtt,cond_dff,cond_ett,cond_eff,cond_ntt,cond_nff,cond_t,cond_f,wi64,Int.toNat_natCast]
 rfl
theorem word_pv(b:List Int)(h:4<=b.length):p_95 b=true/\v_95 b=(Sp.wat b 0,()):=pv_95 b (word_ok b h)
theorem p_word(b:List Int)(h:4<=b.length):p_95 b=true:=(word_pv b h).1
theorem v_word(b:List Int)(h:4<=b.length):v_95 b=(Sp.wat b 0,()):=(word_pv b h).2
theorem wat_drop(b:List Int)(i j:Nat):Sp.wat (b.drop i) j=Sp.wat b (i+j):=by
 unfold Sp.wat
 simp only[List.getD_eq_getElem?_getD,List.getElem?_drop,Nat.add_assoc]
theorem wat_take(b:List Int)(n j:Nat)(h:j+4<=n):Sp.wat (b.take n) j=Sp.wat b j:=by
 unfold Sp.wat
 simp only[List.getD_eq_getElem?_getD,List.getElem?_take]
 simp only[show j<n by omega,show j+1<n by omega,show j+2<n by omega,show j+3<n by omega,if_true]
theorem rot_aux(x n:Int)(m:Nat)(h:(Sp.andI .u64 (wrap .u64 (wrap .i64 (0-n))) 31)=((32-m:Nat):Int))(h1:m<=32):p_96 x n=true/\v_96 x n=(Sp.rotr x m,()):=by
 have h2:p_104 x (wrap .i64 (0-n))=true/\v_104 x (wrap .i64 (0-n))=(Sp.rotr x m,()):=by
  refine pv_104 _ _ ?_
  unfold F_104 Sp.rotr
  rw[h,wu64 (by omega) (by omega)]
  simp (disch:=first|omega|(simp only[List.length_drop,List.length_take,List.length_set,List.length_append,List.length_replicate,List.length_cons,List.length_nil];omega)) only[gd_and,gd_tt,gd_dec,gd_beq,gd_inB,gd_sl3,gd_room,cond_dtt,cond_dff,cond_ett,cond_eff,cond_ntt,cond_nff,cond_t,cond_f,wi64,Int.toNat_natCast]
  rw[show(32-(((32-m:Nat)):Int)).toNat=m by omega,nmin_l (by omega),nmin_l (by omega),orI_comm]
 refine pv_96 x n ?_
 unfold F_96
 rw[h2.1,h2.2];rfl
theorem right7(x:Int):p_96 x 7=true/\v_96 x 7=(Sp.rotr x 7,()):=rot_aux x 7 7 (by kernel_rfl) (by decide)
theorem right18(x:Int):p_96 x 18=true/\v_96 x 18=(Sp.rotr x 18,()):=rot_aux x 18 18 (by kernel_rfl) (by decide)
theorem right17(x:Int):p_96 x 17=true/\v_96 x 17=(Sp.rotr x 17,()):=rot_aux x 17 17 (by kernel_rfl) (by decide)
theorem right19(x:Int):p_96 x 19=true/\v_96 x 19=(Sp.rotr x 19,()):=rot_aux x 19 19 (by kernel_rfl) (by decide)
theorem right6(x:Int):p_96 x 6=true/\v_96 x 6=(Sp.rotr x 6,()):=rot_aux x 6 6 (by kernel_rfl) (by decide)
theorem right11(x:Int):p_96 x 11=true/\v_96 x 11=(Sp.rotr x 11,()):=rot_aux x 11 11 (by kernel_rfl) (by decide)
theorem right25(x:Int):p_96 x 25=true/\v_96 x 25=(Sp.rotr x 25,()):=rot_aux x 25 25 (by kernel_rfl) (by decide)
theorem right2(x:Int):p_96 x 2=true/\v_96 x 2=(Sp.rotr x 2,()):=rot_aux x 2 2 (by kernel_rfl) (by decide)
theorem right13(x:Int):p_96 x 13=true/\v_96 x 13=(Sp.rotr x 13,()):=rot_aux x 13 13 (by kernel_rfl) (by decide)
theorem right22(x:Int):p_96 x 22=true/\v_96 x 22=(Sp.rotr x 22,()):=rot_aux x 22 22 (by kernel_rfl) (by decide)
set_option maxRecDepth 100000
set_option maxHeartbeats 4000000
namespace Sp
noncomputable def w0(b:List Int):List Int:=foldB (fun j a=>a.set j (wat b (4*j))) 0 16 (replicate 64 0)
noncomputable def stW(j:Nat)(a:List Int):List Int:=a.set j (wrap .u32 (wrap .u32 (wrap .u32 (xorI .u32 (xorI .u32 (rotr (a.getD (j-2) 0) 17) (rotr (a.getD (j-2) 0) 19)) (Int.fdiv (a.getD (j-2) 0) 1024)+a.getD (j-7) 0)+xorI .u32 (xorI .u32 (rotr (a.getD (j-15) 0) 7) (rotr (a.getD (j-15) 0) 18)) (Int.fdiv (a.getD (j-15) 0) 8))+a.getD (j-16) 0))
noncomputable def w1(b:List Int):List Int:=foldB stW 16 48 (w0 b)
noncomputable def t1(k w:List Int)(j:Nat)(s:List Int):Int:=wrap .u32 (wrap .u32 (wrap .u32 (wrap .u32 (s.getD 7 0+xorI .u32 (xorI .u32 (rotr (s.getD 4 0) 6) (rotr (s.getD 4 0) 11)) (rotr (s.getD 4 0) 25))+xorI .u32 (andI .u32 (s.getD 4 0) (s.getD 5 0)) (andI .u32 (xorI .u32 4294967295 (s.getD 4 0)) (s.getD 6 0)))+k.getD j 0)+w.getD j 0)
noncomputable def t2(s:List Int):Int:=wrap .u32 (xorI .u32 (xorI .u32 (rotr (s.getD 0 0) 2) (rotr (s.getD 0 0) 13)) (rotr (s.getD 0 0) 22)+xorI .u32 (xorI .u32 (andI .u32 (s.getD 0 0) (s.getD 1 0)) (andI .u32 (s.getD 0 0) (s.getD 2 0))) (andI .u32 (s.getD 1 0) (s.getD 2 0)))
noncomputable def stR(k w:List Int)(j:Nat)(s:List Int):List Int:=[wrap .u32 (t1 k w j s+t2 s),s.getD 0 0,s.getD 1 0,s.getD 2 0,wrap .u32 (s.getD 3 0+t1 k w j s),s.getD 4 0,s.getD 5 0,s.getD 6 0]
noncomputable def rnds(k w s:List Int):List Int:=foldB (stR k w) 0 64 s
noncomputable def addS(s v:List Int):List Int:=foldB (fun j s=>s.set j (wrap .u32 (s.getD j 0+v.getD j 0))) 0 8 s
noncomputable def blk(k s b:List Int):List Int:=addS s (rnds k (w1 b) s)
end Sp
theorem foldB_len{f:Nat->List Int->List Int}(h:∀j a,(f j a).length=a.length):∀d j a,(foldB f j d a).length=a.length
 |0,_,_=>rfl
 |d+1,j,a=>by rw[foldB,foldB_len h d,h]
theorem w0_len(b:List Int):(Sp.w0 b).length=64:=by unfold Sp.w0;rw[foldB_len (fun j a=>by simp)];simp
theorem i_w0(m:Nat)(hm:16<m)(b p2 p3 p4:List Int)(hb:b.length=64):L_35_67_0_0 m b 0 p2 p3 p4 (replicate 64 0)=some (.e0 p2 p3 p4 (Sp.w0 b)):=by
 refine(cnt0 (fun m j a=>L_35_67_0_0 m b j p2 p3 p4 a) (n:=16) (inv:=fun _ a=>a.length=64) (step:=fun j a=>a.set j (Sp.wat b (4*j))) (ex:=fun a=>some (.e0 p2 p3 p4 a)) (m:=m) (by simp) hm ?_ ?_ ?_)
 ·intro m j a hj ha
  show L_35_67_0_0 (m+1) b j p2 p3 p4 a=_
  rw[L_35_67_0_0,S_35_67_0_0]
  have h1:(4*(j:Int)).toNat=4*j:=by omega
  simp (disch:=first|omega|(simp only[List.length_drop,List.length_take,List.length_set,List.length_append,List.length_replicate,List.length_cons,List.length_nil];omega)) only[gd_and,gd_tt,gd_dec,gd_beq,gd_inB,gd_sl3,gd_room,cond_dtt,cond_dff,cond_ett,cond_eff,cond_ntt,cond_nff,cond_t,cond_f,wi64,Int.toNat_natCast,h1,p_word,v_word,wat_drop,Nat.add_zero]
  rfl
 ·intro j a hj ha;simpa using ha
 ·intro m a ha
  show L_35_67_0_0 (m+1) b 16 p2 p3 p4 a=_
  rw[L_35_67_0_0,S_35_67_0_0,cond_dff (by decide)]
theorem i_w1(m:Nat)(hm:48<m)(b p1 p2 p3:List Int):L_35_67_1_0 m 16 p1 p2 p3 (Sp.w0 b)=some (.e0 p1 p2 p3 (Sp.w1 b)):=by
 refine(cnt_loop (fun m j a=>L_35_67_1_0 m j p1 p2 p3 a) (n:=64) (inv:=fun j a=>a.length=64/\16<=j) (step:=Sp.stW) (ex:=fun a=>some (.e0 p1 p2 p3 a)) ?_ ?_ ?_ 48 m 16 (Sp.w0 b) (by omega) ⟨w0_len b,by omega⟩ hm)
 ·intro m j a hj ⟨ha,hj16⟩
  show L_35_67_1_0 (m+1) j p1 p2 p3 a=_
  rw[L_35_67_1_0,S_35_67_1_0]
  have h1:((j:Int)-15).toNat=j-15:=by omega
  have h2:((j:Int)-2).toNat=j-2:=by omega
  have h3:((j:Int)-7).toNat=j-7:=by omega
  have h4:((j:Int)-16).toNat=j-16:=by omega
  simp (disch:=first|omega|(simp only[List.length_drop,List.length_take,List.length_set,List.length_append,List.length_replicate,List.length_cons,List.length_nil];omega)) only[gd_and,gd_tt,gd_dec,gd_beq,gd_inB,gd_sl3,gd_room,cond_dtt,cond_dff,cond_ett,cond_eff,cond_ntt,cond_nff,cond_t,cond_f,wi64,Int.toNat_natCast,h1,h2,h3,h4,right7,right18,right17,right19]
  rfl
 ·intro j a hj ⟨ha,hj16⟩;exact⟨by simpa[Sp.stW]using ha,by omega⟩
 ·intro m a ⟨ha,_⟩
  show L_35_67_1_0 (m+1) 64 p1 p2 p3 a=_
  rw[L_35_67_1_0,S_35_67_1_0,cond_dff (by decide)]
theorem i_rn(m:Nat)(hm:64<m)(p1 p2 k w s:List Int):L_35_67_2_0 m 0 p1 p2 k w s=some (.e0 p1 p2 k (Sp.rnds k w s)):=by
 refine(cnt0 (fun m j a=>L_35_67_2_0 m j p1 p2 k w a) (n:=64) (inv:=fun _ _=>True) (step:=Sp.stR k w) (ex:=fun a=>some (.e0 p1 p2 k a)) (m:=m) trivial hm ?_ ?_ ?_)
 ·intro m j a hj _
  show L_35_67_2_0 (m+1) j p1 p2 k w a=_
  rw[L_35_67_2_0,S_35_67_2_0]
  simp (disch:=first|omega|(simp only[List.length_drop,List.length_take,List.length_set,List.length_append,List.length_replicate,List.length_cons,List.length_nil];omega)) only[gd_and,gd_tt,gd_dec,gd_beq,gd_inB,gd_sl3,gd_room,cond_dtt,cond_dff,cond_ett,cond_eff,cond_ntt,cond_nff,cond_t,cond_f,wi64,Int.toNat_natCast,right6,right11,right25,right2,right13,right22]
  rfl
 ·intro j a hj _;trivial
 ·intro m a _
  show L_35_67_2_0 (m+1) 64 p1 p2 k w a=_
  rw[L_35_67_2_0,S_35_67_2_0,cond_dff (by decide)]
theorem i_ad(m:Nat)(hm:8<m)(p1 s k v:List Int):L_35_67_3_0 m 0 p1 s k v=some (.e0 p1 (Sp.addS s v) k):=by
 refine(cnt0 (fun m j a=>L_35_67_3_0 m j p1 a k v) (n:=8) (inv:=fun _ _=>True) (step:=fun j s=>s.set j (wrap .u32 (s.getD j 0+v.getD j 0))) (ex:=fun a=>some (.e0 p1 a k)) (m:=m) trivial hm ?_ ?_ ?_)
 ·intro m j a hj _
  show L_35_67_3_0 (m+1) j p1 a k v=_
  rw[L_35_67_3_0,S_35_67_3_0]
  simp (disch:=first|omega|(simp only[List.length_drop,List.length_take,List.length_set,List.length_append,List.length_replicate,List.length_cons,List.length_nil];omega)) only[gd_and,gd_tt,gd_dec,gd_beq,gd_inB,gd_sl3,gd_room,cond_dtt,cond_dff,cond_ett,cond_eff,cond_ntt,cond_nff,cond_t,cond_f,wi64,Int.toNat_natCast]
  rfl
 ·intro j a hj _;trivial
 ·intro m a _
  show L_35_67_3_0 (m+1) 8 p1 a k v=_
  rw[L_35_67_3_0,S_35_67_3_0,cond_dff (by decide)]
set_option maxRecDepth 100000
set_option maxHeartbeats 4000000
theorem j_w0(m:Nat)(hm:16<m)(o z:Nat)(p4 p5 p6 l:List Int)(ho:o+64<=128)(hl:l.length=128):L_35_67_0_1 m o 64 z 0 p4 p5 p6 l (replicate 64 0)=some (.e0 p4 p5 p6 l (Sp.w0 ((l.drop o).take 64))):=by
 refine(cnt0 (fun m j a=>L_35_67_0_1 m o 64 z j p4 p5 p6 l a) (n:=16) (inv:=fun _ a=>a.length=64) (step:=fun j a=>a.set j (Sp.wat ((l.drop o).take 64) (4*j))) (ex:=fun a=>some (.e0 p4 p5 p6 l a)) (m:=m) (by simp) hm ?_ ?_ ?_)
 ·intro m j a hj ha
  show L_35_67_0_1 (m+1) o 64 z j p4 p5 p6 l a=_
  rw[L_35_67_0_1,S_35_67_0_1]
  have h1:(4*(j:Int)).toNat=4*j:=by omega
  have h2:((64:Nat):Int).toNat=64:=rfl
  simp (disch:=first|omega|(simp only[List.length_drop,List.length_take,List.length_set,List.length_append,List.length_replicate,List.length_cons,List.length_nil];omega)) only[gd_and,gd_tt,gd_dec,gd_beq,gd_inB,gd_sl3,gd_room,cond_dtt,cond_dff,cond_ett,cond_eff,cond_ntt,cond_nff,cond_t,cond_f,wi64,Int.toNat_natCast,h1,h2,p_word,v_word,wat_take,wat_drop,Nat.add_zero]
  rfl
 ·intro j a hj ha;simpa using ha
 ·intro m a ha
  show L_35_67_0_1 (m+1) o 64 z 16 p4 p5 p6 l a=_
  rw[L_35_67_0_1,S_35_67_0_1,cond_dff (by decide)]
theorem j_w1(m:Nat)(hm:48<m)(b p1 p2 p3 l:List Int):L_35_67_1_1 m 16 p1 p2 p3 l (Sp.w0 b)=some (.e0 p1 p2 p3 l (Sp.w1 b)):=by
 refine(cnt_loop (fun m j a=>L_35_67_1_1 m j p1 p2 p3 l a) (n:=64) (inv:=fun j a=>a.length=64/\16<=j) (step:=Sp.stW) (ex:=fun a=>some (.e0 p1 p2 p3 l a)) ?_ ?_ ?_ 48 m 16 (Sp.w0 b) (by omega) ⟨w0_len b,by omega⟩ hm)
 ·intro m j a hj ⟨ha,hj16⟩
  show L_35_67_1_1 (m+1) j p1 p2 p3 l a=_
  rw[L_35_67_1_1,S_35_67_1_1]
  have h1:((j:Int)-15).toNat=j-15:=by omega
  have h2:((j:Int)-2).toNat=j-2:=by omega
  have h3:((j:Int)-7).toNat=j-7:=by omega
  have h4:((j:Int)-16).toNat=j-16:=by omega
  simp (disch:=first|omega|(simp only[List.length_drop,List.length_take,List.length_set,List.length_append,List.length_replicate,List.length_cons,List.length_nil];omega)) only[gd_and,gd_tt,gd_dec,gd_beq,gd_inB,gd_sl3,gd_room,cond_dtt,cond_dff,cond_ett,cond_eff,cond_ntt,cond_nff,cond_t,cond_f,wi64,Int.toNat_natCast,h1,h2,h3,h4,right7,right18,right17,right19]
  rfl
 ·intro j a hj ⟨ha,hj16⟩;exact⟨by simpa[Sp.stW]using ha,by omega⟩
 ·intro m a ⟨ha,_⟩
  show L_35_67_1_1 (m+1) 64 p1 p2 p3 l a=_
  rw[L_35_67_1_1,S_35_67_1_1,cond_dff (by decide)]
theorem j_rn(m:Nat)(hm:64<m)(p1 p2 k l w s:List Int):L_35_67_2_1 m 0 p1 p2 k l w s=some (.e0 p1 p2 k l (Sp.rnds k w s)):=by
 refine(cnt0 (fun m j a=>L_35_67_2_1 m j p1 p2 k l w a) (n:=64) (inv:=fun _ _=>True) (step:=Sp.stR k w) (ex:=fun a=>some (.e0 p1 p2 k l a)) (m:=m) trivial hm ?_ ?_ ?_)
 ·intro m j a hj _
  show L_35_67_2_1 (m+1) j p1 p2 k l w a=_
  rw[L_35_67_2_1,S_35_67_2_1]
  simp (disch:=first|omega|(simp only[List.length_drop,List.length_take,List.length_set,List.length_append,List.length_replicate,List.length_cons,List.length_nil];omega)) only[gd_and,gd_tt,gd_dec,gd_beq,gd_inB,gd_sl3,gd_room,cond_dtt,cond_dff,cond_ett,cond_eff,cond_ntt,cond_nff,cond_t,cond_f,wi64,Int.toNat_natCast,right6,right11,right25,right2,right13,right22]
  rfl
 ·intro j a hj _;trivial
 ·intro m a _
  show L_35_67_2_1 (m+1) 64 p1 p2 k l w a=_
  rw[L_35_67_2_1,S_35_67_2_1,cond_dff (by decide)]
theorem j_ad(m:Nat)(hm:8<m)(p1 s k l v:List Int):L_35_67_3_1 m 0 p1 s k l v=some (.e0 p1 (Sp.addS s v) k l):=by
 refine(cnt0 (fun m j a=>L_35_67_3_1 m j p1 a k l v) (n:=8) (inv:=fun _ _=>True) (step:=fun j s=>s.set j (wrap .u32 (s.getD j 0+v.getD j 0))) (ex:=fun a=>some (.e0 p1 a k l)) (m:=m) trivial hm ?_ ?_ ?_)
 ·intro m j a hj _
  show L_35_67_3_1 (m+1) j p1 a k l v=_
  rw[L_35_67_3_1,S_35_67_3_1]
  simp (disch:=first|omega|(simp only[List.length_drop,List.length_take,List.length_set,List.length_append,List.length_replicate,List.length_cons,List.length_nil];omega)) only[gd_and,gd_tt,gd_dec,gd_beq,gd_inB,gd_sl3,gd_room,cond_dtt,cond_dff,cond_ett,cond_eff,cond_ntt,cond_nff,cond_t,cond_f,wi64,Int.toNat_natCast]
  rfl
 ·intro j a hj _;trivial
 ·intro m a _
  show L_35_67_3_1 (m+1) 8 p1 a k l v=_
  rw[L_35_67_3_1,S_35_67_3_1,cond_dff (by decide)]
noncomputable def Sp.K64:List Int:=(v_66).1
theorem pq_32:p_66=true:=by kernel_rfl
namespace Sp
noncomputable def shaS:Nat->List Int->List Int->List Int
 |0,_,s=>s
 |n+1,l,s=>shaS n (l.drop 64) (blk K64 s (l.take 64))
end Sp
theorem shaS_app:∀(n m:Nat)(l s:List Int),Sp.shaS (n+m) l s=Sp.shaS m (l.drop (64*n)) (Sp.shaS n l s)
 |0,m,l,s=>by simp[Sp.shaS]
 |n+1,m,l,s=>by
  rw[show n+1+m=(n+m)+1 by omega,Sp.shaS,Sp.shaS,shaS_app n m,List.drop_drop]
  rw[show 64+64*n=64*(n+1) by omega]
theorem shaS_congr:∀(n:Nat)(l l' s:List Int),l.take (64*n)=l'.take (64*n)->Sp.shaS n l s=Sp.shaS n l' s
 |0,_,_,_,_=>rfl
 |n+1,l,l',s,h=>by
  have h1:l.take 64=l'.take 64:=by
   have:=congrArg (take 64) h
   simpa[List.take_take,show min 64 (64*(n+1))=64 by omega]using this
  have h2:(l.drop 64).take (64*n)=(l'.drop 64).take (64*n):=by
   have:=congrArg (drop 64) h
   simpa[List.drop_take,show 64*(n+1)-64=64*n by omega]using this
  rw[Sp.shaS,Sp.shaS,h1,shaS_congr n _ _ _ h2]
theorem i_main:∀(q m:Nat)(b l o s:List Int),64*q<=l.length->l.length<64*q+64->q<m->l.length<4611686018427387904->L_35_0 m b l o s Sp.K64=some (.e0 b (l.drop (64*q)) o (Sp.shaS q l s) Sp.K64)
 |0,m+1,b,l,o,s,h1,h2,_,h4=>by
  rw[L_35_0,S_35_0,cond_dff (by omega)]
  simp[Sp.shaS]
 |q+1,m+1,b,l,o,s,h1,h2,h3,h4=>by
  rw[L_35_0,S_35_0,cond_dtt (by omega),gd_sl3 (by omega) (by omega) (by omega),List.drop_zero,i_w0 _ (by omega) _ _ _ _ (by simp;omega)]
  simp only[B_35_67_0_0]
  rw[i_w1 _ (by omega)]
  simp only[B_35_67_1_0]
  rw[i_rn _ (by omega)]
  simp only[B_35_67_2_0]
  rw[i_ad _ (by omega)]
  simp only[B_35_67_3_0]
  rw[gd_sl3 (by omega) (by omega) (by omega),i_main q m b (l.drop 64) o _ (by simp;omega) (by simp;omega) (by omega) (by simp;omega),List.drop_drop,Sp.shaS]
  rw[show 64+64*q=64*(q+1) by omega]
  rfl
set_option maxRecDepth 100000
set_option maxHeartbeats 4000000
theorem j_main:∀(q m j:Nat)(o s l:List Int),j+q<=2->l.length=128->q<m->L_35_2 m ((64*(j+q):Nat):Int) ((64*j:Nat):Int) o s Sp.K64 l=some (.e0 o (Sp.shaS q (l.drop (64*j)) s))
 |0,m+1,j,o,s,l,h1,h2,_=>by
  rw[L_35_2,S_35_2,cond_dff (by omega)]
  rfl
 |q+1,m+1,j,o,s,l,h1,h2,h3=>by
  have e1:(((64*j:Nat):Int)+64)=((64*(j+1):Nat):Int):=by omega
  have e2:64*(j+1)-64*j=64:=by omega
  rw[L_35_2,S_35_2,cond_dtt (by omega),wi64 (by omega) (by omega),gd_sl3 (by omega) (by omega) (by omega),e1,Int.toNat_natCast,Int.toNat_natCast,e2,j_w0 _ (by omega) _ _ _ _ _ _ (by omega) h2]
  simp only[B_35_67_0_1]
  rw[j_w1 _ (by omega)]
  simp only[B_35_67_1_1]
  rw[j_rn _ (by omega)]
  simp only[B_35_67_2_1]
  rw[j_ad _ (by omega)]
  simp only[B_35_67_3_1]
  have:=j_main q m (j+1) o (Sp.addS s (Sp.rnds Sp.K64 (Sp.w1 ((l.drop (64*j)).take 64)) s)) l (by omega) h2 (by omega)
  rw[show j+1+q=j+(q+1) by omega]at this
  rw[this,Sp.shaS,List.drop_drop]
  rfl
namespace Sp
noncomputable def szB(n:Int):List Int:=[wrap .u8 (Int.fdiv n (2^56)),wrap .u8 (Int.fdiv n (2^48)),wrap .u8 (Int.fdiv n (2^40)),wrap .u8 (Int.fdiv n (2^32)),wrap .u8 (Int.fdiv n (2^24)),wrap .u8 (Int.fdiv n (2^16)),wrap .u8 (Int.fdiv n (2^8)),wrap .u8 (Int.fdiv n (2^0))]
noncomputable def padB(b:List Int)(c:Nat):List Int:=b++[128]++replicate c 0++szB (b.length*8)
end Sp
set_option maxRecDepth 100000
set_option maxHeartbeats 4000000
namespace Sp
noncomputable def H0:List Int:=[1779033703,3144134277,1013904242,2773480762,1359893119,2600822924,528734635,1541459225]
noncomputable def outB(s:List Int):List Int:=foldB (fun i o=>(((o.set (4*i) (wrap .u8 (Int.fdiv (s.getD i 0) 16777216))).set (4*i+1) (wrap .u8 (Int.fdiv (s.getD i 0) 65536))).set (4*i+2) (wrap .u8 (Int.fdiv (s.getD i 0) 256))).set (4*i+3) (wrap .u8 (s.getD i 0))) 0 8 (replicate 32 0)
noncomputable def sha(b:List Int):List Int:=outB (shaS ((b.length+72)/64) (padB b ((119-b.length%64)%64)) H0)
end Sp
theorem i_out(m:Nat)(hm:8<m)(s p2:List Int):L_35_3 m s 0 p2 (replicate 32 0)=some (.e0 p2 (Sp.outB s)):=by
 refine(cnt0 (fun m j a=>L_35_3 m s j p2 a) (n:=8) (inv:=fun _ a=>True) (step:=fun i o=>(((o.set (4*i) (wrap .u8 (Int.fdiv (s.getD i 0) 16777216))).set (4*i+1) (wrap .u8 (Int.fdiv (s.getD i 0) 65536))).set (4*i+2) (wrap .u8 (Int.fdiv (s.getD i 0) 256))).set (4*i+3) (wrap .u8 (s.getD i 0))) (ex:=fun a=>some (.e0 p2 a)) (m:=m) trivial hm ?_ ?_ ?_)
 ·intro m j a hj _
  show L_35_3 (m+1) s j p2 a=_
  rw[L_35_3,S_35_3]
  have h1:(4*(j:Int)).toNat=4*j:=by omega
  simp (disch:=first|omega|(simp only[List.length_drop,List.length_take,List.length_set,List.length_append,List.length_replicate,List.length_cons,List.length_nil];omega)) only[gd_and,gd_tt,gd_dec,gd_beq,gd_inB,gd_sl3,gd_room,cond_dtt,cond_dff,cond_ett,cond_eff,cond_ntt,cond_nff,cond_t,cond_f,wi64,Int.toNat_natCast,h1,Nat.add_zero]
  rfl
 ·intro j a hj _;trivial
 ·intro m a _
  show L_35_3 (m+1) s 8 p2 a=_
  rw[L_35_3,S_35_3,cond_dff (by decide)]
namespace Sp
noncomputable def stO(s:List Int)(j:Nat)(o:List Int):List Int:=o.set j (wrap .u8 (Int.fdiv (s.getD (j/4) 0) (2^(24-j%4*8))))
end Sp
theorem fdiv1(x:Int):Int.fdiv x (2^0)=x:=by simp
set_option maxRecDepth 100000
set_option maxHeartbeats 4000000
theorem set8(A C:List Int)(c0 c1 c2 c3 c4 c5 c6 c7 x0 x1 x2 x3 x4 x5 x6 x7:Int)(n:Nat)(hn:A.length=n) :
 ((((((((A++c0::c1::c2::c3::c4::c5::c6::c7::C).set (n+0) x0).set (n+1) x1).set (n+2) x2).set (n+3) x3).set (n+4) x4).set (n+5) x5).set (n+6) x6).set (n+7) x7=A++x0::x1::x2::x3::x4::x5::x6::x7::C:=by
 subst hn
 simp only[List.set_append,Nat.lt_irrefl,Nat.add_sub_cancel_left,if_false,show ∀k,¬(A.length+k<A.length)from fun k=>by omega,List.set_cons_zero,List.set_cons_succ]
theorem size_eq(n:Int)(h0:0<=n)(h1:n<18446744073709551616):[wrap .u8 (Int.fdiv (wrap .u32 (Int.fdiv n 4294967296)) 16777216),wrap .u8 (Int.fdiv (wrap .u32 (Int.fdiv n 4294967296)) 65536),wrap .u8 (Int.fdiv (wrap .u32 (Int.fdiv n 4294967296)) 256),wrap .u8 (wrap .u32 (Int.fdiv n 4294967296)),wrap .u8 (Int.fdiv (wrap .u32 n) 16777216),wrap .u8 (Int.fdiv (wrap .u32 n) 65536),wrap .u8 (Int.fdiv (wrap .u32 n) 256),wrap .u8 (wrap .u32 n)]=Sp.szB n:=by
 unfold Sp.szB
 simp only[u8_mod,u32_mod,Int.fdiv_eq_ediv_of_nonneg _ (show(0:Int)<=4294967296 by decide),Int.fdiv_eq_ediv_of_nonneg _ (show(0:Int)<=16777216 by decide),Int.fdiv_eq_ediv_of_nonneg _ (show(0:Int)<=65536 by decide),Int.fdiv_eq_ediv_of_nonneg _ (show(0:Int)<=256 by decide),
  Int.fdiv_eq_ediv_of_nonneg _ (show(0:Int)<=2^56 by decide),Int.fdiv_eq_ediv_of_nonneg _ (show(0:Int)<=2^48 by decide),Int.fdiv_eq_ediv_of_nonneg _ (show(0:Int)<=2^40 by decide),Int.fdiv_eq_ediv_of_nonneg _ (show(0:Int)<=2^32 by decide),Int.fdiv_eq_ediv_of_nonneg _ (show(0:Int)<=2^24 by decide),Int.fdiv_eq_ediv_of_nonneg _ (show(0:Int)<=2^16 by decide),Int.fdiv_eq_ediv_of_nonneg _ (show(0:Int)<=2^8 by decide),fdiv1]
 simp only[List.cons.injEq,and_true]
 refine⟨?_,?_,?_,?_,?_,?_,?_,?_⟩<;>omega
theorem last_eq(rest:List Int)(e:Nat)(he:e=64\/e=128)(hn:rest.length+9<=e):(over (replicate 128 0) 0 (rest.take 128)).set rest.length 128=(rest++[128]++replicate (e-9-rest.length) 0)++(0:Int)::0::0::0::0::0::0::0::replicate (128-e) 0:=by
 have h1:rest.take 128=rest:=List.take_of_length_le (by omega)
 have h2:over (replicate 128 (0:Int)) 0 rest=rest++0::replicate (127-rest.length) 0:=by
  unfold over
  simp only[List.take_zero,List.nil_append,List.drop_replicate]
  rw[show 128-(0+rest.length)=(127-rest.length)+1 by omega,List.replicate_succ]
 rw[h1,h2,List.set_append,if_neg (by omega),Nat.sub_self,List.set_cons_zero]
 rw[show 127-rest.length=(e-9-rest.length)+(8+(128-e)) by omega,<-List.replicate_append_replicate,<-List.replicate_append_replicate]
 simp[replicate]
theorem J_ok(b o st rest:List Int)(e:Nat)(he:e=64\/e=128)(hn:rest.length+9<=e)(hb:b.length<100000000000) :
 J_35_1 b e (replicate 32 0) st Sp.K64 ((over (replicate 128 0) 0 (rest.take 128)).set rest.length 128)=some (.e0 (Sp.outB (Sp.shaS (e/64) (rest++[128]++replicate (e-9-rest.length) 0++Sp.szB (b.length*8)) st))):=by
 have e8:((e:Int)-8).toNat=e-8:=by omega
 have e4:((e:Int)-4).toNat=e-4:=by omega
 rw[last_eq rest e he hn]
 unfold J_35_1 S_35_1
 simp (disch:=first|omega|(simp only[List.length_drop,List.length_take,List.length_set,List.length_append,List.length_replicate,List.length_cons,List.length_nil];omega)) only[gd_and,gd_tt,gd_dec,gd_beq,gd_inB,gd_sl3,gd_room,cond_dtt,cond_dff,cond_ett,cond_eff,cond_ntt,cond_nff,cond_t,cond_f,wi64,Int.toNat_natCast,e8,e4]
 rw[wu64 (n:=(b.length:Int)) (by omega) (by omega),wu64 (n:=(b.length:Int)*8) (by omega) (by omega)]
 rw[show e-4+0=e-8+4 by omega,show e-4+1=e-8+5 by omega,show e-4+2=e-8+6 by omega,show e-4+3=e-8+7 by omega]
 rw[set8 _ _ _ _ _ _ _ _ _ _ _ _ _ _ _ _ _ _ (e-8) (by simp;omega)]
 have hsz:=size_eq ((b.length:Int)*8) (by omega) (by omega)
 generalize hA:rest++[128]++replicate (e-9-rest.length) (0:Int)=A
 have hAl:A.length=e-8:=by rw[<-hA];simp;omega
 generalize hx:(wrap .u8 (Int.fdiv (wrap .u32 (Int.fdiv ((b.length:Int)*8) 4294967296)) 16777216))=x0 at hsz⊢
 generalize (wrap .u8 (Int.fdiv (wrap .u32 (Int.fdiv ((b.length:Int)*8) 4294967296)) 65536))=x1 at hsz⊢
 generalize (wrap .u8 (Int.fdiv (wrap .u32 (Int.fdiv ((b.length:Int)*8) 4294967296)) 256))=x2 at hsz⊢
 generalize (wrap .u8 (wrap .u32 (Int.fdiv ((b.length:Int)*8) 4294967296)))=x3 at hsz⊢
 generalize (wrap .u8 (Int.fdiv (wrap .u32 ((b.length:Int)*8)) 16777216))=x4 at hsz⊢
 generalize (wrap .u8 (Int.fdiv (wrap .u32 ((b.length:Int)*8)) 65536))=x5 at hsz⊢
 generalize (wrap .u8 (Int.fdiv (wrap .u32 ((b.length:Int)*8)) 256))=x6 at hsz⊢
 generalize (wrap .u8 (wrap .u32 ((b.length:Int)*8)))=x7 at hsz⊢
 have hl:(A++x0::x1::x2::x3::x4::x5::x6::x7::replicate (128-e) 0).length=128:=by simp[hAl];omega
 have hm:=j_main (e/64) 4611686018427387904 0 (replicate 32 0) st _ (by omega) hl (by omega)
 rw[show 64*(0+e/64)=e by omega,show((64*0:Nat):Int)=0 from rfl]at hm
 rw[hm]
 simp only[B_35_2]
 rw[List.drop_zero,i_out _ (by omega)]
 simp only[B_35_3]
 rw[<-hsz,shaS_congr (e/64) _ (A++[x0,x1,x2,x3,x4,x5,x6,x7])]
 rw[show 64*(e/64)=(A++[x0,x1,x2,x3,x4,x5,x6,x7]).length by simp[hAl];omega,List.take_length,
  show A++x0::x1::x2::x3::x4::x5::x6::x7::replicate (128-e) 0=(A++[x0,x1,x2,x3,x4,x5,x6,x7])++replicate (128-e) 0 by simp,List.take_left]
theorem i_sum(b:List Int)(h3:b.length<100000000000):F_35 b=some (Sp.sha b,()):=by
 unfold F_35
 rw[pq_32,gd_tt]
 have hq:=i_main (b.length/64) 4611686018427387904 b b (replicate 32 0) Sp.H0 (by omega) (by omega) (by omega) (by omega)
 show B_35_0 (L_35_0 _ b b (replicate 32 0) Sp.H0 Sp.K64) _=_
 rw[hq]
 simp only[B_35_0]
 have hrl:(b.drop (64*(b.length/64))).length=b.length%64:=by simp;omega
 generalize hr:b.drop (64*(b.length/64))=rest at hrl⊢
 rw[nmin_l (by omega),gd_inB (by omega) (by omega),Int.toNat_natCast,gd_and,gd_dec (by omega),gd_tt,wi64 (by omega) (by omega)]
 have hN:(b.length+72)/64=b.length/64+((if rest.length<=55 then 64 else 128)/64):=by split<;>omega
 have hfin:∀e:Nat,e=(if rest.length<=55 then 64 else 128)->Sp.outB (Sp.shaS (e/64) (rest++[128]++replicate (e-9-rest.length) 0++Sp.szB (b.length*8)) (Sp.shaS (b.length/64) b Sp.H0))=Sp.sha b:=by
  intro e he
  unfold Sp.sha
  rw[hN,<-he,shaS_app]
  have hc:(119-b.length%64)%64=e-9-rest.length:=by rw[hrl]at he⊢;split at he<;>omega
  have e1:(Sp.padB b ((119-b.length%64)%64)).drop (64*(b.length/64))=rest++[128]++replicate (e-9-rest.length) 0++Sp.szB (b.length*8):=by
   rw[hc,Sp.padB]
   simp only[List.append_assoc]
   rw[List.drop_append_of_le_length (by omega),hr]
  have e2:Sp.shaS (b.length/64) (Sp.padB b ((119-b.length%64)%64)) Sp.H0=Sp.shaS (b.length/64) b Sp.H0:=by
   refine shaS_congr _ _ _ _ ?_
   rw[Sp.padB]
   simp only[List.append_assoc]
   rw[List.take_append_of_le_length (by omega)]
  rw[e1,e2]
 by_cases h:rest.length<=55
 ·rw[cond_dff (by omega)]
  have:=J_ok b (replicate 32 0) (Sp.shaS (b.length/64) b Sp.H0) rest 64 (.inl rfl) (by omega) h3
  rw[show((64:Nat):Int)=64 from rfl]at this
  rw[this]
  simp only[B_35_1]
  rw[hfin 64 (by rw[if_pos h])]
 ·rw[cond_dtt (by omega)]
  have:=J_ok b (replicate 32 0) (Sp.shaS (b.length/64) b Sp.H0) rest 128 (.inr rfl) (by omega) h3
  rw[show((128:Nat):Int)=128 from rfl]at this
  rw[this]
  simp only[B_35_1]
  rw[hfin 128 (by rw[if_neg h])]
namespace Sp
noncomputable def hi4(x:Int):Int:=wrap .i64 (Int.fdiv x 16)
noncomputable def lo4(x:Int):Int:=wrap .i64 (andI .u8 x 15)
noncomputable def dig(h:List Int)(j:Nat):Int:=if j%2=0 then hi4 (h.getD (j/2) 0)else lo4 (h.getD (j/2) 0)
noncomputable def digs(h:List Int)(n:Nat):List Int:=(List.range n).map (dig h)
noncomputable def dsum(h:List Int):Nat->Int
 |0=>0
 |n+1=>dsum h n+(15-dig h n)
end Sp
theorem and15(x:Int):Sp.andI .u8 x 15=x%16:=by
 unfold Sp.andI
 rw[u8_mod]
 have h:(BitVec.ofInt 8 x&&&BitVec.ofInt 8 15).toNat=(BitVec.ofInt 8 x).toNat%16:=by
  rw[BitVec.toNat_and]
  show(BitVec.ofInt 8 x).toNat&&&15=_
  exact Nat.and_two_pow_sub_one_eq_mod _ 4
 show(((BitVec.ofInt 8 x&&&BitVec.ofInt 8 15).toNat:Nat):Int)%256=x%16
 rw[h,BitVec.toNat_ofInt]
 omega
theorem hi_b(x:Int)(h0:0<=x)(h1:x<=255):0<=Sp.hi4 x/\Sp.hi4 x<=15:=by
 unfold Sp.hi4
 rw[Int.fdiv_eq_ediv_of_nonneg _ (by decide),wi64 (by omega) (by omega)]
 omega
theorem lo_b(x:Int):0<=Sp.lo4 x/\Sp.lo4 x<=15:=by
 unfold Sp.lo4
 rw[and15,wi64 (by omega) (by omega)]
 omega
abbrev bytes(h:List Int):Prop:=∀x∈h,0<=x/\x<=255
theorem bytes_get{h:List Int}(hb:bytes h)(i:Nat):0<=h.getD i 0/\h.getD i 0<=255:=by
 rcases Nat.lt_or_ge i h.length with hi|hi
 ·rw[List.getD_eq_getElem?_getD,List.getElem?_eq_getElem hi];exact hb _ (List.getElem_mem hi)
 ·rw[List.getD_eq_getElem?_getD,List.getElem?_eq_none hi];simp
theorem dig_b{h:List Int}(hb:bytes h)(j:Nat):0<=Sp.dig h j/\Sp.dig h j<=15:=by
 unfold Sp.dig
 split
 ·exact hi_b _ (bytes_get hb _).1 (bytes_get hb _).2
 ·exact lo_b _
theorem dsum_b{h:List Int}(hb:bytes h):∀n,0<=Sp.dsum h n/\Sp.dsum h n<=15*n
 |0=>by simp[Sp.dsum]
 |n+1=>by
  have h1:=dsum_b hb n
  have h2:=dig_b hb n
  simp only[Sp.dsum];omega
theorem digs_len(h:List Int)(n:Nat):(Sp.digs h n).length=n:=by simp[Sp.digs]
theorem digs_succ(h:List Int)(n:Nat):Sp.digs h (n+1)=Sp.digs h n++[Sp.dig h n]:=by simp[Sp.digs,List.range_succ]
theorem i_dig1(m:Nat)(hm:2<m)(s:Int)(h:List Int)(hb:bytes h)(q:Nat)(x y:Int)(hx:x=Sp.dig h (2*q))(hy:y=Sp.dig h (2*q+1))(i:Int)(hs:s=Sp.dsum h (2*q))(hq:q<32):L_69_1 m s h i [x,y] 0 (Sp.digs h (2*q))=some (.e0 (Sp.dsum h (2*q+2)) h i (Sp.digs h (2*q+2))):=by
 obtain⟨m,rfl⟩:∃k,m=k+3:=⟨m-3,by omega⟩
 have b0:=dsum_b hb (2*q)
 have b1:=dig_b hb (2*q)
 have b2:=dig_b hb (2*q+1)
 subst hs hx hy
 rw[L_69_1,S_69_1,cond_dtt (by decide),gd_inB (by decide) (by decide),gd_room (by rw[digs_len];omega) (by rw[digs_len];omega)]
 show L_69_1 (m+2) (wrap .i64 (Sp.dsum h (2*q)+wrap .i64 (15-Sp.dig h (2*q)))) h i _ 1 (Sp.digs h (2*q)++[Sp.dig h (2*q)])=_
 rw[wi64 (n:=15-Sp.dig h (2*q)) (by omega) (by omega),wi64 (by omega) (by omega),<-digs_succ,L_69_1,S_69_1,cond_dtt (by decide),gd_inB (by decide) (by decide),gd_room (by rw[digs_len];omega) (by rw[digs_len];omega)]
 show L_69_1 (m+1) (wrap .i64 (Sp.dsum h (2*q)+(15-Sp.dig h (2*q))+wrap .i64 (15-Sp.dig h (2*q+1)))) h i _ 2 (Sp.digs h (2*q+1)++[Sp.dig h (2*q+1)])=_
 rw[wi64 (n:=15-Sp.dig h (2*q+1)) (by omega) (by omega),wi64 (by omega) (by omega),<-digs_succ,L_69_1,S_69_1,cond_dff (by decide)]
 rfl
theorem i_dig0:∀(d m q:Nat)(h:List Int),bytes h->q+d=32->d<m->L_69_0 m (Sp.dsum h (2*q)) h (q:Nat) (Sp.digs h (2*q))=some (.e0 (Sp.dsum h 64) (Sp.digs h 64))
 |0,m+1,q,h,hb,hq,_=>by
  rw[L_69_0,S_69_0,cond_dff (by omega),show 2*q=64 by omega]
 |d+1,m+1,q,h,hb,hq,hm=>by
  rw[L_69_0,S_69_0,cond_dtt (by omega),gd_inB (by omega) (by omega),Int.toNat_natCast]
  rw[i_dig1 _ (by omega) _ h hb q _ _ (by simp[Sp.dig,Sp.hi4]) (by simp[Sp.dig,Sp.lo4,show(2*q+1)/2=q by omega,show(2*q+1)%2=1 by omega]) _ rfl (by omega)]
  simp only[B_69_1]
  rw[wi64 (by omega) (by omega)]
  exact i_dig0 d m (q+1) h hb (by omega) (by omega)
theorem and15'(x:Int):Sp.andI .i64 x 15=x%16:=by
 unfold Sp.andI
 have h:(BitVec.ofInt 64 x&&&BitVec.ofInt 64 15).toNat=(BitVec.ofInt 64 x).toNat%16:=by
  rw[BitVec.toNat_and]
  show(BitVec.ofInt 64 x).toNat&&&15=_
  exact Nat.and_two_pow_sub_one_eq_mod _ 4
 show wrap .i64 (((BitVec.ofInt 64 x&&&BitVec.ofInt 64 15).toNat:Nat):Int)=x%16
 rw[h,BitVec.toNat_ofInt,wi64 (by omega) (by omega)]
 omega
namespace Sp
noncomputable def digL(h:List Int):List Int:=digs h 64++[dsum h 64/256,dsum h 64/16%16,dsum h 64%16]
end Sp
theorem i_digits(h:List Int)(hb:bytes h):F_69 h=some (Sp.digL h,()):=by
 have b0:=dsum_b hb 64
 unfold F_69
 have:=i_dig0 32 4611686018427387904 0 h hb (by omega) (by omega)
 rw[show L_69_0 4611686018427387904 0 h 0 []=some (.e0 (Sp.dsum h 64) (Sp.digs h 64))from this]
 simp only[B_69_0]
 rw[gd_room (by rw[digs_len];omega) (by rw[digs_len];omega),Int.fdiv_eq_ediv_of_nonneg _ (by decide),Int.fdiv_eq_ediv_of_nonneg _ (by decide),and15',and15']
 rfl
set_option maxRecDepth 100000
set_option maxHeartbeats 4000000
abbrev BayT:=FlT×List Int×Unit
namespace Sp
noncomputable def cntB(n:Nat):Bool:=decide (n%2=0)&&(decide (18<=n)&&decide (n<=64))
noncomputable def bvb(a:BayT):Bool:=fv a.1&&cntB a.1.2.1.length
noncomputable def hlf(a:BayT):Nat:=a.1.2.1.length*32
noncomputable def wds(a:BayT)(k:Nat):List Int:=(a.1.1.drop (k*hlf a)).take (hlf a)
end Sp
theorem aw:F_10=some (true,()):=by kernel_rfl
theorem aw_pv:p_10=true/\v_10=(true,()):=pv_10 aw
theorem few_p(a:BayT):p_11 a=true:=by
 have:F_11 a=some ((decide ((a.1.2.1.length:Int)<=70)&&decide ((a.1.1.length:Int)<=4480)),()):=by
  unfold F_11
  by_cases h:(a.1.2.1.length:Int)<=70
  ·rw[cond_dtt h,decide_eq_true h,Bool.true_and]
  ·rw[cond_dff h,decide_eq_false h,Bool.false_and]
 exact(pv_11 a this).1
theorem cnt_ok(n:Nat)(hn:n<1000000):F_41 n=some (Sp.cntB n,()):=by
 unfold F_41 Sp.cntB
 rw[Int.tmod_eq_emod_of_nonneg (by omega)]
 by_cases h:n%2=0
 ·rw[cond_ett (by omega),decide_eq_true h,Bool.true_and]
  by_cases h:18<=n
  ·rw[cond_dtt (by omega),decide_eq_true h,Bool.true_and,show decide ((n:Int)<=64)=decide (n<=64)from decide_eq_decide.2 (by omega)]
  ·rw[cond_dff (by omega),decide_eq_false h,Bool.false_and]
 ·rw[cond_eff (by omega),decide_eq_false h,Bool.false_and]
theorem val_ok(a:BayT):F_12 a=some (Sp.bvb a,()):=by
 unfold F_12 Sp.bvb
 rw[(fv_pv a.1).1,(fv_pv a.1).2,gd_tt]
 cases h:Sp.fv a.1
 ·rfl
 ·have hv:=fv_iff.1 h
  have hc:=pv_41 _ (cnt_ok a.1.2.1.length (by omega))
  rw[cond_t,hc.1,hc.2,gd_tt,Bool.true_and]
theorem val_pv(a:BayT):p_12 a=true/\v_12 a=(Sp.bvb a,()):=pv_12 a (val_ok a)
theorem bank_ok(k:Int):F_46 k=some (k==0||k==1,()):=by
 unfold F_46
 cases k==0<;>rfl
theorem bank_pv(k:Int):p_46 k=true/\v_46 k=(k==0||k==1,()):=pv_46 k (bank_ok k)
theorem bank_nat(k:Nat)(h:k<2):(((k:Nat):Int)==0||((k:Nat):Int)==1)=true:=by
 match k,h with
 |0,_=>rfl
 |1,_=>rfl
structure BV(a:BayT):Prop where
 v:Sp.fv a.1=true
 e:a.1.2.1.length%2=0
 lo:18<=a.1.2.1.length
 hi:a.1.2.1.length<=64
 l:a.1.1.length=2*Sp.hlf a
 h0:576<=Sp.hlf a
 h1:Sp.hlf a<=2048
theorem bv_of{a:BayT}(h:Sp.bvb a=true):BV a:=by
 unfold Sp.bvb Sp.cntB at h
 simp only[Bool.and_eq_true,decide_eq_true_eq]at h
 obtain⟨h,e,lo,hi⟩:=h
 have hv:=fv_iff.1 h
 refine⟨h,e,lo,hi,?_,?_,?_⟩<;>unfold Sp.hlf<;>omega
theorem half_eq{a:BayT}(h:BV a):wrap .i64 (Int.tdiv (a.1.1.length:Int) 2)=Sp.hlf a:=by
 rw[h.l,show Int.tdiv ((2*Sp.hlf a:Nat):Int) 2=Sp.hlf a by rw[Int.tdiv_eq_ediv_of_nonneg (by omega)];omega]
 exact wi64 (by omega) (by have:=h.h1;omega)
theorem off_eq{a:BayT}(h:BV a)(k:Nat)(hk:k<3):wrap .i64 ((k:Int)*(Sp.hlf a:Int))=((k*Sp.hlf a:Nat):Int):=by
 have:=h.h1
 have:k*Sp.hlf a<=2*Sp.hlf a:=Nat.mul_le_mul_right _ (by omega)
 rw[<-Int.natCast_mul,wi64 (by omega) (by omega)]
theorem off_lt{a:BayT}(h:BV a)(k:Nat)(hk:k<2):k*Sp.hlf a+Sp.hlf a<=a.1.1.length:=by
 have:=h.l
 match k,hk with
 |0,_=>omega
 |1,_=>omega
theorem wds_len{a:BayT}(h:BV a)(k:Nat)(hk:k<2):(Sp.wds a k).length=Sp.hlf a:=by
 have:=off_lt h k hk
 unfold Sp.wds
 rw[List.length_take,List.length_drop]
 omega
theorem words_ok{a:BayT}(h:BV a)(k:Nat)(hk:k<2):F_42 a k=some (Sp.wds a k,()):=by
 have hl:=off_lt h k hk
 have e:wrap .i64 ((k:Int)+1)=((k+1:Nat):Int):=by rw[wi64 (by omega) (by omega)];push_cast;rfl
 unfold F_42 Sp.wds
 rw[half_eq h,e,off_eq h k (by omega),off_eq h (k+1) (by omega),gd_sl3 (by omega) (by rw[Nat.add_mul];omega) (by rw[Nat.add_mul];omega),Int.toNat_natCast,Int.toNat_natCast,show(k+1)*Sp.hlf a-k*Sp.hlf a=Sp.hlf a by rw[Nat.add_mul];omega]
theorem words_pv{a:BayT}(h:BV a)(k:Nat)(hk:k<2):p_42 a k=true/\v_42 a k=(Sp.wds a k,()):=pv_42 a k (words_ok h k hk)
theorem wds_get{a:BayT}(h:BV a)(k:Nat)(hk:k<2):(Sp.wds a k).getD 0 0=a.1.1.getD (k*Sp.hlf a) 0:=by
 have:=off_lt h k hk
 have:=h.h0
 unfold Sp.wds
 simp only[List.getD_eq_getElem?_getD,List.getElem?_take,List.getElem?_drop]
 rw[if_pos (by omega),Nat.add_zero]
theorem act_pv{a:BayT}(h:BV a)(k:Nat)(hk:k<2):p_51 a k=true/\v_51 a k=(a.1.1.getD (k*Sp.hlf a) 0==0,()):=by
 refine pv_51 a k ?_
 have:=h.h0
 unfold F_51
 rw[(words_pv h k hk).1,(words_pv h k hk).2,gd_tt,gd_inB (by decide) (by show(0:Int)<((Sp.wds a k).length:Int);rw[wds_len h k hk];omega)]
 show some ((Sp.wds a k).getD 0 0==0,())=_
 rw[wds_get h k hk]
theorem cat_l0(m:Nat)(x y:List Int)(hx:x.length<1000000)(hy:y.length<1000000):L_43_0 (m+3) [x,y] 0 [x,y] 2 0=some (.e0 [x,y] ((x.length:Int)+(y.length:Int))):=by
 rw[L_43_0,S_43_0,cond_dtt (by decide),gd_inB (by decide) (by show(0:Int)<((2:Nat):Int);decide)]
 show(bif decide (wrap .i64 (0+(x.length:Int))<0)then none else L_43_0 (m+2) [x,y] (wrap .i64 (0+(x.length:Int))) [x,y] 2 1)=_
 rw[wi64 (n:=0+(x.length:Int)) (by omega) (by omega),cond_dff (by omega),L_43_0,S_43_0,cond_dtt (by decide),gd_inB (by decide) (by show(1:Int)<((2:Nat):Int);decide)]
 show(bif decide (wrap .i64 (0+(x.length:Int)+(y.length:Int))<0)then none else L_43_0 (m+1) [x,y] (wrap .i64 (0+(x.length:Int)+(y.length:Int))) [x,y] 2 2)=_
 rw[wi64 (n:=0+(x.length:Int)+(y.length:Int)) (by omega) (by omega),cond_dff (by omega),L_43_0,S_43_0,cond_dff (by decide),Int.zero_add]
theorem cat_l1(m:Nat)(x y:List Int)(hx:x.length<1000000)(hy:y.length<1000000):L_43_1 (m+3) [x,y] 2 0 []=some (.e0 (x++y)):=by
 rw[L_43_1,S_43_1,cond_dtt (by decide),gd_inB (by decide) (by show(0:Int)<((2:Nat):Int);decide),gd_room (by show(0+x.length)*4<=_;omega) (by show 0+x.length<=_;omega)]
 show L_43_1 (m+2) [x,y] 2 1 x=_
 rw[L_43_1,S_43_1,cond_dtt (by decide),gd_inB (by decide) (by show(1:Int)<((2:Nat):Int);decide),gd_room (by show(x.length+y.length)*4<=_;omega) (by show x.length+y.length<=_;omega)]
 show L_43_1 (m+1) [x,y] 2 2 (x++y)=_
 rw[L_43_1,S_43_1,cond_dff (by decide)]
theorem cat_ok(x y:List Int)(hx:x.length<1000000)(hy:y.length<1000000):F_43 [x,y]=some (x++y,()):=by
 unfold F_43
 refine(congrArg (fun z=>B_43_0 z _) (cat_l0 4611686018427387901 x y hx hy)).trans ?_
 refine Eq.trans (b:=gd (decide ((0:Int)<=(x.length:Int)+(y.length:Int))&&room (toNat ((x.length:Int)+(y.length:Int))) 4) (B_43_1 (L_43_1 4611686018427387904 [x,y] 2 0 []) fun y5=>some (y5,()))) rfl ?_
 rw[gd_and,gd_dec (by omega),gd_room (by omega) (by omega)]
 exact(congrArg (fun z=>B_43_1 z _) (cat_l1 4611686018427387901 x y hx hy)).trans rfl
namespace Sp
noncomputable def w4(x:Int):List Int:=[wrap .u8 (Int.fdiv x 16777216),wrap .u8 (Int.fdiv x 65536),wrap .u8 (Int.fdiv x 256),wrap .u8 x]
noncomputable def spr(l:List Int):List Int:=l.flatMap w4
end Sp
theorem spr_len(l:List Int):(Sp.spr l).length=4*l.length:=by
 induction l with
 |nil=>rfl
 |cons x l ih=>show(Sp.w4 x++Sp.spr l).length=_;rw[List.length_append,ih,List.length_cons];show 4+_=_;omega
theorem spr_succ(l:List Int)(j:Nat)(hj:j<l.length):Sp.spr (l.take (j+1))=Sp.spr (l.take j)++Sp.w4 (l.getD j 0):=by
 have e:l.getD j 0=l[j]:=by simp[List.getD_eq_getElem?_getD,List.getElem?_eq_getElem hj]
 unfold Sp.spr
 rw[e,List.take_succ_eq_append_getElem hj,List.flatMap_append,List.flatMap_cons,List.flatMap_nil,List.append_nil]
theorem spr_b(l:List Int):bytes (Sp.spr l):=by
 intro x hx
 unfold Sp.spr at hx
 rw[List.mem_flatMap]at hx
 obtain⟨y,_,hx⟩:=hx
 simp only[Sp.w4,List.mem_cons,List.not_mem_nil,or_false]at hx
 rcases hx with rfl|rfl|rfl|rfl<;>rw[u8_mod]<;>omega
theorem spr_loop(l:List Int)(hl:l.length<1000000):∀(d m j:Nat),j+d=l.length->d<m->L_44_0 m l l.length (j:Nat) (Sp.spr (l.take j))=some (.e0 (Sp.spr l)):=by
 intro d
 induction d with
 |zero=>
  intro m j hj hm
  obtain⟨m,rfl⟩:∃k,m=k+1:=⟨m-1,by omega⟩
  rw[L_44_0,S_44_0,cond_dff (by omega),List.take_of_length_le (by omega)]
 |succ d ih=>
  intro m j hj hm
  obtain⟨m,rfl⟩:∃k,m=k+1:=⟨m-1,by omega⟩
  have hs:=spr_len (l.take j)
  rw[List.length_take]at hs
  rw[L_44_0,S_44_0,cond_dtt (by omega),gd_inB (by omega) (by omega),gd_room (by omega) (by omega),wi64 (by omega) (by omega),Int.toNat_natCast]
  have:=ih m (j+1) (by omega) (by omega)
  rw[spr_succ l j (by omega)]at this
  push_cast at this
  exact this
theorem spr_eq(l:List Int)(hl:l.length<1000000):F_44 l=some (Sp.spr l,()):=by
 unfold F_44
 exact(congrArg (fun z=>B_44_0 z _) (spr_loop l hl l.length 4611686018427387904 0 (by omega) (by omega))).trans rfl
theorem spr_ok(l:List Int)(hl:l.length<1000000):∃o,F_44 l=some (o,())/\o.length=4*l.length/\bytes o:=⟨_,spr_eq l hl,spr_len l,spr_b l⟩
set_option maxRecDepth 100000
set_option maxHeartbeats 4000000
theorem u8_b{n:Int}(h:(Lit.int .u8 n).wf=true):0<=n/\n<=255:=by
 simp[Lit.wf,IntKind.min,IntKind.max,IntKind.signed,IntKind.bits]at h;omega
namespace Sp
noncomputable def link(j:Int)(h:List Int):List Int:=sha ([wrap .u8 j]++h.take 32)
noncomputable def chn:Nat->Int->List Int->List Int
 |0,_,h=>h
 |n+1,j,h=>chn n (j+1) (link j h)
end Sp
theorem chn_app:∀(n m:Nat)(j:Int)(h:List Int),Sp.chn (n+m) j h=Sp.chn m (j+n) (Sp.chn n j h)
 |0,m,j,h=>by simp[Sp.chn]
 |n+1,m,j,h=>by
  rw[show n+1+m=(n+m)+1 by omega,Sp.chn,Sp.chn,chn_app n m,show j+1+(n:Int)=j+((n+1:Nat):Int) by omega]
theorem i_chain:∀(d m:Nat)(j e:Int)(h o:List Int),e=j+d-> -1000<=j->e<=1000->d<m->L_70_0 m e j h o=some (.e0 (Sp.chn d j h) o)
 |0,m+1,j,e,h,o,h1,h2,h3,_=>by
  rw[L_70_0,S_70_0,cond_dff (by omega)]
  rfl
 |d+1,m+1,j,e,h,o,h1,h2,h3,h4=>by
  have hl:(h.take 32).length<=32:=by simp;omega
  have hs:p_35 ([wrap .u8 j]++h.take 32)=true/\v_35 ([wrap .u8 j]++h.take 32)=(Sp.link j h,()):=pv_35 _ (i_sum _ (by rw[List.length_append,List.length_singleton];omega))
  rw[L_70_0,S_70_0,cond_dtt (by omega),List.drop_zero,gd_room (by omega) (by omega),hs.1,hs.2,gd_tt,wi64 (by omega) (by omega)]
  rw[Sp.chn]
  dsimp only
  exact i_chain d m (j+1) e (Sp.link j h) o (by omega) (by omega) h3 (by omega)
theorem chain_ok(h:List Int)(j e:Int)(h0:0<=j)(h1:j<=e)(h2:e<=15):F_70 h j e=some (Sp.chn (e-j).toNat j h,()):=by
 unfold F_70
 rw[i_chain (e-j).toNat _ j e h _ (by omega) (by omega) (by omega) (by omega)]
 rfl
set_option maxRecDepth 100000
set_option maxHeartbeats 4000000
namespace Sp
noncomputable def node(a b:List Int):List Int:=sha ([255]++a.take 32++b.take 32)
noncomputable def sec(s:List Int)(k j:Int):List Int:=sha (s.take 32++[wrap .u8 k,wrap .u8 j])
noncomputable def cat(l:List (List Int)):List Int:=l.flatMap fun h=>h.take 32
noncomputable def leafE(l:List (List Int)):List Int:=sha (cat l)
noncomputable def ends(s:List Int)(k:Int)(n:Nat):List (List Int):=(List.range n).map fun j:Nat=>chn 15 0 (sec s k (j:Int))
noncomputable def leafS(s:List Int)(k:Int):List Int:=leafE (ends s k 67)
noncomputable def pubK(s:List Int):List Int:=node (node (leafS s 0) (leafS s 1)) (node (leafS s 2) (leafS s 3))
end Sp
theorem tk32(a:List Int):(a.take 32).length<=32:=by rw[List.length_take];omega
theorem above_ok(a b:List Int):F_73 a b=some (Sp.node a b,()):=by
 have h1:=tk32 a
 have h2:=tk32 b
 have hs:p_35 ([255]++a.take 32++b.take 32)=true/\v_35 ([255]++a.take 32++b.take 32)=(Sp.node a b,()):=pv_35 _ (i_sum _ (by rw[List.length_append,List.length_append,List.length_singleton];omega))
 unfold F_73
 rw[List.drop_zero,List.drop_zero,gd_room (by omega) (by omega),gd_room (by rw[List.length_append,List.length_singleton];omega) (by rw[List.length_append,List.length_singleton];omega),hs.1,hs.2,gd_tt]
theorem sec_ok(s:List Int)(k j:Int):F_71 s k j=some (Sp.sec s k j,()):=by
 have h1:=tk32 s
 have hs:p_35 (s.take 32++[wrap .u8 k,wrap .u8 j])=true/\v_35 (s.take 32++[wrap .u8 k,wrap .u8 j])=(Sp.sec s k j,()):=pv_35 _ (i_sum _ (by rw[List.length_append];simp only[List.length_cons,List.length_nil];omega))
 unfold F_71
 rw[List.drop_zero,hs.1,hs.2,gd_tt]
theorem cat_len:∀l:List (List Int),(Sp.cat l).length<=32*l.length
 |[]=>by simp[Sp.cat]
 |h::l=>by
  have h1:=cat_len l
  have h2:=tk32 h
  simp only[Sp.cat,List.flatMap_cons,List.length_append,List.length_cons]at h1⊢
  omega
theorem cat_succ(l:List (List Int))(j:Nat)(hj:j<l.length):Sp.cat (l.take (j+1))=Sp.cat (l.take j)++(l.getD j (Ty.dflt (.arr 32 (.int .u8)))).take 32:=by
 have e:l.getD j (Ty.dflt (.arr 32 (.int .u8)))=l[j]:=by simp[List.getD_eq_getElem?_getD,hj]
 rw[List.take_succ_eq_append_getElem hj,e]
 simp only[Sp.cat,List.flatMap_append,List.flatMap_cons,List.flatMap_nil,List.append_nil]
theorem leafE_loop(o:List Int)(l:List (List Int))(hl:l.length<1000000):∀(d m j:Nat),j+d=l.length->d<m->L_79_0 m l l.length (j:Nat) o (Sp.cat (l.take j))=some (.e0 o (Sp.cat l))
 |0,m+1,j,hj,_=>by
  rw[L_79_0,S_79_0,cond_dff (by omega),List.take_of_length_le (by omega)]
 |d+1,m+1,j,hj,hm=>by
  have h1:=cat_len (l.take j)
  have h2:=tk32 (l.getD j (Ty.dflt (.arr 32 (.int .u8))))
  have h3:(l.take j).length<=1000000:=by rw[List.length_take];omega
  rw[L_79_0,S_79_0,cond_dtt (by omega),gd_inB (by omega) (by omega),Int.toNat_natCast,List.drop_zero,gd_room (by omega) (by omega),wi64 (by omega) (by omega),<-cat_succ l j (by omega)]
  exact leafE_loop o l hl d m (j+1) (by omega) (by omega)
theorem leafE_ok(l:List (List Int))(hl:l.length<1000000):F_79 l=some (Sp.leafE l,()):=by
 have h1:=cat_len l
 have hs:p_35 (Sp.cat l)=true/\v_35 (Sp.cat l)=(Sp.leafE l,()):=pv_35 _ (i_sum _ (by omega))
 unfold F_79
 rw[show L_79_0 4611686018427387904 l l.length 0 (replicate 32 0) []=_ from leafE_loop (replicate 32 0) l hl l.length 4611686018427387904 0 (by omega) (by omega)]
 simp only[B_79_0]
 rw[hs.1,hs.2,gd_tt]
theorem ends_len(s:List Int)(k:Int)(n:Nat):(Sp.ends s k n).length=n:=by simp[Sp.ends]
theorem ends_succ(s:List Int)(k:Int)(n:Nat):Sp.ends s k (n+1)=Sp.ends s k n++[Sp.chn 15 0 (Sp.sec s k n)]:=by simp[Sp.ends,List.range_succ]
theorem leaf_loop(s o:List Int)(k:Int):∀(d m j:Nat),j+d=67->d<m->L_72_0 m k (j:Nat) s o (Sp.ends s k j)=some (.e0 o (Sp.ends s k 67))
 |0,m+1,j,hj,_=>by
  rw[L_72_0,S_72_0,cond_dff (by omega),show j=67 by omega]
 |d+1,m+1,j,hj,hm=>by
  have h1:=pv_71 _ _ _ (sec_ok s k j)
  have h2:=pv_70 _ _ _ (chain_ok (Sp.sec s k j) 0 15 (by decide) (by decide) (by decide))
  rw[L_72_0,S_72_0,cond_dtt (by omega),h1.1,h1.2,gd_tt]
  dsimp only
  rw[h2.1,h2.2,gd_tt,gd_room (by rw[ends_len];omega) (by rw[ends_len];omega),wi64 (by omega) (by omega)]
  dsimp only
  rw[show((15:Int)-0).toNat=15 from rfl,<-ends_succ]
  exact leaf_loop s o k d m (j+1) (by omega) (by omega)
theorem leaf_ok(s:List Int)(k:Int):F_72 s k=some (Sp.leafS s k,()):=by
 have h:=pv_79 _ (leafE_ok (Sp.ends s k 67) (by rw[ends_len];omega))
 unfold F_72
 rw[show L_72_0 4611686018427387904 k 0 s (replicate 32 0) []=_ from leaf_loop s (replicate 32 0) k 67 4611686018427387904 0 (by omega) (by omega)]
 simp only[B_72_0]
 rw[h.1,h.2,gd_tt,Sp.leafS]
theorem above_pv(a b:List Int):p_73 a b=true/\v_73 a b=(Sp.node a b,()):=pv_73 a b (above_ok a b)
theorem leaf_pv(s:List Int)(k:Int):p_72 s k=true/\v_72 s k=(Sp.leafS s k,()):=pv_72 s k (leaf_ok s k)
theorem public_ok(s:List Int):F_37 s=some (Sp.pubK s,()):=by
 unfold F_37
 simp only[(leaf_pv s _).1,(leaf_pv s _).2,(above_pv _ _).1,(above_pv _ _).2,gd_tt,Sp.pubK]
theorem digL_len(h:List Int):(Sp.digL h).length=67:=by simp[Sp.digL,digs_len]
theorem dig_get(h:List Int)(n j:Nat)(hj:j<n):(Sp.digs h n).getD j 0=Sp.dig h j:=by
 simp[Sp.digs,List.getD_eq_getElem?_getD,hj]
theorem digL_get(h:List Int)(j:Nat)(hj:j<64):(Sp.digL h).getD j 0=Sp.dig h j:=by
 unfold Sp.digL
 rw[List.getD_eq_getElem?_getD,List.getElem?_append_left (by rw[digs_len];exact hj),<-List.getD_eq_getElem?_getD,dig_get h 64 j hj]
theorem digL_top(h:List Int):(Sp.digL h).getD 64 0=Sp.dsum h 64/256/\(Sp.digL h).getD 65 0=Sp.dsum h 64/16%16/\(Sp.digL h).getD 66 0=Sp.dsum h 64%16:=by
 unfold Sp.digL
 refine⟨?_,?_,?_⟩<;>(rw[List.getD_eq_getElem?_getD,List.getElem?_append_right (by rw[digs_len];omega),digs_len];rfl)
theorem digL_b{h:List Int}(hb:bytes h)(j:Nat)(hj:j<67):0<=(Sp.digL h).getD j 0/\(Sp.digL h).getD j 0<=15:=by
 have b0:=dsum_b hb 64
 have t:=digL_top h
 rcases Nat.lt_or_ge j 64 with h1|h1
 ·rw[digL_get h j h1];exact dig_b hb j
 ·rcases(show j=64\/j=65\/j=66 by omega)with rfl|rfl|rfl
  ·rw[t.1];omega
  ·rw[t.2.1];omega
  ·rw[t.2.2];omega
noncomputable def anyB(p:Nat->Bool):Nat->Bool
 |0=>false
 |n+1=>anyB p n||p n
set_option maxRecDepth 100000
set_option maxHeartbeats 4000000
abbrev SigT:=Int×List (List Int)×List (List Int)×PUnit
abbrev h0:List Int:=Ty.dflt (.arr 32 (.int .u8))
namespace Sp
noncomputable def shp(s:SigT):Bool:=decide (0<=s.1)&&(decide (s.1<4)&&((s.2.1.length:Int)==67&&(s.2.2.1.length:Int)==2))
noncomputable def vend(d:List Int)(c:List (List Int))(n:Nat):List (List Int):=(List.range n).map fun j:Nat=>chn (15-d.getD j 0).toNat (d.getD j 0) (c.getD j h0)
noncomputable def up(i:Int)(p e:List Int):List Int:=if i=1 then node p e else node e p
noncomputable def verF(key dg:List Int)(s:SigT):Bool:=shp s&&(up (s.1/2) (s.2.2.1.getD 1 h0) (up (s.1%2) (s.2.2.1.getD 0 h0) (leafE (vend (digL dg) s.2.1 67)))==key)
end Sp
theorem shp_ok(s:SigT):F_78 s=some (Sp.shp s,()):=by
 unfold F_78 Sp.shp
 by_cases h1:s.1>=0
 ·by_cases h2:s.1<4
  ·rw[cond_dtt h1,cond_dtt h2,decide_eq_true (show 0<=s.1 from h1),decide_eq_true h2]
   cases ((s.2.1.length:Int)==67)<;>rfl
  ·rw[cond_dtt h1,cond_dff h2,decide_eq_false h2];simp
 ·rw[cond_dff h1,decide_eq_false (show ¬0<=s.1 from h1)];rfl
theorem vend_len(d:List Int)(c:List (List Int))(n:Nat):(Sp.vend d c n).length=n:=by simp[Sp.vend]
theorem vend_succ(d:List Int)(c:List (List Int))(n:Nat):Sp.vend d c (n+1)=Sp.vend d c n++[Sp.chn (15-d.getD n 0).toNat (d.getD n 0) (c.getD n h0)]:=by simp[Sp.vend,List.range_succ]
theorem ver_loop(key dg:List Int)(hb:bytes dg)(s:SigT)(hs:s.2.1.length=67):∀(d m j:Nat),j+d=67->d<m->L_45_0 m (Sp.digL dg) 67 (j:Nat) key s (Sp.vend (Sp.digL dg) s.2.1 j)=some (.e0 key s (Sp.vend (Sp.digL dg) s.2.1 67))
 |0,m+1,j,hj,_=>by
  rw[L_45_0,S_45_0,cond_dff (by omega),show j=67 by omega]
 |d+1,m+1,j,hj,hm=>by
  have hl:=digL_len dg
  have hd:=digL_b hb j (by omega)
  have h2:=pv_70 _ _ _ (chain_ok (s.2.1.getD j h0) ((Sp.digL dg).getD j 0) 15 hd.1 hd.2 (by decide))
  rw[L_45_0,S_45_0,cond_dtt (by omega),gd_inB (by omega) (by omega),gd_inB (by omega) (by omega),Int.toNat_natCast,h2.1,h2.2,gd_tt,gd_room (by rw[vend_len];omega) (by rw[vend_len];omega),wi64 (by omega) (by omega)]
  dsimp only
  rw[<-vend_succ]
  exact ver_loop key dg hb s hs d m (j+1) (by omega) (by omega)
set_option maxRecDepth 100000
set_option maxHeartbeats 4000000
theorem bit_of(i:Int)(h0:0<=i)(h1:i<4):(Sp.andI .i64 (Int.fdiv i (2^Nat.min 0 64)) 1=i%2)/\(Sp.andI .i64 (Int.fdiv i (2^Nat.min 1 64)) 1=i/2):=by
 rcases(show i=0\/i=1\/i=2\/i=3 by omega)with rfl|rfl|rfl|rfl<;>exact⟨by kernel_rfl,by kernel_rfl⟩
theorem up_step(m:Nat)(p:List (List Int))(hp:p.length=2)(j:Nat)(hj:j<2)(key:List Int)(s:SigT)(e:List Int)(b:Int)(hb:Sp.andI .i64 (Int.fdiv s.1 (2^Nat.min j 64)) 1=b):L_45_1 (m+1) p 2 (j:Nat) key s e=L_45_1 m p 2 ((j:Int)+1) key s (Sp.up b (p.getD j h0) e):=by
 have a1:=above_pv (p.getD j h0) e
 have a2:=above_pv e (p.getD j h0)
 rw[L_45_1,S_45_1,cond_dtt (by omega),gd_inB (by omega) (by omega),gd_dec (by omega),Int.toNat_natCast,hb,wi64 (by omega) (by omega)]
 by_cases h:b=1
 ·rw[cond_ett h,a1.1,a1.2,gd_tt,Sp.up,if_pos h]
 ·rw[cond_eff h,a2.1,a2.2,gd_tt,Sp.up,if_neg h]
theorem up_loop(m:Nat)(hm:3<=m)(p:List (List Int))(hp:p.length=2)(key:List Int)(s:SigT)(e:List Int)(h0':0<=s.1)(h1':s.1<4):L_45_1 m p 2 0 key s e=some (.e0 key (Sp.up (s.1/2) (p.getD 1 h0) (Sp.up (s.1%2) (p.getD 0 h0) e))):=by
 obtain⟨m,rfl⟩:∃k,m=k+3:=⟨m-3,by omega⟩
 have hb:=bit_of s.1 h0' h1'
 have s1:=up_step (m+2) p hp 0 (by omega) key s e _ hb.1
 have s2:=up_step (m+1) p hp 1 (by omega) key s (Sp.up (s.1%2) (p.getD 0 h0) e) _ hb.2
 refine s1.trans (s2.trans ?_)
 show L_45_1 (m+1) p 2 2 key s _=_
 rw[L_45_1,S_45_1,cond_dff (by decide)]
theorem shp_spec{s:SigT}(h:Sp.shp s=true):0<=s.1/\s.1<4/\s.2.1.length=67/\s.2.2.1.length=2:=by
 simp only[Sp.shp,Bool.and_eq_true,decide_eq_true_eq,beq_iff_eq]at h
 omega
theorem verify_ok(key dg:List Int)(hb:bytes dg)(s:SigT):F_45 key dg s=some (Sp.verF key dg s,()):=by
 have a:=pv_78 _ (shp_ok s)
 unfold F_45 Sp.verF
 rw[a.1,a.2,gd_tt]
 cases hs:Sp.shp s
 ·rfl
 ·obtain⟨h1,h2,h3,h4⟩:=shp_spec hs
  have d:=pv_69 _ (i_digits dg hb)
  have l:=pv_79 _ (leafE_ok (Sp.vend (Sp.digL dg) s.2.1 67) (by rw[vend_len];omega))
  rw[d.1,d.2,gd_tt]
  dsimp only
  rw[digL_len]
  simp only[Bool.not_true,cond_f]
  rw[show L_45_0 4611686018427387904 (Sp.digL dg) ((67:Nat):Int) 0 key s []=_ from ver_loop key dg hb s h3 67 4611686018427387904 0 (by omega) (by omega)]
  simp only[B_45_0]
  rw[l.1,l.2,gd_tt]
  dsimp only
  rw[h4]
  rw[show L_45_1 4611686018427387904 s.2.2.1 ((2:Nat):Int) 0 key s (Sp.leafE (Sp.vend (Sp.digL dg) s.2.1 67))=_ from up_loop _ (by omega) s.2.2.1 h4 key s _ h1 h2]
  simp only[B_45_1,arr_beq,Bool.true_and]
namespace Sp
noncomputable def wd(a b c d:Int):Int:=orI .u32 (orI .u32 (orI .u32 (wrap .u32 (wrap .u32 a*16777216)) (wrap .u32 (wrap .u32 b*65536))) (wrap .u32 (wrap .u32 c*256))) (wrap .u32 d)
noncomputable def hwd(h:List Int)(i:Nat):Int:=wd (h.getD (4*i) 0) (h.getD (4*i+1) 0) (h.getD (4*i+2) 0) (h.getD (4*i+3) 0)
noncomputable def hws(h:List Int)(n:Nat):List Int:=(List.range n).map (hwd h)
noncomputable def cws(l:List (List Int)):List Int:=l.flatMap fun h=>hws h 8
noncomputable def wordsF(s:SigT):List Int:=[wrap .u32 s.1]++cws s.2.1++cws s.2.2.1
end Sp
theorem hws_len(h:List Int)(n:Nat):(Sp.hws h n).length=n:=by simp[Sp.hws]
theorem hws_succ(h:List Int)(n:Nat):Sp.hws h (n+1)=Sp.hws h n++[Sp.hwd h n]:=by simp[Sp.hws,List.range_succ]
theorem cws_len:∀l:List (List Int),(Sp.cws l).length=8*l.length
 |[]=>rfl
 |h::l=>by
  have:=cws_len l
  simp only[Sp.cws,List.flatMap_cons,List.length_append,List.length_cons,hws_len]at this⊢
  omega
theorem cws_succ(l:List (List Int))(j:Nat)(hj:j<l.length):Sp.cws (l.take (j+1))=Sp.cws (l.take j)++Sp.hws (l.getD j h0) 8:=by
 rw[List.take_succ_eq_append_getElem hj,getD_at _ hj]
 simp only[Sp.cws,List.flatMap_append,List.flatMap_cons,List.flatMap_nil,List.append_nil]
set_option maxRecDepth 100000
set_option maxHeartbeats 4000000
namespace Sp
noncomputable def byt(w:List Int)(k i:Nat):Int:=wrap .u8 (Int.fdiv (w.getD (1+8*k+i/4) 0) (2^(24-8*(i%4))))
noncomputable def rdp(w:List Int)(k n:Nat):List Int:=(List.range 32).map fun i=>if i<n then byt w k i else 0
noncomputable def rdh(w:List Int)(k:Nat):List Int:=(List.range 32).map (byt w k)
noncomputable def rdC(w:List Int)(n:Nat):List (List Int):=(List.range (min n 67)).map (rdh w)
noncomputable def rdP(w:List Int)(n:Nat):List (List Int):=(List.range (n-67)).map fun j=>rdh w (67+j)
noncomputable def rd(w:List Int):SigT:=(wrap .i64 (w.getD 0 0),rdC w 69,rdP w 69,())
noncomputable def okw(w:List Int):Bool:=decide (w.length=553)&&decide (w.getD 0 0<4)
end Sp
theorem rdp_zero(w:List Int)(k:Nat):Sp.rdp w k 0=replicate 32 0:=by
 unfold Sp.rdp
 apply List.ext_getElem
 ·simp
 ·intro i h1 h2;rw[List.getElem_replicate,List.getElem_map,List.getElem_range,if_neg (by omega)]
theorem rdp_full(w:List Int)(k:Nat):Sp.rdp w k 32=Sp.rdh w k:=by
 unfold Sp.rdp Sp.rdh
 refine List.map_congr_left fun i hi=> ?_
 rw[if_pos (by simpa using hi)]
theorem set_map(f:Nat->Int)(n a:Nat)(v:Int):((List.range n).map f).set a v=(List.range n).map fun i=>if i=a then v else f i:=by
 apply List.ext_getElem
 ·simp
 ·intro i h1 h2
  simp only[List.getElem_set,List.getElem_map,List.getElem_range]
  by_cases h:a=i
  ·subst h;simp
  ·rw[if_neg h,if_neg (fun e=>h e.symm)]
theorem rdp_set(w:List Int)(k n:Nat):(Sp.rdp w k n).set n (Sp.byt w k n)=Sp.rdp w k (n+1):=by
 unfold Sp.rdp
 rw[set_map]
 refine List.map_congr_left fun i _=> ?_
 by_cases h:i=n
 ·subst h;rw[if_pos rfl,if_pos (by omega)]
 ·rw[if_neg h]
  by_cases h2:i<n
  ·rw[if_pos h2,if_pos (by omega)]
  ·rw[if_neg h2,if_neg (by omega)]
theorem byt_at(w:List Int)(k j r:Nat)(hr:r<4):Sp.byt w k (4*j+r)=wrap .u8 (Int.fdiv (w.getD (1+8*k+j) 0) (2^(24-8*r))):=by
 unfold Sp.byt
 rw[show(4*j+r)/4=j by omega,show(4*j+r)%4=r by omega]
theorem fdiv_one(x:Int):Int.fdiv x (2^0)=x:=by simp
theorem rd_inner(w:List Int)(hw:w.length=553)(k:Nat)(hk:k<69)(p2 p4:Int)(p5 p6:List (List Int))(p7:Int)(p8 p9:List (List Int)):L_81_1 4611686018427387904 w k p2 0 p4 p5 p6 p7 p8 p9 (replicate 32 0)=some (.e0 w k p2 p4 p5 p6 p7 p8 p9 (Sp.rdh w k)):=by
 have:=run0 (fun m i s=>L_81_1 m w k p2 i p4 p5 p6 p7 p8 p9 s) (n:=8) (fun j=>Sp.rdp w k (4*j)) (r:=some (.e0 w k p2 p4 p5 p6 p7 p8 p9 (Sp.rdh w k))) (by decide) (fun m j hj=>by
  show L_81_1 (m+1) w k p2 (j:Int) p4 p5 p6 p7 p8 p9 (Sp.rdp w k (4*j))=_
  have e0:wrap .i64 (4*(j:Int))=4*(j:Int):=wi64 (by omega) (by omega)
  have e1:wrap .i64 (wrap .i64 (1+wrap .i64 (8*(k:Int)))+(j:Int))=((1+8*k+j:Nat):Int):=by
   rw[wi64 (n:=8*(k:Int)) (by omega) (by omega),wi64 (n:=1+8*(k:Int)) (by omega) (by omega),wi64 (by omega) (by omega)];omega
  have e2:toNat (4*(j:Int))=4*j:=by omega
  rw[L_81_1,S_81_1,cond_dtt (by omega),e0,e1,e2,Int.toNat_natCast,gd_sl3 (by omega) (by omega) (by omega),gd_inB (by omega) (by omega),gd_inB (by omega) (by omega),gd_inB (by omega) (by omega),gd_inB (by omega) (by omega),gd_inB (by omega) (by omega),Bool.and_true,Bool.and_true,Bool.and_true,Bool.and_true,gd_dec (by omega),gd_dec (by omega),gd_dec (by omega),gd_dec (by omega),wi64 (n:=(j:Int)+1) (by omega) (by omega)]
  have b0:=byt_at w k j 0 (by decide)
  have b1:=byt_at w k j 1 (by decide)
  have b2:=byt_at w k j 2 (by decide)
  have b3:=byt_at w k j 3 (by decide)
  rw[show(24-8*3:Nat)=0 from rfl,fdiv_one]at b3
  have f0:(16777216:Int)=2^(24-8*0):=by decide
  have f1:(65536:Int)=2^(24-8*1):=by decide
  have f2:(256:Int)=2^(24-8*2):=by decide
  have s0:(Sp.rdp w k (4*j)).set (4*j+0) (Sp.byt w k (4*j+0))=Sp.rdp w k (4*j+1):=rdp_set w k (4*j)
  have s1:(Sp.rdp w k (4*j+1)).set (4*j+1) (Sp.byt w k (4*j+1))=Sp.rdp w k (4*j+2):=rdp_set w k (4*j+1)
  have s2:(Sp.rdp w k (4*j+2)).set (4*j+2) (Sp.byt w k (4*j+2))=Sp.rdp w k (4*j+3):=rdp_set w k (4*j+2)
  have s3:(Sp.rdp w k (4*j+3)).set (4*j+3) (Sp.byt w k (4*j+3))=Sp.rdp w k (4*(j+1)):=rdp_set w k (4*j+3)
  rw[f0,f1,f2,<-b0,<-b1,<-b2,<-b3,s0,s1,s2,s3]
  rfl) (fun m=>by
  show L_81_1 (m+1) w k p2 8 p4 p5 p6 p7 p8 p9 (Sp.rdp w k 32)=_
  rw[L_81_1,S_81_1,cond_dff (by decide),rdp_full])
 rw[<-rdp_zero w k]
 exact this
theorem rdC_len(w:List Int)(n:Nat):(Sp.rdC w n).length=min n 67:=by simp[Sp.rdC]
theorem rdP_len(w:List Int)(n:Nat):(Sp.rdP w n).length=n-67:=by simp[Sp.rdP]
theorem rd_succ(w:List Int)(k:Nat):(k<67->Sp.rdC w (k+1)=Sp.rdC w k++[Sp.rdh w k]/\Sp.rdP w (k+1)=Sp.rdP w k)/\(67<=k->Sp.rdC w (k+1)=Sp.rdC w k/\Sp.rdP w (k+1)=Sp.rdP w k++[Sp.rdh w k]):=by
 refine⟨fun h=> ?_,fun h=> ?_⟩
 ·unfold Sp.rdC Sp.rdP
  rw[Nat.min_eq_left (by omega),Nat.min_eq_left (by omega),show k+1-67=0 by omega,show k-67=0 by omega,List.range_succ,List.map_append]
  exact⟨rfl,rfl⟩
 ·unfold Sp.rdC Sp.rdP
  rw[Nat.min_eq_right (by omega),Nat.min_eq_right (by omega),show k+1-67=(k-67)+1 by omega,List.range_succ (n:=k-67),List.map_append]
  refine⟨rfl,?_⟩
  simp only[List.map_cons,List.map_nil,show 67+(k-67)=k by omega]
theorem rd_outer(w:List Int)(hw:w.length=553)(x:Int):L_81_0 4611686018427387904 w 0 0 [] [] x [] []=some (.e0 0 [] [] x (Sp.rdC w 69) (Sp.rdP w 69)):=by
 have:=run0 (fun m i(s:List (List Int)×List (List Int))=>L_81_0 m w i 0 [] [] x s.1 s.2) (n:=69) (fun j=>(Sp.rdC w j,Sp.rdP w j)) (r:=some (.e0 0 [] [] x (Sp.rdC w 69) (Sp.rdP w 69))) (by decide) (fun m j hj=>by
  show L_81_0 (m+1) w (j:Int) 0 [] [] x (Sp.rdC w j) (Sp.rdP w j)=L_81_0 m w ((j+1:Nat):Int) 0 [] [] x (Sp.rdC w (j+1)) (Sp.rdP w (j+1))
  have l1:=rdC_len w j
  have l2:=rdP_len w j
  rw[L_81_0,S_81_0,cond_dtt (by omega),rd_inner w hw j hj]
  simp only[B_81_1]
  rw[wi64 (by omega) (by omega)]
  by_cases h:j<67
  ·rw[cond_dtt (by omega),gd_room (by omega) (by omega),((rd_succ w j).1 h).1,((rd_succ w j).1 h).2];rfl
  ·rw[cond_dff (by omega),gd_room (by omega) (by omega),((rd_succ w j).2 (by omega)).1,((rd_succ w j).2 (by omega)).2];rfl) (fun m=>by
  show L_81_0 (m+1) w 69 0 [] [] x (Sp.rdC w 69) (Sp.rdP w 69)=_
  rw[L_81_0,S_81_0,cond_dff (by decide)])
 exact this
theorem read_ok(w:List Int):F_81 w=some (if Sp.okw w=true then(Sp.rd w,0,())else((0,[],[],()),3,())):=by
 unfold F_81 Sp.okw
 by_cases h1:w.length=553
 ·rw[cond_nff (by omega),decide_eq_true h1,gd_inB (by omega) (by omega)]
  by_cases h2:w.getD 0 0<4
  ·rw[cond_dff (by omega),decide_eq_true h2,gd_inB (by omega) (by omega),rd_outer w h1]
   rfl
  ·rw[cond_dtt (by omega),decide_eq_false h2];rfl
 ·rw[cond_ntt (by omega),decide_eq_false h1];rfl
set_option maxRecDepth 100000
set_option maxHeartbeats 4000000
abbrev HdT:=(Int×Int×List Int×(Int×List (List Int)×List (List Int)×Unit)×Unit)×Bool×Unit
structure HdO(n:Nat)(v:HdT):Prop where
 v0:1<=v.1.1
 v1:v.1.1<=2147483647
 s0:1<=v.1.2.1
 s1:v.1.2.1<=(n:Int)-564
 b:bytes v.1.2.2.1
abbrev hdF:HdT:=((0,0,replicate 32 0,(0,[],[],()),()),false,())
theorem hdF_o{n:Nat}(h:hdF.2.1=true):HdO n hdF:=Bool.noConfusion h
theorem over_b{x y:List Int}{n:Nat}(hx:bytes x)(hy:bytes y):bytes (over x n y):=by
 intro z hz
 unfold over at hz
 rcases List.mem_append.1 hz with h|h
 ·rcases List.mem_append.1 h with h|h
  ·exact hx z (List.mem_of_mem_take h)
  ·exact hy z h
 ·exact hx z (List.mem_of_mem_drop h)
theorem head_ok(w:List Int)(h0:576<=w.length)(h1:w.length<=2048):∃v,F_47 w=some v/\(v.2.1=true->HdO w.length v):=by
 have t1:(take 1 (drop 1 w)).length=1:=by rw[List.length_take,List.length_drop];omega
 have t2:(take 1 (drop 2 w)).length=1:=by rw[List.length_take,List.length_drop];omega
 obtain⟨o,hs,hl,hb⟩:=spr_ok (take 8 (drop 3 w)) (by rw[List.length_take];omega)
 have hs:=pv_44 _ hs
 have hr:=pv_81 _ (read_ok (take 553 (drop 11 w)))
 unfold F_47
 rw[gd_sl3 (by omega) (by omega) (by omega),gd_dec (by omega),gd_inB (by omega) (by rw[t1];decide),gd_dec (by omega),gd_inB (by omega) (by rw[t2];decide),gd_dec (by omega),hs.1,hs.2,gd_tt,gd_sl3 (by omega) (by omega) (by omega),hr.1,gd_tt,wi64 (n:=(w.length:Int)-564) (by omega) (by omega)]
 generalize v_81 (take 553 (drop 11 w))=r
 generalize wrap .i64 (getD (take 1 (drop 1 w)) 0 0)=ver
 generalize wrap .i64 (getD (take 1 (drop 2 w)) 0 0)=sz
 by_cases e:r.2.1=0
 rotate_left
 ·exact⟨hdF,by rw[cond_ntt e],hdF_o⟩
 rw[cond_nff e]
 by_cases e1:ver<1
 ·exact⟨hdF,by rw[cond_dtt e1],hdF_o⟩
 rw[cond_dff e1]
 by_cases e2:ver>2147483647
 ·exact⟨hdF,by rw[cond_dtt e2],hdF_o⟩
 rw[cond_dff e2]
 by_cases e3:sz<1
 ·exact⟨hdF,by rw[cond_dtt e3],hdF_o⟩
 rw[cond_dff e3]
 by_cases e4:sz>(w.length:Int)-564
 ·exact⟨hdF,by rw[cond_dtt e4],hdF_o⟩
 rw[cond_dff e4]
 refine⟨_,rfl,fun _=>⟨by show 1<=ver;omega,by show ver<=2147483647;omega,by show 1<=sz;omega,by show sz<=_;omega,?_⟩⟩
 refine over_b ?_ ?_
 ·intro x hx;rw[List.eq_of_mem_replicate hx];decide
 ·exact fun x hx=>hb x (List.mem_of_mem_take hx)
theorem hdr_ok{a:BayT}(h:BV a)(hb:Sp.bvb a=true)(k:Nat)(hk:k<2):∃v,F_14 a k=some v/\(v.2.1=true->HdO (Sp.hlf a) v):=by
 obtain⟨v,hv,ho⟩:=head_ok (Sp.wds a k) (by rw[wds_len h k hk];exact h.h0) (by rw[wds_len h k hk];exact h.h1)
 rw[wds_len h k hk]at ho
 have hv:=pv_47 _ hv
 refine⟨v,?_,ho⟩
 unfold F_14
 rw[(val_pv a).1,(val_pv a).2,gd_tt,(bank_pv k).1,(bank_pv k).2,gd_tt,(words_pv h k hk).1,(words_pv h k hk).2,gd_tt,hv.1,hv.2,gd_tt,hb,bank_nat k hk]
 rfl
theorem hdr_pv{a:BayT}(h:BV a)(hb:Sp.bvb a=true)(k:Nat)(hk:k<2):p_14 a k=true/\((v_14 a k).2.1=true->HdO (Sp.hlf a) (v_14 a k)):=by
 obtain⟨v,hv,ho⟩:=hdr_ok h hb k hk
 have:=pv_14 a k hv
 exact⟨this.1,by rw[this.2];exact ho⟩
theorem good_ok{a:BayT}(h:BV a)(hb:Sp.bvb a=true)(k:Nat)(hk:k<2):∃g:Bool,F_13 a k=some (g,())/\(g=true->(v_14 a k).2.1=true):=by
 have hh:=hdr_pv h hb k hk
 have hl:=wds_len h k hk
 have h0:=h.h0
 have h1:=h.h1
 unfold F_13
 rw[hh.1,gd_tt]
 cases e:(v_14 a k).2.1
 ·exact⟨false,rfl,id⟩
 have o:=hh.2 e
 have o1:=o.s0
 have o2:=o.s1
 rw[(words_pv h k hk).1,(words_pv h k hk).2,gd_tt]
 have c:=pv_43 _ (cat_ok (take 2 (drop 1 (Sp.wds a k))) (take (toNat (wrap .i64 (564+(v_14 a k).1.2.1))-564) (drop 564 (Sp.wds a k))) (by rw[List.length_take];omega) (by rw[List.length_take,List.length_drop];omega))
 have cl:(take 2 (drop 1 (Sp.wds a k))++take (toNat (wrap .i64 (564+(v_14 a k).1.2.1))-564) (drop 564 (Sp.wds a k))).length<=10000:=by rw[List.length_append,List.length_take,List.length_take,List.length_drop,List.length_drop];omega
 obtain⟨q,hq,ql,qb⟩:=spr_ok (take 2 (drop 1 (Sp.wds a k))++take (toNat (wrap .i64 (564+(v_14 a k).1.2.1))-564) (drop 564 (Sp.wds a k))) (by omega)
 have hq:=pv_44 _ hq
 have hs:=pv_35 _ (i_sum q (by omega))
 have hv:=pv_45 _ _ _ (verify_ok a.2.1 (v_14 a k).1.2.2.1 o.b (v_14 a k).1.2.2.2.1)
 dsimp only
 rw[gd_sl3 (by omega) (by omega) (by omega),gd_sl3 (lo:=564) (by omega) (by rw[wi64 (by omega) (by omega)];omega) (by rw[wi64 (by omega) (by omega)];omega),c.1,c.2,gd_tt,show((take 2 (drop 1 (Sp.wds a k))++take (toNat (wrap .i64 (564+(v_14 a k).1.2.1))-564) (drop 564 (Sp.wds a k))),()).1=(take 2 (drop 1 (Sp.wds a k))++take (toNat (wrap .i64 (564+(v_14 a k).1.2.1))-564) (drop 564 (Sp.wds a k)))from rfl,hq.1,hq.2,gd_tt,hs.1,hs.2,gd_tt,hv.1,hv.2,gd_tt]
 cases Ty.beq (.arr 32 (.int .u8)) (Sp.sha q) (v_14 a k).1.2.2.1
 ·exact⟨false,rfl,fun _=>rfl⟩
 ·exact⟨_,rfl,fun _=>rfl⟩
theorem good_pv{a:BayT}(h:BV a)(hb:Sp.bvb a=true)(k:Nat)(hk:k<2):p_13 a k=true/\((v_13 a k).1=true->(v_14 a k).2.1=true):=by
 obtain⟨g,hg,ho⟩:=good_ok h hb k hk
 have:=pv_13 a k hg
 exact⟨this.1,by rw[this.2];exact ho⟩
namespace Sp
noncomputable def acb(a:BayT)(k:Nat):Bool:=a.1.1.getD (k*hlf a) 0==0
noncomputable def gdb(a:BayT)(k:Nat):Bool:=(v_13 a k).1
noncomputable def vr(a:BayT)(k:Nat):Int:=(v_14 a k).1.1
noncomputable def cnd(a:BayT)(k:Nat):Bool:=acb a k&&gdb a k
noncomputable def sel(a:BayT):Int×Int×Unit:=bif cnd a 0 then(bif cnd a 1&&decide (vr a 1>vr a 0)then(1,0,())else(0,0,()))else bif cnd a 1 then(1,0,())else(0,7,())
end Sp
structure BB(a:BayT):Prop where
 v:BV a
 b:Sp.bvb a=true
theorem BB.vr1{a:BayT}(h:BB a)(k:Nat)(hk:k<2)(hg:Sp.gdb a k=true):(v_14 a k).2.1=true/\1<=Sp.vr a k:=by
 have o:=(good_pv h.v h.b k hk).2 hg
 exact⟨o,((hdr_pv h.v h.b k hk).2 o).v0⟩
theorem sel_step{a:BayT}(h:BB a)(k:Nat)(hk:k<2)(m:Nat)(b v:Int):L_17_0 (m+1) b v k a=bif decide (Sp.vr a k>v)&&Sp.cnd a k then L_17_0 m k (Sp.vr a k) ((k+1:Nat):Int) a else L_17_0 m b v ((k+1:Nat):Int) a:=by
 have e:wrap .i64 ((k:Int)+1)=((k+1:Nat):Int):=by rw[wi64 (by omega) (by omega)];push_cast;rfl
 have hg:=h.vr1 k hk
 rw[L_17_0,S_17_0,cond_dtt (by omega),(hdr_pv h.v h.b k hk).1,gd_tt,(act_pv h.v k hk).1,(act_pv h.v k hk).2,gd_tt,(good_pv h.v h.b k hk).1,gd_tt,e]
 show(bif(v_14 a k).2.1 then bif decide (Sp.vr a k>v)then bif Sp.acb a k then bif Sp.gdb a k then _ else _ else _ else _ else _)=_
 unfold Sp.cnd
 cases e1:Sp.gdb a k
 ·cases (v_14 a k).2.1<;>cases decide (Sp.vr a k>v)<;>cases Sp.acb a k<;>rfl
 ·rw[(hg e1).1]
  cases decide (Sp.vr a k>v)<;>cases Sp.acb a k<;>rfl
theorem sel_ok{a:BayT}(h:BB a):F_17 a=some (Sp.sel a):=by
 have l:∃b v,L_17_0 4611686018427387904 0 0 0 a=some (.e0 b v)/\(bif v==0 then(0,7,())else(b,0,()))=Sp.sel a:=by
  have s0:=sel_step h 0 (by decide) 4611686018427387903 0 0
  have s1:=fun b v=>sel_step h 1 (by decide) 4611686018427387902 b v
  have s2:∀b v,L_17_0 4611686018427387902 b v ((2:Nat):Int) a=some (.e0 b v):=fun b v=>by
   show L_17_0 (4611686018427387901+1) b v 2 a=_
   rw[L_17_0,S_17_0,cond_dff (by decide)]
  have g0:=h.vr1 0 (by decide)
  have g1:=h.vr1 1 (by decide)
  have k0:Sp.cnd a 0=true->1<=Sp.vr a 0:=fun e=>(g0 ((Bool.and_eq_true_iff.1 e).2)).2
  have k1:Sp.cnd a 1=true->1<=Sp.vr a 1:=fun e=>(g1 ((Bool.and_eq_true_iff.1 e).2)).2
  unfold Sp.sel
  cases c0:Sp.cnd a 0<;>cases c1:Sp.cnd a 1
  ·rw[c0,Bool.and_false,cond_f]at s0
   have s1:=s1 0 0
   rw[c1,Bool.and_false,cond_f]at s1
   exact⟨0,0,s0.trans (s1.trans (s2 ..)),rfl⟩
  ·rw[c0,Bool.and_false,cond_f]at s0
   have s1:=s1 0 0
   rw[c1,Bool.and_true,cond_dtt (by have:=k1 c1;omega)]at s1
   exact⟨1,Sp.vr a 1,s0.trans (s1.trans (s2 ..)),by rw[cond_eff (by have:=k1 c1;omega)];rfl⟩
  ·rw[c0,Bool.and_true,cond_dtt (by have:=k0 c0;omega)]at s0
   have s1:=s1 0 (Sp.vr a 0)
   rw[c1,Bool.and_false,cond_f]at s1
   exact⟨0,Sp.vr a 0,s0.trans (s1.trans (s2 ..)),by rw[cond_eff (by have:=k0 c0;omega)];rfl⟩
  ·rw[c0,Bool.and_true,cond_dtt (by have:=k0 c0;omega)]at s0
   have s1:=s1 0 (Sp.vr a 0)
   rw[c1,Bool.and_true]at s1
   by_cases e:Sp.vr a 1>Sp.vr a 0
   ·rw[cond_dtt e]at s1
    exact⟨1,Sp.vr a 1,s0.trans (s1.trans (s2 ..)),by rw[cond_eff (by have:=k1 c1;omega),decide_eq_true e];rfl⟩
   ·rw[cond_dff e]at s1
    exact⟨0,Sp.vr a 0,s0.trans (s1.trans (s2 ..)),by rw[cond_eff (by have:=k0 c0;omega),decide_eq_false e];rfl⟩
 obtain⟨b,v,hl,hr⟩:=l
 unfold F_17
 rw[(val_pv a).1,(val_pv a).2,gd_tt,h.b,<-hr,show(!(true,()).1)=false from rfl,cond_f]
 refine(congrArg (fun z=>B_17_0 z _) hl).trans ?_
 show(bif v==0 then some (0,7,())else some (b,0,()))=_
 cases v==0<;>rfl
theorem sel_pv{a:BayT}(h:BB a):p_17 a=true/\v_17 a=Sp.sel a:=pv_17 a (sel_ok h)
theorem atv_pv{a:BayT}(h:BB a):p_19 a=true/\v_19 a=((Sp.sel a).1,(Sp.sel a).2.1==0,()):=by
 refine pv_19 a ?_
 unfold F_19
 rw[(sel_pv h).1,(sel_pv h).2,gd_tt]
namespace Sp
noncomputable def sb(a:BayT):Nat:=bif cnd a 0 then(bif cnd a 1&&decide (vr a 1>vr a 0)then 1 else 0)else bif cnd a 1 then 1 else 0
noncomputable def has(a:BayT):Bool:=cnd a 0||cnd a 1
noncomputable def lst(a:BayT):Int:=bif has a then vr a (sb a)else 0
end Sp
theorem sb_lt(a:BayT):Sp.sb a<2:=by
 unfold Sp.sb
 cases Sp.cnd a 0<;>cases Sp.cnd a 1<;>cases decide (Sp.vr a 1>Sp.vr a 0)<;>decide
theorem sel_eq(a:BayT):(Sp.sel a).1=(Sp.sb a:Int)/\((Sp.sel a).2.1==0)=Sp.has a:=by
 unfold Sp.sb Sp.sel Sp.has
 cases Sp.cnd a 0<;>cases Sp.cnd a 1<;>cases decide (Sp.vr a 1>Sp.vr a 0)<;>exact⟨rfl,rfl⟩
theorem atv{a:BayT}(h:BB a):p_19 a=true/\v_19 a=((Sp.sb a:Int),Sp.has a,()):=by
 rw[<-(sel_eq a).1,<-(sel_eq a).2]
 exact atv_pv h
theorem lst_pv{a:BayT}(h:BB a):p_20 a=true/\v_20 a=(Sp.lst a,()):=by
 refine pv_20 a ?_
 unfold F_20 Sp.lst
 rw[(atv h).1,(atv h).2,gd_tt]
 show(bif !(Sp.has a)then some (0,())else gd (p_14 a (Sp.sb a)) (some ((v_14 a (Sp.sb a)).1.1,())))=_
 rw[(hdr_pv h.v h.b _ (sb_lt a)).1,gd_tt]
 cases Sp.has a<;>rfl
theorem cnd_sb{a:BayT}(h:Sp.has a=true):Sp.cnd a (Sp.sb a)=true:=by
 unfold Sp.has at h
 unfold Sp.sb
 cases c0:Sp.cnd a 0<;>cases c1:Sp.cnd a 1
 ·rw[c0,c1]at h;exact Bool.noConfusion h
 ·exact c1
 ·exact c0
 ·cases decide (Sp.vr a 1>Sp.vr a 0)
  ·exact c0
  ·exact c1
set_option maxRecDepth 100000
set_option maxHeartbeats 4000000
theorem tk1_get(w:List Int)(n:Nat):(take 1 (drop n w)).getD 0 0=w.getD n 0:=by
 simp only[List.getD_eq_getElem?_getD,List.getElem?_take,List.getElem?_drop]
 rfl
namespace Sp
noncomputable def hx(w:List Int):HdT:=bif okw (take 553 (drop 11 w))then bif decide (wrap .i64 (w.getD 1 0)<1)then hdF else bif decide (wrap .i64 (w.getD 1 0)>2147483647)then hdF else bif decide (wrap .i64 (w.getD 2 0)<1)then hdF else bif decide (wrap .i64 (w.getD 2 0)>(w.length:Int)-564)then hdF else((wrap .i64 (w.getD 1 0),wrap .i64 (w.getD 2 0),spr (take 8 (drop 3 w)),rd (take 553 (drop 11 w)),()),true,())else hdF
end Sp
theorem head_eq(w:List Int)(h0:576<=w.length)(h1:w.length<=2048):F_47 w=some (Sp.hx w):=by
 have t1:(take 1 (drop 1 w)).length=1:=by rw[List.length_take,List.length_drop];omega
 have t2:(take 1 (drop 2 w)).length=1:=by rw[List.length_take,List.length_drop];omega
 have t8:(take 8 (drop 3 w)).length=8:=by rw[List.length_take,List.length_drop];omega
 have hs:=pv_44 _ (spr_eq (take 8 (drop 3 w)) (by omega))
 have hr:=pv_81 _ (read_ok (take 553 (drop 11 w)))
 have ho:over (replicate 32 0) 0 (take 32 (Sp.spr (take 8 (drop 3 w))))=Sp.spr (take 8 (drop 3 w)):=by
  have l:=spr_len (take 8 (drop 3 w))
  rw[t8]at l
  rw[List.take_of_length_le (by omega)]
  unfold over
  rw[l]
  simp
 unfold F_47 Sp.hx
 rw[gd_sl3 (by omega) (by omega) (by omega),gd_dec (by omega),gd_inB (by omega) (by rw[t1];decide),gd_dec (by omega),gd_inB (by omega) (by rw[t2];decide),gd_dec (by omega),hs.1,hs.2,gd_tt,gd_sl3 (by omega) (by omega) (by omega),hr.1,hr.2,gd_tt,wi64 (n:=(w.length:Int)-564) (by omega) (by omega),tk1_get,tk1_get]
 dsimp only
 rw[ho]
 generalize wrap .i64 (w.getD 1 0)=ver
 generalize wrap .i64 (w.getD 2 0)=sz
 generalize Sp.spr (take 8 (drop 3 w))=s8
 cases e:Sp.okw (take 553 (drop 11 w))
 ·rfl
 rw[if_pos rfl]
 show(bif decide (ver<1)then _ else _)=_
 cases decide (ver<1)<;>cases decide (ver>2147483647)<;>cases decide (sz<1)<;>cases decide (sz>(w.length:Int)-564)<;>rfl
theorem hdr_eq{a:BayT}(h:BB a)(k:Nat)(hk:k<2):F_14 a k=some (Sp.hx (Sp.wds a k)):=by
 have hv:=pv_47 _ (head_eq (Sp.wds a k) (by rw[wds_len h.v k hk];exact h.v.h0) (by rw[wds_len h.v k hk];exact h.v.h1))
 unfold F_14
 rw[(val_pv a).1,(val_pv a).2,gd_tt,(bank_pv k).1,(bank_pv k).2,gd_tt,(words_pv h.v k hk).1,(words_pv h.v k hk).2,gd_tt,hv.1,hv.2,gd_tt,h.b,bank_nat k hk]
 rfl
set_option maxRecDepth 100000
set_option maxHeartbeats 4000000
namespace Sp
noncomputable def wb1(x:Int)(k:Nat):Int:=wrap .u8 (Int.fdiv x (2^(24-8*k)))
end Sp
set_option maxRecDepth 100000
set_option maxHeartbeats 4000000
abbrev W32(a:BayT):Prop:=∀x∈a.1.1,0<=x/\x<4294967296
theorem hx_ok{w:List Int}(h:(Sp.hx w).2.1=true):(Sp.hx w).1.1=wrap .i64 (w.getD 1 0)/\(Sp.hx w).1.2.1=wrap .i64 (w.getD 2 0):=by
 unfold Sp.hx at h⊢
 revert h
 cases Sp.okw (take 553 (drop 11 w))<;>cases decide (wrap .i64 (w.getD 1 0)<1)<;>cases decide (wrap .i64 (w.getD 1 0)>2147483647)<;>cases decide (wrap .i64 (w.getD 2 0)<1)<;>cases decide (wrap .i64 (w.getD 2 0)>(w.length:Int)-564)<;>first|exact fun h=>Bool.noConfusion h|exact fun _=>⟨rfl,rfl⟩
theorem v14_eq{a:BayT}(h:BB a)(k:Nat)(hk:k<2):v_14 a k=Sp.hx (Sp.wds a k):=(pv_14 a k (hdr_eq h k hk)).2
theorem two_eq(w:List Int)(h:3<=w.length):take 2 (drop 1 w)=[w.getD 1 0,w.getD 2 0]:=by
 match w,h with
 |a::b::c::t,_=>rfl
theorem bank_cases(k:Int):(∃n:Nat,n<2/\k=n)\/(k==0||k==1)=false:=by
 by_cases h0:k=0
 ·exact .inl ⟨0,by decide,h0⟩
 by_cases h1:k=1
 ·exact .inl ⟨1,by decide,h1⟩
 right
 rw[beq_eq_false_iff_ne.2 h0,beq_eq_false_iff_ne.2 h1]
 rfl
theorem chk_ok{a:BayT}(h:BB a)(k:Nat)(hk:k<2)(hg:Sp.gdb a k=true):p_60 a k=true/\v_60 a k=(0,()):=by
 refine pv_60 a k ?_
 unfold F_60
 rw[(val_pv a).1,(val_pv a).2,gd_tt,(bank_pv k).1,(bank_pv k).2,gd_tt,(good_pv h.v h.b k hk).1,gd_tt,h.b,bank_nat k hk,show(v_13 a k).1=true from hg]
 rfl
abbrev bF:BayT:=(([],[],0,()),replicate 32 0,())
theorem hdr_no{a:BayT}(h:BB a){k:Int}(hk:(k==0||k==1)=false):p_14 a k=true/\v_14 a k=hdF:=by
 refine pv_14 a k ?_
 unfold F_14
 rw[(val_pv a).1,(val_pv a).2,gd_tt,(bank_pv k).1,(bank_pv k).2,gd_tt,h.b,hk]
 rfl
theorem hdr_p{a:BayT}(h:BB a)(k:Int):p_14 a k=true:=by
 rcases bank_cases k with⟨n,hn,rfl⟩|hk
 ·exact(hdr_pv h.v h.b n hn).1
 ·exact(hdr_no h hk).1
theorem chk_no{a:BayT}(h:BB a){k:Int}(hk:(k==0||k==1)=false):p_60 a k=true/\v_60 a k=(2,()):=by
 refine pv_60 a k ?_
 unfold F_60
 rw[(val_pv a).1,(val_pv a).2,gd_tt,(bank_pv k).1,(bank_pv k).2,gd_tt,h.b,hk]
 rfl
theorem chk_bad{a:BayT}(h:BB a)(k:Nat)(hk:k<2)(hg:Sp.gdb a k=false):p_60 a k=true/\v_60 a k=(14,()):=by
 refine pv_60 a k ?_
 unfold F_60
 rw[(val_pv a).1,(val_pv a).2,gd_tt,(bank_pv k).1,(bank_pv k).2,gd_tt,(good_pv h.v h.b k hk).1,gd_tt,h.b,bank_nat k hk,show(v_13 a k).1=false from hg]
 rfl
theorem j0_bad{a:BayT}(h:BB a)(k c:Int)(hc:c≠0)(p:PwT)(x4:Int×Unit)(x5:List Int×Unit)(x6 x7:List Int)(x8:PwT):J_31_0 k c a p x4 x5 x6 x7 x8=some (.e0 c):=by
 unfold J_31_0 S_31_0
 rw[hdr_p h,gd_tt,cond_eff hc]
 have:J_31_1 k c a p x4 x5 x6 x7 x8=some (.e0 c):=by
  unfold J_31_1 S_31_1
  rw[cond_ntt hc]
 rw[this]
 rfl
theorem j0_old{a:BayT}(h:BB a)(k:Nat)(hk:k<2)(hv:Sp.vr a k<Sp.lst a)(p:PwT)(x4:Int×Unit)(x5:List Int×Unit)(x6 x7:List Int)(x8:PwT):J_31_0 k 0 a p x4 x5 x6 x7 x8=some (.e0 20):=by
 unfold J_31_0 S_31_0
 rw[hdr_p h,gd_tt,cond_ett rfl,(lst_pv h).1,(lst_pv h).2,gd_tt]
 rw[show decide ((v_14 a k).1.1<(Sp.lst a,()).1)=true from decide_eq_true hv,cond_t]
 rfl
theorem off31{a:BayT}(h:BV a)(k:Nat)(hk:k<2):wrap .i64 (Int.tdiv (wrap .i64 ((k:Int)*(a.1.1.length:Int))) 2)=((k*Sp.hlf a:Nat):Int):=by
 have h1:=h.h1
 have l:=h.l
 have e:(k:Int)*(a.1.1.length:Int)=((2*(k*Sp.hlf a):Nat):Int):=by
  rw[l,<-Int.natCast_mul,Nat.mul_left_comm]
 have:k*Sp.hlf a<=1*Sp.hlf a:=Nat.mul_le_mul_right _ (by omega)
 rw[e,wi64 (n:=((2*(k*Sp.hlf a):Nat):Int)) (by omega) (by omega),Int.tdiv_eq_ediv_of_nonneg (by omega),show((2*(k*Sp.hlf a):Nat):Int)/2=((k*Sp.hlf a:Nat):Int) by omega,wi64 (by omega) (by omega)]
theorem j0_good{a:BayT}(h:BB a)(k:Nat)(hk:k<2)(hv:Sp.lst a<=Sp.vr a k)(p:PwT)(h0:0<=p.1)(h1:p.1<=1099511627776)(x4:Int×Unit)(x5:List Int×Unit)(x6 x7:List Int)(x8:PwT):J_31_0 k 0 a p x4 x5 x6 x7 x8=some (.e2 k a p):=by
 have hl:=off_lt h.v k hk
 have hh:=h.v.h0
 have q:=prg_pv (f:=a.1) (p:=p) (k:=k*Sp.hlf a) (w:=0) h.v.v h0 h1 (by omega)
 have h1':=h.v.h1
 have:k*Sp.hlf a<=1*Sp.hlf a:=Nat.mul_le_mul_right _ (by omega)
 unfold J_31_0 S_31_0
 rw[hdr_p h,gd_tt,cond_ett rfl,(lst_pv h).1,(lst_pv h).2,gd_tt]
 rw[show decide ((v_14 a k).1.1<(Sp.lst a,()).1)=false from decide_eq_false (by show ¬(Sp.vr a k<Sp.lst a);omega),cond_f]
 have:J_31_1 k 0 a p x4 x5 x6 x7 x8=some (.e2 k a p):=by
  unfold J_31_1 S_31_1
  rw[cond_nff rfl,off31 h.v k hk,Int.add_zero,wi64 (by omega) (by omega),q.1,q.2,gd_tt]
  unfold Sp.prg
  by_cases e:p.1=0
  ·rw[if_pos e];rfl
  rw[if_neg e]
  by_cases e:p.1=1
  ·rw[if_pos e];rfl
  rw[if_neg e];rfl
 rw[this]
 rfl
theorem act_good{a:BayT}(h:BB a)(k:Nat)(hk:k<2)(hg:Sp.gdb a k=true)(ha:Sp.acb a k=false)(hv:Sp.lst a<=Sp.vr a k)(p:PwT)(h0:0<=p.1)(h1:p.1<=1099511627776):F_31 a k p=some (((Sp.prg a.1 (k*Sp.hlf a) 0 p).1,a.2.1,()),(Sp.prg a.1 (k*Sp.hlf a) 0 p).2.1,(Sp.prg a.1 (k*Sp.hlf a) 0 p).2.2.1,()):=by
 have hl:=off_lt h.v k hk
 have hh:=h.v.h0
 have h1':=h.v.h1
 have:k*Sp.hlf a<=1*Sp.hlf a:=Nat.mul_le_mul_right _ (by omega)
 have q:=prg_pv (f:=a.1) (p:=p) (k:=k*Sp.hlf a) (w:=0) h.v.v h0 h1 (by omega)
 unfold F_31
 rw[cond_dff (by omega),full_pv.1,full_pv.2,gd_tt,cond_dff (by show ¬(p.1>1099511627776);omega),(chk_ok h k hk hg).1,(chk_ok h k hk hg).2,gd_tt,cond_ett rfl,(act_pv h.v k hk).1,gd_tt,show(v_51 a k).1=false from by rw[(act_pv h.v k hk).2];exact ha,cond_f]
 refine(congrArg (fun z=>B_31_0 z _ _ _) (j0_good h k hk hv p h0 h1 (0,()) (replicate 32 0,()) [] [] (0,0,()))).trans ?_
 unfold B_31_0
 dsimp only
 rw[off31 h.v k hk,Int.add_zero,wi64 (by omega) (by omega),q.2]
noncomputable def Cd(a:BayT)(k c:Int):Prop:=((k==0||k==1)=false/\c=2)\/∃n:Nat,n<2/\k=n/\((Sp.gdb a n=false/\c=14)\/(Sp.gdb a n=true/\Sp.acb a n=true/\c=6)\/(Sp.gdb a n=true/\Sp.acb a n=false/\Sp.vr a n<Sp.lst a/\c=20))
theorem act_any{a:BayT}(h:BB a)(k:Int):(∃c,c≠0/\Cd a k c/\∀p:PwT,0<=p.1->p.1<=1099511627776->F_31 a k p=some (bF,(0,0,()),c,()))\/(∃n:Nat,n<2/\k=n/\Sp.gdb a n=true/\Sp.acb a n=false/\Sp.lst a<=Sp.vr a n):=by
 have bad:∀c,c≠0->p_60 a k=true->v_60 a k=(c,())->∀p:PwT,0<=p.1->p.1<=1099511627776->F_31 a k p=some (bF,(0,0,()),c,()):=by
  intro c hc cp cv p h0 h1
  unfold F_31
  rw[cond_dff (by omega),full_pv.1,full_pv.2,gd_tt,cond_dff (by show ¬(p.1>1099511627776);omega),cp,cv,gd_tt,cond_eff hc]
  exact(congrArg (fun z=>B_31_0 z _ _ _) (j0_bad h k c hc p (0,()) (replicate 32 0,()) [] [] (0,0,()))).trans rfl
 rcases bank_cases k with⟨n,hn,rfl⟩|hk
 rotate_left
 ·exact .inl ⟨2,by decide,.inl ⟨hk,rfl⟩,bad 2 (by decide) (chk_no h hk).1 (chk_no h hk).2⟩
 cases hg:Sp.gdb a n
 ·exact .inl ⟨14,by decide,.inr ⟨n,hn,rfl,.inl ⟨hg,rfl⟩⟩,bad 14 (by decide) (chk_bad h n hn hg).1 (chk_bad h n hn hg).2⟩
 have pre:∀p:PwT,0<=p.1->p.1<=1099511627776->F_31 a n p=bif Sp.acb a n then B_31_0 (J_31_0 n 6 a p (0,()) (replicate 32 0,()) [] [] (0,0,())) (fun y=>some (bF,(0,0,()),y,())) (fun y26 y27 y28=>some (bF,(0,0,()),(v_63 y27.1 (wrap .i64 (wrap .i64 (Int.tdiv (wrap .i64 (y26*(y27.1.1.length:Int))) 2)+0)) 0 y28).2.2.1,())) (fun y29 y30 y31=>some (((v_63 y30.1 (wrap .i64 (wrap .i64 (Int.tdiv (wrap .i64 (y29*(y30.1.1.length:Int))) 2)+0)) 0 y31).1,y30.2.1,()),(v_63 y30.1 (wrap .i64 (wrap .i64 (Int.tdiv (wrap .i64 (y29*(y30.1.1.length:Int))) 2)+0)) 0 y31).2.1,(v_63 y30.1 (wrap .i64 (wrap .i64 (Int.tdiv (wrap .i64 (y29*(y30.1.1.length:Int))) 2)+0)) 0 y31).2.2.1,()))else B_31_0 (J_31_0 n 0 a p (0,()) (replicate 32 0,()) [] [] (0,0,())) (fun y=>some (bF,(0,0,()),y,())) (fun y26 y27 y28=>some (bF,(0,0,()),(v_63 y27.1 (wrap .i64 (wrap .i64 (Int.tdiv (wrap .i64 (y26*(y27.1.1.length:Int))) 2)+0)) 0 y28).2.2.1,())) (fun y29 y30 y31=>some (((v_63 y30.1 (wrap .i64 (wrap .i64 (Int.tdiv (wrap .i64 (y29*(y30.1.1.length:Int))) 2)+0)) 0 y31).1,y30.2.1,()),(v_63 y30.1 (wrap .i64 (wrap .i64 (Int.tdiv (wrap .i64 (y29*(y30.1.1.length:Int))) 2)+0)) 0 y31).2.1,(v_63 y30.1 (wrap .i64 (wrap .i64 (Int.tdiv (wrap .i64 (y29*(y30.1.1.length:Int))) 2)+0)) 0 y31).2.2.1,())):=by
  intro p h0 h1
  unfold F_31
  rw[cond_dff (by omega),full_pv.1,full_pv.2,gd_tt,cond_dff (by show ¬(p.1>1099511627776);omega),(chk_ok h n hn hg).1,(chk_ok h n hn hg).2,gd_tt,cond_ett rfl,(act_pv h.v n hn).1,(act_pv h.v n hn).2,gd_tt]
  rfl
 cases ha:Sp.acb a n
 rotate_left
 ·refine .inl ⟨6,by decide,.inr ⟨n,hn,rfl,.inr (.inl ⟨hg,ha,rfl⟩)⟩,fun p h0 h1=> ?_⟩
  rw[pre p h0 h1,ha,cond_t,j0_bad h n 6 (by decide) p]
  rfl
 by_cases hv:Sp.vr a n<Sp.lst a
 ·refine .inl ⟨20,by decide,.inr ⟨n,hn,rfl,.inr (.inr ⟨hg,ha,hv,rfl⟩)⟩,fun p h0 h1=> ?_⟩
  rw[pre p h0 h1,ha,cond_f,j0_old h n hn hv p]
  rfl
 ·exact .inr ⟨n,hn,rfl,hg,ha,by omega⟩
theorem bv_back(b:BitVec 32):BitVec.ofInt 32 (wrap .u32 ((b.toNat:Nat):Int))=b:=by
 rw[u32_wrap_nat b.isLt]
 apply BitVec.eq_of_toNat_eq
 rw[ofInt_nat b.isLt]
theorem andn_z(x c:Int):Sp.andnI .u32 x (Sp.andnI .u32 c 0)=Sp.andnI .u32 x c:=by
 show wrap .u32 (((BitVec.ofInt 32 x&&& ~~~ BitVec.ofInt 32 (wrap .u32 (((BitVec.ofInt 32 c&&& ~~~ BitVec.ofInt 32 0).toNat:Nat):Int))).toNat:Nat):Int)=wrap .u32 (((BitVec.ofInt 32 x&&& ~~~ BitVec.ofInt 32 c).toNat:Nat):Int)
 rw[bv_back,show ~~~ BitVec.ofInt 32 0=BitVec.allOnes 32 from by decide,BitVec.and_allOnes]
theorem andn_all(x:Int):Sp.andnI .u32 x 4294967295=0:=by
 show wrap .u32 (((BitVec.ofInt 32 x&&& ~~~ BitVec.ofInt 32 4294967295).toNat:Nat):Int)=0
 rw[show ~~~ BitVec.ofInt 32 4294967295=0#32 from by decide,BitVec.and_zero]
 rfl
namespace Sp
noncomputable def pt(a:BayT)(k:Nat)(c:Int):BayT:=(pw a.1 (k*hlf a) 0 c,a.2.1,())
end Sp
theorem pw_fv(f:FlT)(k:Nat)(w c:Int):Sp.fv (Sp.pw f k w c)=Sp.fv f:=by
 unfold Sp.fv Sp.wb Sp.pw
 simp only[List.length_set]
theorem pt_bb{a:BayT}(h:BB a)(k:Nat)(c:Int):BB (Sp.pt a k c):=by
 have:Sp.bvb (Sp.pt a k c)=true:=by
  have:=h.b
  unfold Sp.bvb at this⊢
  rw[show Sp.fv (Sp.pt a k c).1=Sp.fv a.1 from pw_fv ..]
  exact this
 exact⟨bv_of this,this⟩
theorem pt_d1(a:BayT)(k:Nat)(c:Int)(j:Nat)(hj:j<2)(hk:k<2):(Sp.wds (Sp.pt a k c) j).drop 1=(Sp.wds a j).drop 1:=by
 show drop 1 (take (Sp.hlf a) (drop (j*Sp.hlf a) (a.1.1.set (k*Sp.hlf a) _)))=drop 1 (take (Sp.hlf a) (drop (j*Sp.hlf a) a.1.1))
 apply List.ext_getElem?
 intro i
 simp only[List.getElem?_drop,List.getElem?_take]
 split
 ·rename_i hi
  rw[List.getElem?_set_ne]
  match j,k,hj,hk with
  |0,0,_,_=>omega
  |0,1,_,_=>omega
  |1,0,_,_=>omega
  |1,1,_,_=>omega
 ·rfl
theorem head_c(x y:Int)(t:List Int):F_47 (x::t)=F_47 (y::t):=by
 unfold F_47
 simp only[List.drop_succ_cons,List.length_cons]
theorem cons_of{w v:List Int}(hw:1<=w.length)(hv:1<=v.length)(h:w.drop 1=v.drop 1):∃x y t,w=x::t/\v=y::t:=by
 match w,v,hw,hv,h with
 |x::t,y::s,_,_,h=>exact⟨x,y,t,rfl,by rw[show t=s from h]⟩
theorem pt_hdr{a:BayT}(h:BB a)(k:Nat)(hk:k<2)(c:Int)(j:Nat)(hj:j<2):F_14 (Sp.pt a k c) j=F_14 a j:=by
 have g:=pt_bb h k c
 have l1:=wds_len h.v j hj
 have l2:=wds_len g.v j hj
 have h0:=h.v.h0
 have h2:=g.v.h0
 obtain⟨x,y,t,e1,e2⟩:=cons_of (by omega) (by omega) (pt_d1 a k c j hj hk)
 have e:F_47 (Sp.wds (Sp.pt a k c) j)=F_47 (Sp.wds a j):=by rw[e1,e2];exact head_c ..
 obtain⟨v,hv,_⟩:=head_ok (Sp.wds a j) (by omega) (by have:=h.v.h1;omega)
 have p1:=pv_47 _ hv
 have p2:=pv_47 _ (e.trans hv)
 unfold F_14
 rw[(val_pv a).1,(val_pv a).2,(val_pv (Sp.pt a k c)).1,(val_pv (Sp.pt a k c)).2,(bank_pv j).1,(bank_pv j).2,(words_pv h.v j hj).1,(words_pv h.v j hj).2,(words_pv g.v j hj).1,(words_pv g.v j hj).2,p1.1,p1.2,p2.1,p2.2,h.b,g.b]
theorem pt_v14{a:BayT}(h:BB a)(k:Nat)(hk:k<2)(c:Int)(j:Nat)(hj:j<2):v_14 (Sp.pt a k c) j=v_14 a j:=by
 unfold v_14
 rw[pt_hdr h k hk c j hj]
theorem pt_good{a:BayT}(h:BB a)(k:Nat)(hk:k<2)(c:Int)(j:Nat)(hj:j<2):F_13 (Sp.pt a k c) j=F_13 a j:=by
 have g:=pt_bb h k c
 have l1:=wds_len h.v j hj
 have l2:=wds_len g.v j hj
 have h0:=h.v.h0
 have h2:=g.v.h0
 obtain⟨x,y,t,e1,e2⟩:=cons_of (by omega) (by omega) (pt_d1 a k c j hj hk)
 unfold F_13
 rw[(hdr_pv h.v h.b j hj).1,(hdr_pv g.v g.b j hj).1,pt_v14 h k hk c j hj,(words_pv h.v j hj).1,(words_pv h.v j hj).2,(words_pv g.v j hj).1,(words_pv g.v j hj).2,e1,e2]
 rfl
theorem pt_gdb{a:BayT}(h:BB a)(k:Nat)(hk:k<2)(c:Int)(j:Nat)(hj:j<2):Sp.gdb (Sp.pt a k c) j=Sp.gdb a j:=by
 unfold Sp.gdb v_13
 rw[pt_good h k hk c j hj]
theorem pt_vr{a:BayT}(h:BB a)(k:Nat)(hk:k<2)(c:Int)(j:Nat)(hj:j<2):Sp.vr (Sp.pt a k c) j=Sp.vr a j:=by
 unfold Sp.vr
 rw[pt_v14 h k hk c j hj]
theorem pt_get{a:BayT}(h:BB a)(k:Nat)(hk:k<2)(c:Int)(i:Nat):(Sp.pt a k c).1.1.getD i 0=if k*Sp.hlf a=i then Sp.andnI .u32 (a.1.1.getD (k*Sp.hlf a) 0) c else a.1.1.getD i 0:=by
 have:=off_lt h.v k hk
 have:=h.v.h0
 show(a.1.1.set (k*Sp.hlf a) (Sp.andnI .u32 (a.1.1.getD (k*Sp.hlf a) 0) (Sp.andnI .u32 c 0))).getD i 0=_
 rw[andn_z,getD_set _ _ _ _ _ (by omega)]
theorem pt_acb{a:BayT}(h:BB a)(k:Nat)(hk:k<2)(c:Int)(j:Nat)(hj:j<2):Sp.acb (Sp.pt a k c) j=if j=k then Sp.andnI .u32 (a.1.1.getD (k*Sp.hlf a) 0) c==0 else Sp.acb a j:=by
 have h0:=h.v.h0
 show((Sp.pt a k c).1.1.getD (j*Sp.hlf a) 0==0)=_
 rw[pt_get h k hk]
 by_cases e:j=k
 ·subst e;rw[if_pos rfl,if_pos rfl]
 ·rw[if_neg e,if_neg]
  ·rfl
  ·match j,k,hj,hk with
   |0,0,_,_=>omega
   |0,1,_,_=>omega
   |1,0,_,_=>omega
   |1,1,_,_=>omega
theorem full_act{a:BayT}(h:BB a)(n:Nat)(hn:n<2)(hg:Sp.gdb a n=true)(ha:Sp.acb a n=false)(hv:Sp.lst a<=Sp.vr a n):p_31 a n (1099511627776,0,())=true/\v_31 a n (1099511627776,0,())=(Sp.pt a n 4294967295,(1099511627775,0,()),0,()) :=
 pv_31 a n _ ((act_good h n hn hg ha hv (1099511627776,0,()) (by decide) (by decide)).trans (by unfold Sp.prg;rw[if_neg (by decide),if_neg (by decide)];rfl))
set_option maxRecDepth 100000
set_option maxHeartbeats 4000000
namespace Sp
noncomputable def sgn(s d:List Int)(k:Int)(n:Nat):List (List Int):=(List.range n).map fun j:Nat=>chn (d.getD j 0).toNat 0 (sec s k (j:Int))
end Sp
namespace Sp
noncomputable def oth(k:Int):Int:=if k<2 then 2 else 0
end Sp
namespace Sp
noncomputable def nxt(k:Int):Int:=if k%2=0 then k+1 else k-1
end Sp
namespace Sp
noncomputable def sigF(s:List Int)(k:Int)(dg:List Int):SigT:=(k,sgn s (digL dg) k 67,[leafS s (nxt k),node (leafS s (oth k)) (leafS s (oth k+1))],())
end Sp
theorem sgn_len(s d:List Int)(k:Int)(n:Nat):(Sp.sgn s d k n).length=n:=by simp[Sp.sgn]
theorem sgn_succ(s d:List Int)(k:Int)(n:Nat):Sp.sgn s d k (n+1)=Sp.sgn s d k n++[Sp.chn (d.getD n 0).toNat 0 (Sp.sec s k (n:Int))]:=by simp[Sp.sgn,List.range_succ]
theorem sign_loop(s dg:List Int)(hb:bytes dg)(k x1 x4:Int)(x2 x3 x5:List (List Int)):∀(d m j:Nat),j+d=67->d<m->L_36_0 m k (Sp.digL dg) 67 (j:Nat) s x1 x2 x3 x4 (Sp.sgn s (Sp.digL dg) k j) x5=some (.e0 k s x1 x2 x3 x4 (Sp.sgn s (Sp.digL dg) k 67) x5)
 |0,m+1,j,hj,_=>by
  rw[L_36_0,S_36_0,cond_dff (by omega),show j=67 by omega]
 |d+1,m+1,j,hj,hm=>by
  have hl:=digL_len dg
  have hd:=digL_b hb j (by omega)
  have h1:=pv_71 _ _ _ (sec_ok s k j)
  have h2:=pv_70 _ _ _ (chain_ok (Sp.sec s k j) 0 ((Sp.digL dg).getD j 0) (by decide) hd.1 hd.2)
  rw[Int.sub_zero]at h2
  rw[L_36_0,S_36_0,cond_dtt (by omega),gd_inB (by omega) (by omega),Int.toNat_natCast,h1.1,h1.2,gd_tt]
  dsimp only
  rw[h2.1,h2.2,gd_tt,gd_room (by rw[sgn_len];omega) (by rw[sgn_len];omega),wi64 (by omega) (by omega)]
  dsimp only
  rw[<-sgn_succ]
  exact sign_loop s dg hb k x1 x4 x2 x3 x5 d m (j+1) (by omega) (by omega)
theorem key_nums(k:Int)(h0:0<=k)(h1:k<4):Sp.xorI .i64 k 1=Sp.nxt k/\Sp.andnI .i64 (Sp.xorI .i64 k 2) 1=Sp.oth k/\wrap .i64 (2-wrap .i64 (wrap .i64 (Int.tdiv k 2)*2))=Sp.oth k/\wrap .i64 (Sp.oth k+1)=Sp.oth k+1:=by
 rcases(show k=0\/k=1\/k=2\/k=3 by omega)with rfl|rfl|rfl|rfl<;>exact⟨by kernel_rfl,by kernel_rfl,by kernel_rfl,by kernel_rfl⟩
theorem sign_ok(s:List Int)(k:Int)(dg:List Int)(hb:bytes dg)(h0:0<=k)(h1:k<4):F_36 s k dg=some (Sp.sigF s k dg,0,()):=by
 have d:=pv_69 _ (i_digits dg hb)
 obtain⟨e1,e2,_,e4⟩:=key_nums k h0 h1
 unfold F_36
 rw[cond_dff (by omega),cond_dff (by omega),d.1,d.2,gd_tt]
 dsimp only
 rw[digL_len]
 rw[show L_36_0 4611686018427387904 k (Sp.digL dg) ((67:Nat):Int) 0 s 0 [] [] k [] []=_ from sign_loop s dg hb k 0 k [] [] [] 67 4611686018427387904 0 (by omega) (by omega)]
 simp only[B_36_0,e1,e2,e4,(leaf_pv s _).1,(leaf_pv s _).2,(above_pv _ _).1,(above_pv _ _).2,gd_tt,Sp.sigF]
theorem vend_sgn(s dg:List Int)(hb:bytes dg)(k:Int):Sp.vend (Sp.digL dg) (Sp.sgn s (Sp.digL dg) k 67) 67=Sp.ends s k 67:=by
 unfold Sp.vend Sp.ends
 refine List.map_congr_left fun j hj=> ?_
 have hj:j<67:=by simpa using hj
 have hd:=digL_b hb j hj
 have e:(Sp.sgn s (Sp.digL dg) k 67).getD j h0=Sp.chn ((Sp.digL dg).getD j 0).toNat 0 (Sp.sec s k (j:Int)):=by
  simp[Sp.sgn,List.getD_eq_getElem?_getD,hj]
 rw[e]
 have:=chn_app ((Sp.digL dg).getD j 0).toNat (15-(Sp.digL dg).getD j 0).toNat 0 (Sp.sec s k (j:Int))
 rw[show((Sp.digL dg).getD j 0).toNat+(15-(Sp.digL dg).getD j 0).toNat=15 by omega,show(0:Int)+(((Sp.digL dg).getD j 0).toNat:Int)=(Sp.digL dg).getD j 0 by omega]at this
 exact this.symm
theorem right_ok(s dg:List Int)(hb:bytes dg)(k:Int)(h0':0<=k)(h1':k<4):Sp.verF (Sp.pubK s) dg (Sp.sigF s k dg)=true:=by
 have hs:Sp.shp (Sp.sigF s k dg)=true:=by
  unfold Sp.shp Sp.sigF
  dsimp only
  rw[sgn_len,decide_eq_true h0',decide_eq_true h1']
  rfl
 unfold Sp.verF
 rw[hs,Bool.true_and]
 have e:Sp.leafE (Sp.vend (Sp.digL dg) (Sp.sigF s k dg).2.1 67)=Sp.leafS s k:=by
  show Sp.leafE (Sp.vend (Sp.digL dg) (Sp.sgn s (Sp.digL dg) k 67) 67)=_
  rw[vend_sgn s dg hb k,Sp.leafS]
 rw[e,beq_iff_eq]
 rcases(show k=0\/k=1\/k=2\/k=3 by omega)with rfl|rfl|rfl|rfl<;>simp[Sp.sigF,Sp.up,Sp.nxt,Sp.oth,Sp.pubK]
theorem wd_sum(a b c d:Nat)(ha:a<256)(hb:b<256)(hc:c<256)(hd:d<256):Sp.wd a b c d=((a*16777216+b*65536+c*256+d:Nat):Int):=by
 unfold Sp.wd
 rw[u32_wrap_nat (a:=a) (by omega),u32_wrap_nat (a:=b) (by omega),u32_wrap_nat (a:=c) (by omega),u32_wrap_nat (a:=d) (by omega)]
 rw[show(a:Int)*16777216=((a*16777216:Nat):Int) by omega,show(b:Int)*65536=((b*65536:Nat):Int) by omega,show(c:Int)*256=((c*256:Nat):Int) by omega]
 rw[u32_wrap_nat (a:=a*16777216) (by omega),u32_wrap_nat (a:=b*65536) (by omega),u32_wrap_nat (a:=c*256) (by omega)]
 have h1:a*16777216|||b*65536=(a*256+b)*65536:=by
  rw[show a*16777216=a*2^24 by omega,or_add 24 (by omega)];omega
 have h2:(a*256+b)*65536|||c*256=((a*256+b)*256+c)*256:=by
  rw[show(a*256+b)*65536=(a*256+b)*2^16 by omega,or_add 16 (by omega)];omega
 have h3:((a*256+b)*256+c)*256|||d=a*16777216+b*65536+c*256+d:=by
  rw[show((a*256+b)*256+c)*256=((a*256+b)*256+c)*2^8 by omega,or_add 8 (by omega)];omega
 rw[orU_nat (by omega) (by omega),h1,orU_nat (by omega) (by omega),h2,orU_nat (by omega) (by omega),h3]
theorem byt_nat(x r:Nat)(hr:r<4):wrap .u8 (Int.fdiv (x:Int) (2^(24-8*r)))=((x/2^(24-8*r)%256:Nat):Int):=by
 rw[u8_mod,Int.fdiv_eq_ediv_of_nonneg _ (by exact_mod_cast Nat.zero_le _)]
 push_cast
 rfl
theorem rdh_at(w:List Int)(k j:Nat)(hj:j<32):(Sp.rdh w k).getD j 0=Sp.byt w k j:=by
 unfold Sp.rdh
 rw[getD_at _ (by simpa using hj)]
 simp
theorem cws_at:∀(l:List (List Int))(k i:Nat)(r:List Int),k<l.length->i<8->(Sp.cws l++r).getD (8*k+i) 0=Sp.hwd (l.getD k h0) i
 |[],k,i,r,h,_=>by simp at h
 |h::l,0,i,r,_,hi=>by
  have e:Sp.cws (h::l)=Sp.hws h 8++Sp.cws l:=by simp[Sp.cws]
  rw[e,List.append_assoc,List.getD_eq_getElem?_getD,List.getElem?_append_left (by rw[hws_len];omega)]
  simp[Sp.hws,List.getD_cons_zero,show i<8 from hi]
 |h::l,k+1,i,r,hk,hi=>by
  have e:Sp.cws (h::l)=Sp.hws h 8++Sp.cws l:=by simp[Sp.cws]
  have ih:=cws_at l k i r (by simpa using hk) hi
  rw[e,List.append_assoc,List.getD_eq_getElem?_getD,List.getElem?_append_right (by rw[hws_len];omega),hws_len,show 8*(k+1)+i-8=8*k+i by omega,<-List.getD_eq_getElem?_getD,ih,List.getD_cons_succ]
theorem wordsF_at(s:SigT)(h3:s.2.1.length=67)(h4:s.2.2.1.length=2)(k i:Nat)(hi:i<8):(k<67->(Sp.wordsF s).getD (1+8*k+i) 0=Sp.hwd (s.2.1.getD k h0) i)/\(k<2->(Sp.wordsF s).getD (1+8*(67+k)+i) 0=Sp.hwd (s.2.2.1.getD k h0) i):=by
 have l1:=cws_len s.2.1
 unfold Sp.wordsF
 refine⟨fun hk=> ?_,fun hk=> ?_⟩
 ·rw[List.append_assoc,List.singleton_append,show 1+8*k+i=(8*k+i)+1 by omega,List.getD_cons_succ]
  exact cws_at s.2.1 k i _ (by omega) hi
 ·rw[List.append_assoc,List.singleton_append,show 1+8*(67+k)+i=(536+(8*k+i))+1 by omega,List.getD_cons_succ,List.getD_eq_getElem?_getD,List.getElem?_append_right (by omega),l1,h3,show 536+(8*k+i)-8*67=8*k+i by omega,<-List.getD_eq_getElem?_getD]
  have:=cws_at s.2.2.1 k i [] (by omega) hi
  rwa [List.append_nil]at this
theorem hash_back(w:List Int)(k:Nat)(h:List Int)(hl:h.length=32)(hb:bytes h)(hw:∀i,i<8->w.getD (1+8*k+i) 0=Sp.hwd h i):Sp.rdh w k=h:=by
 refine list_ext 0 (by simp[Sp.rdh,hl]) fun j hj=> ?_
 have hj:j<32:=by simpa[Sp.rdh]using hj
 rw[rdh_at _ _ _ hj]
 unfold Sp.byt
 rw[hw (j/4) (by omega)]
 unfold Sp.hwd
 have nat:∀i,i<32->∃n:Nat,h.getD i 0=n/\n<256:=fun i hi=>by
  have:=hb (h.getD i 0) (by rw[getD_at _ (by omega)];exact List.getElem_mem _)
  obtain⟨n,hn⟩:=Int.eq_ofNat_of_zero_le this.1
  exact⟨n,hn,by omega⟩
 obtain⟨a,ha,ha'⟩:=nat (4*(j/4)) (by omega)
 obtain⟨b,hb,hb'⟩:=nat (4*(j/4)+1) (by omega)
 obtain⟨c,hc,hc'⟩:=nat (4*(j/4)+2) (by omega)
 obtain⟨d,hd,hd'⟩:=nat (4*(j/4)+3) (by omega)
 rw[ha,hb,hc,hd,wd_sum a b c d ha' hb' hc' hd',byt_nat _ _ (by omega)]
 rcases(show j%4=0\/j%4=1\/j%4=2\/j%4=3 by omega)with e|e|e|e
 ·rw[e,show h.getD j 0=(a:Int) by rw[<-ha];congr 1;omega,show(2:Nat)^(24-8*0)=16777216 from rfl];congr 1;omega
 ·rw[e,show h.getD j 0=(b:Int) by rw[<-hb];congr 1;omega,show(2:Nat)^(24-8*1)=65536 from rfl];congr 1;omega
 ·rw[e,show h.getD j 0=(c:Int) by rw[<-hc];congr 1;omega,show(2:Nat)^(24-8*2)=256 from rfl];congr 1;omega
 ·rw[e,show h.getD j 0=(d:Int) by rw[<-hd];congr 1;omega,show(2:Nat)^(24-8*3)=1 from rfl];congr 1;omega
theorem rd_words(s:SigT)(hs:Sp.shp s=true)(w1:∀h∈s.2.1,h.length=32/\bytes h)(w2:∀h∈s.2.2.1,h.length=32/\bytes h):Sp.rd (Sp.wordsF s)=s/\Sp.okw (Sp.wordsF s)=true:=by
 obtain⟨h1,h2,h3,h4⟩:=shp_spec hs
 have l1:=cws_len s.2.1
 have l2:=cws_len s.2.2.1
 have hx:(Sp.wordsF s).getD 0 0=s.1:=by
  unfold Sp.wordsF
  rw[List.append_assoc,List.singleton_append,List.getD_cons_zero,wu32' (by omega) (by omega)]
 have hl:(Sp.wordsF s).length=553:=by
  unfold Sp.wordsF
  rw[List.length_append,List.length_append,List.length_singleton];omega
 refine⟨?_,by unfold Sp.okw;rw[hx,decide_eq_true hl,decide_eq_true h2];rfl⟩
 obtain⟨x,c,p,u⟩:=s
 dsimp only at *
 unfold Sp.rd
 rw[hx,wi64 (by omega) (by omega)]
 have e1:Sp.rdC (Sp.wordsF (x,c,p,u)) 69=c:=by
  refine list_ext h0 (by rw[rdC_len];omega) fun k hk=> ?_
  rw[rdC_len]at hk
  have hk:k<67:=by omega
  rw[getD_at _ (by rw[rdC_len];omega)]
  simp only[Sp.rdC,List.getElem_map,List.getElem_range]
  have hm:=w1 (c.getD k h0) (by rw[getD_at _ (by omega)];exact List.getElem_mem _)
  exact hash_back _ k _ hm.1 hm.2 fun i hi=>(wordsF_at (x,c,p,u) h3 h4 k i hi).1 hk
 have e2:Sp.rdP (Sp.wordsF (x,c,p,u)) 69=p:=by
  refine list_ext h0 (by rw[rdP_len];omega) fun k hk=> ?_
  rw[rdP_len]at hk
  have hk:k<2:=by omega
  rw[getD_at _ (by rw[rdP_len];omega)]
  simp only[Sp.rdP,List.getElem_map,List.getElem_range]
  have hm:=w2 (p.getD k h0) (by rw[getD_at _ (by omega)];exact List.getElem_mem _)
  exact hash_back _ (67+k) _ hm.1 hm.2 fun i hi=>(wordsF_at (x,c,p,u) h3 h4 k i hi).2 hk
 rw[e1,e2]
theorem bytes_set{l:List Int}(h:bytes l)(i:Nat)(x:Int):bytes (l.set i (wrap .u8 x)):=fun y hy=>by
 rcases List.mem_or_eq_of_mem_set hy with z|rfl
 ·exact h y z
 ·rw[u8_mod];omega
theorem fold_32(f:Nat->List Int->List Int)(h:∀i o,o.length=32/\bytes o->(f i o).length=32/\bytes (f i o)):∀(n i:Nat)(o:List Int),o.length=32/\bytes o->(foldB f i n o).length=32/\bytes (foldB f i n o)
 |0,_,_,ho=>ho
 |n+1,i,o,ho=>fold_32 f h n (i+1) (f i o) (h i o ho)
theorem sha_32(b:List Int):(Sp.sha b).length=32/\bytes (Sp.sha b):=by
 unfold Sp.sha Sp.outB
 refine fold_32 _ (fun i o ho=>⟨?_,?_⟩) 8 0 _ ⟨List.length_replicate,fun x hx=> ?_⟩
 ·rw[List.length_set,List.length_set,List.length_set,List.length_set];exact ho.1
 ·exact bytes_set (bytes_set (bytes_set (bytes_set ho.2 _ _) _ _) _ _) _ _
 ·rw[List.mem_replicate]at hx
  omega
theorem chn_32:∀(n:Nat)(j:Int)(h:List Int),h.length=32/\bytes h->(Sp.chn n j h).length=32/\bytes (Sp.chn n j h)
 |0,_,_,h=>h
 |n+1,j,h,_=>chn_32 n (j+1) (Sp.link j h) (sha_32 _)
theorem leaf_32(s:List Int)(k:Int):(Sp.leafS s k).length=32/\bytes (Sp.leafS s k):=sha_32 (Sp.cat (Sp.ends s k 67))
theorem node_32(a b:List Int):(Sp.node a b).length=32/\bytes (Sp.node a b):=sha_32 _
theorem two_all{α:Type}{P:α->Prop}{a b:α}(ha:P a)(hb:P b):∀h∈[a,b],P h:=fun h hh=>by
 rcases List.mem_cons.1 hh with e|hh
 ·exact e▸ha
 ·exact(List.mem_singleton.1 hh)▸hb
theorem sig_32(s dg:List Int)(k:Int):(∀h∈(Sp.sigF s k dg).2.1,h.length=32/\bytes h)/\∀h∈(Sp.sigF s k dg).2.2.1,h.length=32/\bytes h:=by
 refine⟨fun h hh=> ?_,fun h hh=> ?_⟩
 ·have hh:h∈Sp.sgn s (Sp.digL dg) k 67:=hh
  unfold Sp.sgn at hh
  obtain⟨j,_,rfl⟩:=List.mem_map.1 hh
  exact chn_32 _ _ _ (sha_32 _)
 ·have hh:h∈[Sp.leafS s (Sp.nxt k),Sp.node (Sp.leafS s (Sp.oth k)) (Sp.leafS s (Sp.oth k+1))]:=hh
  exact two_all (P:=fun h=>h.length=32/\bytes h) (leaf_32 _ _) (node_32 _ _) h hh
theorem sig_shp(s dg:List Int){k:Int}(h0:0<=k)(h1:k<4):Sp.shp (Sp.sigF s k dg)=true:=by
 unfold Sp.shp Sp.sigF
 dsimp only
 rw[sgn_len,decide_eq_true h0,decide_eq_true h1]
 rfl
theorem sig_rd(s dg:List Int){k:Int}(h0:0<=k)(h1:k<4):Sp.rd (Sp.wordsF (Sp.sigF s k dg))=Sp.sigF s k dg/\Sp.okw (Sp.wordsF (Sp.sigF s k dg))=true:=
 rd_words _ (sig_shp s dg h0 h1) (sig_32 s dg k).1 (sig_32 s dg k).2
set_option maxRecDepth 100000
set_option maxHeartbeats 4000000
abbrev HdrT:=Int×Int×List Int×SigT×Unit
theorem rhws_ok(h:List Int):F_97 h=some (Sp.hws h 8,()):=by
 have:=run0 (fun m i s=>L_97_0 m (4*i) h s) (n:=8) (fun j=>Sp.hws h j) (r:=some (.e0 (Sp.hws h 8))) (by decide) (fun m j hj=>by
  have e0:toNat (4*(j:Int))=4*j:=by omega
  have e1:toNat (4*(j:Int)+1)=4*j+1:=by omega
  have e2:toNat (4*(j:Int)+2)=4*j+2:=by omega
  have e3:toNat (4*(j:Int)+3)=4*j+3:=by omega
  show L_97_0 (m+1) (4*(j:Int)) h (Sp.hws h j)=_
  rw[L_97_0,S_97_0,cond_dtt (by omega),wi64 (n:=4*(j:Int)+1) (by omega) (by omega),wi64 (n:=4*(j:Int)+2) (by omega) (by omega),wi64 (n:=4*(j:Int)+3) (by omega) (by omega),wi64 (n:=4*(j:Int)+4) (by omega) (by omega),gd_inB (by omega) (by omega),gd_inB (by omega) (by omega),gd_inB (by omega) (by omega),gd_inB (by omega) (by omega),e0,e1,e2,e3,Bool.and_true,Bool.and_true,Bool.and_true,Bool.and_true,gd_dec (by omega),gd_dec (by omega),gd_dec (by omega),gd_dec (by omega),gd_room (by rw[hws_len];omega) (by rw[hws_len];omega),hws_succ,show 4*(j:Int)+4=4*((j+1:Nat):Int) by omega]
  rfl) (fun m=>by
  show L_97_0 (m+1) 32 h (Sp.hws h 8)=_
  rw[L_97_0,S_97_0,cond_dff (by decide)])
 unfold F_97
 have e:L_97_0 4611686018427387904 0 h []=some (.e0 (Sp.hws h 8)):=this
 rw[e]
 rfl
theorem rhws_pv(h:List Int):p_97 h=true/\v_97 h=(Sp.hws h 8,()):=pv_97 h (rhws_ok h)
theorem rwords_ok(s:SigT)(h3:s.2.1.length=67)(h4:s.2.2.1.length=2):F_74 s=some (Sp.wordsF s,()):=by
 have l1:=cws_len s.2.1
 have a:=run0 (fun m i t=>L_74_0 m i s t) (n:=67) (fun j=>[wrap .u32 s.1]++Sp.cws (s.2.1.take j)) (r:=some (.e0 s ([wrap .u32 s.1]++Sp.cws s.2.1))) (by decide) (fun m j hj=>by
  have hc:(Sp.cws (s.2.1.take j)).length<=8000:=by rw[cws_len,List.length_take];omega
  show L_74_0 (m+1) (j:Int) s ([wrap .u32 s.1]++Sp.cws (s.2.1.take j))=_
  rw[L_74_0,S_74_0,cond_dtt (by omega),gd_inB (by omega) (by omega),Int.toNat_natCast,(rhws_pv _).1,(rhws_pv _).2,gd_tt,gd_room (by rw[List.length_append,hws_len,List.length_singleton];omega) (by rw[List.length_append,hws_len,List.length_singleton];omega),wi64 (by omega) (by omega),cws_succ _ j (by omega),List.append_assoc]
  rfl) (fun m=>by
  show L_74_0 (m+1) 67 s _=_
  rw[L_74_0,S_74_0,cond_dff (by decide),List.take_of_length_le (by omega)])
 have b:=run0 (fun m i t=>L_74_1 m i s t) (n:=2) (fun j=>[wrap .u32 s.1]++Sp.cws s.2.1++Sp.cws (s.2.2.1.take j)) (r:=some (.e0 (Sp.wordsF s))) (by decide) (fun m j hj=>by
  have hc:(Sp.cws (s.2.2.1.take j)).length<=8000:=by rw[cws_len,List.length_take];omega
  show L_74_1 (m+1) (j:Int) s ([wrap .u32 s.1]++Sp.cws s.2.1++Sp.cws (s.2.2.1.take j))=_
  rw[L_74_1,S_74_1,cond_dtt (by omega),gd_inB (by omega) (by omega),Int.toNat_natCast,(rhws_pv _).1,(rhws_pv _).2,gd_tt,gd_room (by rw[List.length_append,List.length_append,hws_len,List.length_singleton];omega) (by rw[List.length_append,List.length_append,hws_len,List.length_singleton];omega),wi64 (by omega) (by omega),cws_succ _ j (by omega),<-List.append_assoc]
  rfl) (fun m=>by
  show L_74_1 (m+1) 2 s _=_
  rw[L_74_1,S_74_1,cond_dff (by decide),List.take_of_length_le (by omega)]
  rfl)
 unfold F_74
 have a':L_74_0 4611686018427387904 0 s [wrap .u32 s.1]=some (.e0 s ([wrap .u32 s.1]++Sp.cws s.2.1)):=a
 have b':L_74_1 4611686018427387904 0 s ([wrap .u32 s.1]++Sp.cws s.2.1)=some (.e0 (Sp.wordsF s)):=by simpa[Sp.cws]using b
 rw[a']
 simp only[B_74_0]
 rw[b']
 rfl
namespace Sp
noncomputable def hdp(h:HdrT):List Int:=[wrap .u32 h.1,wrap .u32 h.2.1]
end Sp
namespace Sp
noncomputable def hdw(h:HdrT):List Int:=hdp h++hws h.2.2.1 8++wordsF h.2.2.2.1
end Sp
theorem wordsF_len{s:SigT}(h:Sp.shp s=true):(Sp.wordsF s).length=553:=by
 obtain⟨h3,h4⟩:s.2.1.length=67/\s.2.2.1.length=2:=by
  simp only[Sp.shp,Bool.and_eq_true,decide_eq_true_eq,beq_iff_eq]at h
  omega
 unfold Sp.wordsF
 rw[List.length_append,List.length_append,cws_len,cws_len,h3,h4]
 rfl
theorem hdw_len{h:HdrT}(hs:Sp.shp h.2.2.2.1=true):(Sp.hdw h).length=563:=by
 unfold Sp.hdw
 rw[List.length_append,List.length_append,hws_len,wordsF_len hs]
 rfl
theorem shp_len{s:SigT}(h:Sp.shp s=true):s.2.1.length=67/\s.2.2.1.length=2:=by
 simp only[Sp.shp,Bool.and_eq_true,decide_eq_true_eq,beq_iff_eq]at h
 omega
theorem take_s{l:List Int}{i:Nat}(h:i<l.length):l.take (i+1)=l.take i++[l.getD i 0]:=by
 have e:l.getD i 0=l[i]:=by simp[List.getD_eq_getElem?_getD,List.getElem?_eq_getElem h]
 rw[e,List.take_succ_eq_append_getElem h]
theorem acc8{x y:Nat}(hx:x<16777216)(hy:y<256):Sp.orI .u32 (wrap .u32 ((x:Int)*256)) (wrap .u32 (y:Int))=((x*256+y:Nat):Int):=by
 rw[show(x:Int)*256=((x*256:Nat):Int)from(Int.natCast_mul x 256).symm,u32_wrap_nat (by omega),u32_wrap_nat (by omega),orU_nat (by omega) (by omega),show x*256=x*2^8 from rfl,or_add 8 (by omega)]
theorem wd_e{a b c d:Nat}(ha:a<256)(hb:b<256)(hc:c<256)(hd:d<256):Sp.wd a b c d=((((a*256+b)*256+c)*256+d:Nat):Int):=by
 unfold Sp.wd
 rw[u32_wrap_nat (a:=a) (by omega),u32_wrap_nat (a:=b) (by omega),u32_wrap_nat (a:=c) (by omega),u32_wrap_nat (a:=d) (by omega),show(a:Int)*16777216=((a*16777216:Nat):Int)from(Int.natCast_mul a 16777216).symm,show(b:Int)*65536=((b*65536:Nat):Int)from(Int.natCast_mul b 65536).symm,show(c:Int)*256=((c*256:Nat):Int)from(Int.natCast_mul c 256).symm,u32_wrap_nat (a:=a*16777216) (by omega),u32_wrap_nat (a:=b*65536) (by omega),u32_wrap_nat (a:=c*256) (by omega),
  orU_nat (a:=a*16777216) (by omega) (by omega),show a*16777216=a*2^24 from rfl,or_add 24 (by omega),orU_nat (by omega) (by omega),show a*2^24+b*65536=(a*256+b)*2^16 by omega,or_add 16 (by omega),orU_nat (by omega) (by omega),show(a*256+b)*2^16+c*256=((a*256+b)*256+c)*2^8 by omega,or_add 8 (by omega)]
theorem byte_at{l:List Int}(h:bytes l)(i:Nat):∃k:Nat,l.getD i 0=(k:Int)/\k<256:=by
 rw[List.getD_eq_getElem?_getD]
 cases e:l[i]? with
 |none=>exact⟨0,rfl,by decide⟩
 |some x=>
  have:=h x (List.mem_of_getElem? e)
  exact⟨x.toNat,by show x=_;omega,by omega⟩
theorem img1(h:HdrT)(hb:bytes h.2.2.1)(j:Nat)(hj:j<8)(p0 p5:List Int)(m:Nat):L_39_1 (m+5) p0 j 0 0 h p5=some (.e0 p0 j (Sp.hwd h.2.2.1 j) h p5):=by
 obtain⟨a,ea,ha⟩:=byte_at hb (4*j)
 obtain⟨b,eb,hb2⟩:=byte_at hb (4*j+1)
 obtain⟨c,ec,hc⟩:=byte_at hb (4*j+2)
 obtain⟨d,ed,hd⟩:=byte_at hb (4*j+3)
 have ad:∀k:Nat,k<4->wrap .i64 (wrap .i64 (4*(j:Int))+(k:Int))=((4*j+k:Nat):Int):=fun k hk=>by
  rw[wi64 (n:=4*(j:Int)) (by omega) (by omega),wi64 (by omega) (by omega)];omega
 have st:∀(q x k:Nat),k<4->∀y:Nat,h.2.2.1.getD (4*j+k) 0=(y:Int)->y<256->x<16777216->L_39_1 (q+1) p0 j (x:Int) (k:Int) h p5=L_39_1 q p0 j ((x*256+y:Nat):Int) ((k+1:Nat):Int) h p5:=fun q x k hk y e hy hx=>by
  rw[L_39_1,S_39_1,cond_dtt (by omega),ad k hk,gd_inB (by omega) (by omega),Int.toNat_natCast,Bool.and_true,gd_dec (by omega),e,acc8 hx hy,wi64 (by omega) (by omega)]
  push_cast
  rfl
 have s0:=st (m+4) 0 0 (by decide) a ea ha (by decide)
 have s1:=st (m+3) (0*256+a) 1 (by decide) b eb hb2 (by omega)
 have s2:=st (m+2) ((0*256+a)*256+b) 2 (by decide) c ec hc (by omega)
 have s3:=st (m+1) (((0*256+a)*256+b)*256+c) 3 (by decide) d ed hd (by omega)
 refine(s0.trans (s1.trans (s2.trans s3))).trans ?_
 rw[L_39_1,S_39_1,cond_dff (by omega),Nat.zero_mul,Nat.zero_add]
 unfold Sp.hwd
 rw[ea,eb,ec,ed,wd_e ha hb2 hc hd]
theorem rimw_pv{h:HdrT}(w:List Int)(hw:w.length<=1000)(hb:bytes h.2.2.1)(hs:Sp.shp h.2.2.2.1=true):p_39 h w=true/\v_39 h w=(Sp.hdw h++w,()):=by
 have sl:=shp_len hs
 have ww:=pv_74 _ (rwords_ok h.2.2.2.1 sl.1 sl.2)
 have l2:=wordsF_len hs
 refine pv_39 h w ?_
 unfold F_39
 have t0:=run0 (fun m i acc=>L_39_0 m w i h acc) (n:=8) (fun j=>Sp.hdp h++Sp.hws h.2.2.1 j) (r:=some (.e0 w h (Sp.hdp h++Sp.hws h.2.2.1 8))) (by decide) (fun m j hj=>by
  show L_39_0 (m+1) w (j:Int) h (Sp.hdp h++Sp.hws h.2.2.1 j)=L_39_0 m w ((j+1:Nat):Int) h (Sp.hdp h++Sp.hws h.2.2.1 (j+1))
  have ll:(Sp.hdp h++Sp.hws h.2.2.1 j).length=2+j:=by rw[List.length_append,hws_len];rfl
  rw[L_39_0,S_39_0,cond_dtt (by omega)]
  refine(congrArg (fun z=>B_39_1 z _) (img1 h hb j hj w (Sp.hdp h++Sp.hws h.2.2.1 j) 4611686018427387899)).trans ?_
  unfold B_39_1
  dsimp only
  rw[gd_room (by omega) (by omega),wi64 (by omega) (by omega),hws_succ,List.append_assoc]
  push_cast
  rfl) (fun m=>by
  show L_39_0 (m+1) w 8 h (Sp.hdp h++Sp.hws h.2.2.1 8)=_
  rw[L_39_0,S_39_0,cond_dff (by decide)])
 have t0:L_39_0 4611686018427387904 w 0 h [wrap .u32 h.1,wrap .u32 h.2.1]=some (.e0 w h (Sp.hdp h++Sp.hws h.2.2.1 8)):=t0
 rw[t0]
 unfold B_39_0
 dsimp only
 rw[ww.1,ww.2,gd_tt]
 dsimp only
 have l1:(Sp.hdp h++Sp.hws h.2.2.1 8).length=10:=by rw[List.length_append,hws_len];rfl
 have t2:=run0 (fun m i acc=>L_39_2 m w (Sp.wordsF h.2.2.2.1) i acc) (n:=(Sp.wordsF h.2.2.2.1).length) (fun j=>Sp.hdp h++Sp.hws h.2.2.1 8++(Sp.wordsF h.2.2.2.1).take j) (r:=some (.e0 w (Sp.hdw h))) (by omega) (fun m j hj=>by
  show L_39_2 (m+1) w (Sp.wordsF h.2.2.2.1) (j:Int) (Sp.hdp h++Sp.hws h.2.2.1 8++(Sp.wordsF h.2.2.2.1).take j)=L_39_2 m w (Sp.wordsF h.2.2.2.1) ((j+1:Nat):Int) (Sp.hdp h++Sp.hws h.2.2.1 8++(Sp.wordsF h.2.2.2.1).take (j+1))
  have ll:(Sp.hdp h++Sp.hws h.2.2.1 8++(Sp.wordsF h.2.2.2.1).take j).length=10+j:=by rw[List.length_append,l1,List.length_take];omega
  rw[L_39_2,S_39_2,cond_dtt (by omega),gd_inB (by omega) (by omega),Int.toNat_natCast,gd_room (by omega) (by omega),wi64 (by omega) (by omega),take_s hj,<-List.append_assoc]
  push_cast
  rfl) (fun m=>by
  show L_39_2 (m+1) w (Sp.wordsF h.2.2.2.1) ((Sp.wordsF h.2.2.2.1).length:Int) (Sp.hdp h++Sp.hws h.2.2.1 8++(Sp.wordsF h.2.2.2.1).take (Sp.wordsF h.2.2.2.1).length)=_
  rw[L_39_2,S_39_2,cond_dff (by omega),List.take_length]
  rfl)
 have t2:L_39_2 4611686018427387904 w (Sp.wordsF h.2.2.2.1) 0 (Sp.hdp h++Sp.hws h.2.2.1 8++[])=_:=t2
 rw[List.append_nil]at t2
 rw[t2]
 unfold B_39_2
 dsimp only
 have l3:=hdw_len hs
 have t3:=run0 (fun m i acc=>L_39_3 m w i acc) (n:=w.length) (fun j=>Sp.hdw h++w.take j) (r:=some (.e0 (Sp.hdw h++w))) (by omega) (fun m j hj=>by
  show L_39_3 (m+1) w (j:Int) (Sp.hdw h++w.take j)=L_39_3 m w ((j+1:Nat):Int) (Sp.hdw h++w.take (j+1))
  have ll:(Sp.hdw h++w.take j).length=563+j:=by rw[List.length_append,l3,List.length_take];omega
  rw[L_39_3,S_39_3,cond_dtt (by omega),gd_inB (by omega) (by omega),Int.toNat_natCast,gd_room (by omega) (by omega),wi64 (by omega) (by omega),take_s hj,<-List.append_assoc]
  push_cast
  rfl) (fun m=>by
  show L_39_3 (m+1) w (w.length:Int) (Sp.hdw h++w.take w.length)=_
  rw[L_39_3,S_39_3,cond_dff (by omega),List.take_length])
 have t3:L_39_3 4611686018427387904 w 0 (Sp.hdw h++[])=_:=t3
 rw[List.append_nil]at t3
 rw[t3]
 rfl
namespace Sp
noncomputable def pgm(a:BayT)(k:Nat):List Int:=take (toNat (wrap .i64 (564+wrap .i64 ((wds a k).getD 2 0)))-564) (drop 564 (wds a k))
end Sp
theorem prog_pv{a:BayT}(h:BB a){k:Nat}(hk:k<2)(hg:Sp.gdb a k=true):p_27 a k=true/\v_27 a k=(Sp.pgm a k,0,()):=by
 have c:=chk_ok h k hk hg
 have w:=words_pv h.v k hk
 have l:=wds_len h.v k hk
 have h0:=h.v.h0
 have h1:=h.v.h1
 have ok:=(good_pv h.v h.b k hk).2 hg
 have o:=(hdr_pv h.v h.b k hk).2 ok
 have s0:=o.s0
 have s1:=o.s1
 rw[v14_eq h k hk]at ok s0 s1
 rw[(hx_ok ok).2]at s0 s1
 refine pv_27 a k ?_
 unfold F_27 Sp.pgm
 rw[c.1,c.2,gd_tt,cond_nff rfl,w.1,w.2,gd_tt]
 dsimp only
 rw[gd_inB (by omega) (by omega),gd_sl3 (by omega) (by rw[wi64 (n:=564+_) (by omega) (by omega)];omega) (by rw[wi64 (n:=564+_) (by omega) (by omega)];omega),gd_room (by rw[List.length_take,List.length_drop];omega) (by rw[List.length_take,List.length_drop];omega)]
theorem eq_l{a b:List Int}(hl:a.length=b.length)(h:a.length<=1000000):∀(d m i:Nat),i+d=a.length->d<m->L_30_0 m a b a.length i=some (if a.drop i=b.drop i then .e1 else .e0)
 |0,m,i,hi,hm=>by
  obtain⟨m,rfl⟩:∃k,m=k+1:=⟨m-1,by omega⟩
  rw[L_30_0,S_30_0,cond_dff (by omega),List.drop_of_length_le (by omega),List.drop_of_length_le (by omega),if_pos rfl]
 |d+1,m,i,hi,hm=>by
  obtain⟨m,rfl⟩:∃k,m=k+1:=⟨m-1,by omega⟩
  have ha:i<a.length:=by omega
  have hb:i<b.length:=by omega
  rw[L_30_0,S_30_0,cond_dtt (by omega),gd_inB (by omega) (by omega),gd_inB (by omega) (by omega),Int.toNat_natCast,List.drop_eq_getElem_cons ha,List.drop_eq_getElem_cons hb,<-getD_at 0 ha,<-getD_at 0 hb]
  by_cases c:a.getD i 0=b.getD i 0
  ·rw[cond_nff c,wi64 (by omega) (by omega),show(i:Int)+1=((i+1:Nat):Int) by omega,eq_l hl h d m (i+1) (by omega) (by omega),c]
   by_cases e:a.drop (i+1)=b.drop (i+1)
   ·rw[if_pos e,if_pos (by rw[e])]
   ·rw[if_neg e,if_neg (fun z=>e (List.cons.inj z).2)]
  ·rw[cond_ntt c,if_neg (fun z=>c (List.cons.inj z).1)]
theorem equ_pv(a b:List Int)(h:a.length<=1000000):p_30 a b=true/\v_30 a b=(decide (a=b),()):=by
 refine pv_30 a b ?_
 unfold F_30
 by_cases hl:a.length=b.length
 ·rw[cond_nff (by omega)]
  have t:=eq_l hl h a.length 4611686018427387904 0 (by omega) (by omega)
  have t:L_30_0 4611686018427387904 a b a.length 0=_:=t
  rw[t,List.drop_zero,List.drop_zero]
  by_cases e:a=b
  ·rw[if_pos e,decide_eq_true e];rfl
  ·rw[if_neg e,decide_eq_false e];rfl
 ·rw[cond_ntt (by omega),decide_eq_false (fun z=>hl (by rw[z]))]
theorem u8m(n:Int):wrap .u8 n=n%256:=by
 simp[wrap,IntKind.signed,IntKind.bits]
theorem w4_wd{a b c d:Nat}(ha:a<256)(hb:b<256)(hc:c<256)(hd:d<256):Sp.w4 (Sp.wd a b c d)=[(a:Int),(b:Int),(c:Int),(d:Int)]:=by
 have e:Sp.wd a b c d=((((a*256+b)*256+c)*256+d:Nat):Int):=by
  unfold Sp.wd
  rw[u32_wrap_nat (a:=a) (by omega),u32_wrap_nat (a:=b) (by omega),u32_wrap_nat (a:=c) (by omega),u32_wrap_nat (a:=d) (by omega),show(a:Int)*16777216=((a*16777216:Nat):Int)from(Int.natCast_mul a 16777216).symm,show(b:Int)*65536=((b*65536:Nat):Int)from(Int.natCast_mul b 65536).symm,show(c:Int)*256=((c*256:Nat):Int)from(Int.natCast_mul c 256).symm,u32_wrap_nat (a:=a*16777216) (by omega),u32_wrap_nat (a:=b*65536) (by omega),u32_wrap_nat (a:=c*256) (by omega),
   orU_nat (a:=a*16777216) (by omega) (by omega),show a*16777216=a*2^24 from rfl,or_add 24 (by omega),orU_nat (by omega) (by omega),show a*2^24+b*65536=(a*256+b)*2^16 by omega,or_add 16 (by omega),orU_nat (by omega) (by omega),show(a*256+b)*2^16+c*256=((a*256+b)*256+c)*2^8 by omega,or_add 8 (by omega)]
 rw[e]
 unfold Sp.w4
 rw[Int.fdiv_eq_ediv_of_nonneg _ (by decide),Int.fdiv_eq_ediv_of_nonneg _ (by decide),Int.fdiv_eq_ediv_of_nonneg _ (by decide),u8m,u8m,u8m,u8m]
 refine List.ext_getElem rfl (fun i h1 h2=> ?_)
 match i,h1 with
 |0,_=>show _/_%_=(a:Int);omega
 |1,_=>show _/_%_=(b:Int);omega
 |2,_=>show _/_%_=(c:Int);omega
 |3,_=>show _%_=(d:Int);omega
theorem byt{l:List Int}(h:bytes l)(i:Nat):∃k:Nat,l.getD i 0=(k:Int)/\k<256:=by
 have:0<=l.getD i 0/\l.getD i 0<=255:=by
  rw[List.getD_eq_getElem?_getD]
  cases e:l[i]? with
  |none=>decide
  |some x=>exact h x (List.mem_of_getElem? e)
 exact⟨(l.getD i 0).toNat,by omega,by omega⟩
theorem spr_hws{d:List Int}(hd:bytes d)(hl:d.length=32):Sp.spr (Sp.hws d 8)=d:=by
 have e:∀i,Sp.w4 (Sp.hwd d i)=[d.getD (4*i) 0,d.getD (4*i+1) 0,d.getD (4*i+2) 0,d.getD (4*i+3) 0]:=fun i=>by
  obtain⟨k0,e0,h0⟩:=byt hd (4*i)
  obtain⟨k1,e1,h1⟩:=byt hd (4*i+1)
  obtain⟨k2,e2,h2⟩:=byt hd (4*i+2)
  obtain⟨k3,e3,h3⟩:=byt hd (4*i+3)
  unfold Sp.hwd
  rw[e0,e1,e2,e3,w4_wd h0 h1 h2 h3]
 unfold Sp.spr Sp.hws
 rw[List.flatMap_map]
 have e':(fun i=>Sp.w4 (Sp.hwd d i))=fun i=>[d.getD (4*i) 0,d.getD (4*i+1) 0,d.getD (4*i+2) 0,d.getD (4*i+3) 0]:=funext e
 rw[e']
 clear e e' hd
 match d,hl with
 |[a0,a1,a2,a3,a4,a5,a6,a7,a8,a9,b0,b1,b2,b3,b4,b5,b6,b7,b8,b9,c0,c1,c2,c3,c4,c5,c6,c7,c8,c9,d0,d1],_=>rfl
theorem wds_at{a:BayT}(k:Nat){j:Nat}(hj:j<Sp.hlf a):(Sp.wds a k).getD j 0=a.1.1.getD (k*Sp.hlf a+j) 0:=by
 unfold Sp.wds
 rw[List.getD_eq_getElem?_getD,List.getElem?_take,if_pos hj,List.getElem?_drop,<-List.getD_eq_getElem?_getD]
theorem hdw_at(h:HdrT)(j:Nat):(Sp.hdw h).getD 0 0=wrap .u32 h.1/\(Sp.hdw h).getD 1 0=wrap .u32 h.2.1/\(j<8->(Sp.hdw h).getD (j+2) 0=(Sp.hws h.2.2.1 8).getD j 0):=by
 refine⟨rfl,rfl,fun hj=> ?_⟩
 unfold Sp.hdw Sp.hdp
 rw[List.append_assoc]
 show((wrap .u32 h.1)::(wrap .u32 h.2.1)::(Sp.hws h.2.2.1 8++Sp.wordsF h.2.2.2.1)).getD (j+2) 0=_
 rw[List.getD_cons_succ,List.getD_cons_succ,List.getD_eq_getElem?_getD,List.getElem?_append_left (by rw[hws_len];exact hj),<-List.getD_eq_getElem?_getD]
set_option maxRecDepth 100000
set_option maxHeartbeats 4000000
theorem copy_pv{f:FlT}(h0:f.1.length<=1000000)(h1:f.2.1.length<=1000000):p_15 f=true/\v_15 f=(f,()):=by
 refine pv_15 f ?_
 unfold F_15
 have t0:=run0 (fun m i acc=>L_15_0 m i f (0,()) [] [] (f.2.2.1,()) acc []) (n:=f.1.length) (fun j=>f.1.take j) (r:=some (.e0 f (0,()) [] [] (f.2.2.1,()) f.1 [])) (by omega) (fun m j hj=>by
  show L_15_0 (m+1) (j:Int) f (0,()) [] [] (f.2.2.1,()) (f.1.take j) []=L_15_0 m ((j+1:Nat):Int) f (0,()) [] [] (f.2.2.1,()) (f.1.take (j+1)) []
  rw[L_15_0,S_15_0,cond_dtt (by omega),gd_inB (by omega) (by omega),gd_room (by rw[List.length_take];omega) (by rw[List.length_take];omega),Int.toNat_natCast,wi64 (by omega) (by omega),List.take_succ_eq_append_getElem hj,<-getD_at 0 hj]
  push_cast
  rfl) (fun m=>by
  show L_15_0 (m+1) (f.1.length:Int) f (0,()) [] [] (f.2.2.1,()) (f.1.take f.1.length) []=_
  rw[L_15_0,S_15_0,cond_dff (by omega),List.take_length])
 have t0:L_15_0 4611686018427387904 0 f (0,()) [] [] (f.2.2.1,()) [] []=_:=t0
 have t1:=run0 (fun m i acc=>L_15_1 m i f (0,()) [] [] (f.2.2.1,()) f.1 acc) (n:=f.2.1.length) (fun j=>f.2.1.take j) (r:=some (.e0 (0,()) [] [] (f.2.2.1,()) f.1 f.2.1)) (by omega) (fun m j hj=>by
  show L_15_1 (m+1) (j:Int) f (0,()) [] [] (f.2.2.1,()) f.1 (f.2.1.take j)=L_15_1 m ((j+1:Nat):Int) f (0,()) [] [] (f.2.2.1,()) f.1 (f.2.1.take (j+1))
  rw[L_15_1,S_15_1,cond_dtt (by omega),gd_inB (by omega) (by omega),gd_room (by rw[List.length_take];omega) (by rw[List.length_take];omega),Int.toNat_natCast,wi64 (by omega) (by omega),List.take_succ_eq_append_getElem hj,<-getD_at 0 hj]
  push_cast
  rfl) (fun m=>by
  show L_15_1 (m+1) (f.2.1.length:Int) f (0,()) [] [] (f.2.2.1,()) f.1 (f.2.1.take f.2.1.length)=_
  rw[L_15_1,S_15_1,cond_dff (by omega),List.take_length])
 have t1:L_15_1 4611686018427387904 0 f (0,()) [] [] (f.2.2.1,()) f.1 []=_:=t1
 rw[t0]
 unfold B_15_0
 dsimp only
 rw[t1]
 rfl
theorem h32_refl(x:List Int):Ty.beq (.arr 32 (.int .u8)) x x=true:=by
 have key:∀l:List Int,@BEq.beq (List Int) (@List.instBEq _ ⟨Ty.beq (.int .u8)⟩) l l=true:=by
  intro l
  induction l with
  |nil=>rfl
  |cons a l ih=>
   show(Ty.beq (.int .u8) a a&& @BEq.beq (List Int) (@List.instBEq _ ⟨Ty.beq (.int .u8)⟩) l l)=true
   rw[ih,Bool.and_true]
   show(a==a)=true
   exact beq_self_eq_true a
 exact key x
theorem rsig_pv(s:SigT)(h1:s.2.1.length<=1000)(h2:s.2.2.1.length<=1000):p_62 s s=true/\v_62 s s=(true,()):=by
 refine pv_62 s s ?_
 unfold F_62
 rw[cond_nff rfl,cond_nff rfl,cond_nff rfl]
 have t1:=run0 (fun m i(_:Unit)=>L_62_0 m i s s) (n:=s.2.1.length) (fun _=>()) (r:=some (.e1 s s)) (by omega) (fun m j hj=>by
  show L_62_0 (m+1) (j:Int) s s=L_62_0 m ((j+1:Nat):Int) s s
  rw[L_62_0,S_62_0,cond_dtt (by omega),gd_inB (by omega) (by omega),gd_inB (by omega) (by omega),h32_refl,Bool.not_true,cond_f,wi64 (by omega) (by omega)]
  push_cast
  rfl) (fun m=>by
  show L_62_0 (m+1) s.2.1.length s s=_
  rw[L_62_0,S_62_0,cond_dff (by omega)])
 have t2:=run0 (fun m i(_:Unit)=>L_62_1 m i s s) (n:=s.2.2.1.length) (fun _=>()) (r:=some .e1) (by omega) (fun m j hj=>by
  show L_62_1 (m+1) (j:Int) s s=L_62_1 m ((j+1:Nat):Int) s s
  rw[L_62_1,S_62_1,cond_dtt (by omega),gd_inB (by omega) (by omega),gd_inB (by omega) (by omega),h32_refl,Bool.not_true,cond_f,wi64 (by omega) (by omega)]
  push_cast
  rfl) (fun m=>by
  show L_62_1 (m+1) s.2.2.1.length s s=_
  rw[L_62_1,S_62_1,cond_dff (by omega)])
 have e1:L_62_0 4611686018427387904 0 s s=_:=t1
 have e2:L_62_1 4611686018427387904 0 s s=_:=t2
 rw[e1]
 unfold B_62_0
 dsimp only
 rw[e2]
 rfl
theorem rhd_pv(h:HdrT)(h1:h.2.2.2.1.2.1.length<=1000)(h2:h.2.2.2.1.2.2.1.length<=1000):p_29 h h=true/\v_29 h h=(true,()):=by
 refine pv_29 h h ?_
 have r:=rsig_pv h.2.2.2.1 h1 h2
 unfold F_29
 rw[cond_ett rfl,cond_ett rfl,h32_refl,cond_t,r.1,r.2,gd_tt]
namespace Sp
noncomputable def imw(im:List Int)(j:Nat):Int:=if 0<j/\j<=im.length then im.getD (j-1) 0 else 4294967295
noncomputable def ptw(l im:List Int)(o:Nat):Nat->List Int
 |0=>l
 |j+1=>(ptw l im o j).set (o+j) (imw im j)
end Sp
theorem ptw_len(l im:List Int)(o:Nat):∀j,(Sp.ptw l im o j).length=l.length
 |0=>rfl
 |j+1=>by rw[Sp.ptw,List.length_set,ptw_len l im o j]
theorem ptw_get(l im:List Int)(o i:Nat):∀j,o+j<=l.length->(Sp.ptw l im o j).getD i 0=if o<=i/\i<o+j then Sp.imw im (i-o)else l.getD i 0
 |0,_=>by rw[Sp.ptw,if_neg (by omega)]
 |j+1,h=>by
  have ih:=ptw_get l im o i j (by omega)
  rw[Sp.ptw,List.getD_eq_getElem?_getD,List.getElem?_set]
  by_cases e:o+j=i
  ·rw[if_pos e,if_pos (by rw[ptw_len];omega),if_pos (by omega),show i-o=j by omega]
   rfl
  ·rw[if_neg e,<-List.getD_eq_getElem?_getD,ih]
   by_cases c:o<=i/\i<o+j
   ·rw[if_pos c,if_pos (by omega)]
   ·rw[if_neg c,if_neg (by omega)]
theorem put_j{R:Type}{a:BayT}(k H j:Nat)(im:List Int)(w:Int)(hi:wrap .i64 (wrap .i64 ((k:Int)*(H:Int))+(j:Int))=((k*H+j:Nat):Int))(l:List Int)(hl:k*H+j<l.length)(z6 z7 z8 z9 z10 k0 k1 k2) :
 (B_38_1 (J_38_1 k im false H j w a z6 z7 z8 z9 z10 l) k0 k1 k2:Option R)=if j=0 then k1 k im false H j w a z6 z7 z8 z9 z10 l else k2 k im false H j w a z6 z7 z8 z9 z10 l:=by
 unfold J_38_1 S_38_1
 by_cases c:j=0
 ·rw[if_pos c,cond_ett (by omega),cond_f,hi,gd_inB (by omega) (by omega),Int.toNat_natCast,Bool.and_true,Bool.and_true,gd_dec hl]
  rfl
 ·rw[if_neg c,cond_eff (by omega),hi,gd_inB (by omega) (by omega),Int.toNat_natCast,Bool.and_true,Bool.and_true,gd_dec hl]
  rfl
theorem rput_pv{a:BayT}(h:BB a){k:Nat}(hk:k<2)(im:List Int)(hm:im.length<=100000):p_38 a k im false=true/\v_38 a k im false=(((Sp.ptw a.1.1 im (k*Sp.hlf a) (Sp.hlf a),a.1.2),a.2.1,()),()):=by
 have hv:=h.v
 have h0:=hv.h0
 have h1:=hv.h1
 have ol:=off_lt hv k hk
 have oe:=off_eq hv k (by omega)
 have fl:=fv_iff.1 hv.v
 have cp:=copy_pv (f:=a.1) (by omega) (by omega)
 refine pv_38 a k im false ?_
 unfold F_38
 rw[cp.1,cp.2,gd_tt]
 dsimp only
 rw[half_eq hv]
 have t0:=run0 (fun m i l=>L_38_0 m k im false (Sp.hlf a:Int) i a (0,()) (replicate 32 0,()) [] [] a.1.2 l) (n:=Sp.hlf a) (fun j=>Sp.ptw a.1.1 im (k*Sp.hlf a) j) (r:=some (.e0 a (0,()) (replicate 32 0,()) [] [] a.1.2 (Sp.ptw a.1.1 im (k*Sp.hlf a) (Sp.hlf a)))) (by omega) (fun m j hj=>by
  show L_38_0 (m+1) k im false (Sp.hlf a:Int) (j:Int) a (0,()) (replicate 32 0,()) [] [] a.1.2 (Sp.ptw a.1.1 im (k*Sp.hlf a) j)=L_38_0 m k im false (Sp.hlf a:Int) ((j+1:Nat):Int) a (0,()) (replicate 32 0,()) [] [] a.1.2 (Sp.ptw a.1.1 im (k*Sp.hlf a) (j+1))
  have hi:wrap .i64 (wrap .i64 ((k:Int)*(Sp.hlf a:Int))+(j:Int))=((k*Sp.hlf a+j:Nat):Int):=by rw[oe,wi64 (by omega) (by omega)];push_cast;rfl
  have hl:k*Sp.hlf a+j<(Sp.ptw a.1.1 im (k*Sp.hlf a) j).length:=by rw[ptw_len];omega
  have e1:wrap .i64 ((j:Int)+1)=((j+1:Nat):Int):=by rw[wi64 (by omega) (by omega)];push_cast;rfl
  have fin:∀w,Sp.imw im j=w->(if j=0 then L_38_0 m k im false (Sp.hlf a:Int) (wrap .i64 ((j:Int)+1)) a (0,()) (replicate 32 0,()) [] [] a.1.2 (List.set (Sp.ptw a.1.1 im (k*Sp.hlf a) j) (toNat (wrap .i64 (wrap .i64 ((k:Int)*(Sp.hlf a:Int))+(j:Int)))) w)else L_38_0 m k im false (Sp.hlf a:Int) (wrap .i64 ((j:Int)+1)) a (0,()) (replicate 32 0,()) [] [] a.1.2 (List.set (Sp.ptw a.1.1 im (k*Sp.hlf a) j) (toNat (wrap .i64 (wrap .i64 ((k:Int)*(Sp.hlf a:Int))+(j:Int)))) w))=L_38_0 m k im false (Sp.hlf a:Int) ((j+1:Nat):Int) a (0,()) (replicate 32 0,()) [] [] a.1.2 (Sp.ptw a.1.1 im (k*Sp.hlf a) (j+1)):=by
   intro w hw
   rw[ite_self,hi,Int.toNat_natCast,e1,Sp.ptw,hw]
  rw[L_38_0,S_38_0,cond_dtt (by omega)]
  by_cases c0:j=0
  ·rw[cond_dff (by omega)]
   refine(put_j k (Sp.hlf a) j im 4294967295 hi _ hl ..).trans ?_
   exact fin 4294967295 (by unfold Sp.imw;rw[if_neg (by omega)])
  ·rw[cond_dtt (by omega)]
   by_cases c1:j<=im.length
   ·rw[cond_dtt (by omega),wi64 (n:=(j:Int)-1) (by omega) (by omega),gd_inB (by omega) (by omega)]
    refine(put_j k (Sp.hlf a) j im _ hi _ hl ..).trans ?_
    exact fin _ (by unfold Sp.imw;rw[if_pos (by omega),show((j:Int)-1).toNat=j-1 by omega])
   ·rw[cond_dff (by omega)]
    refine(put_j k (Sp.hlf a) j im 4294967295 hi _ hl ..).trans ?_
    exact fin 4294967295 (by unfold Sp.imw;rw[if_neg (by omega)])) (fun m=>by
  show L_38_0 (m+1) k im false (Sp.hlf a:Int) (Sp.hlf a:Int) a _ _ _ _ _ _=_
  rw[L_38_0,S_38_0,cond_dff (by omega)])
 have t0:L_38_0 4611686018427387904 k im false (Sp.hlf a:Int) 0 a (0,()) (replicate 32 0,()) [] [] a.1.2 a.1.1=_:=t0
 rw[t0]
 rfl
set_option maxRecDepth 100000
set_option maxHeartbeats 4000000
namespace Sp
noncomputable def ful(a:BayT)(im:List Int)(k:Nat):BayT:=((ptw a.1.1 im (k*hlf a) (hlf a),a.1.2),a.2.1,())
end Sp
theorem ful_bvb(a:BayT)(im:List Int)(k:Nat):Sp.bvb (Sp.ful a im k)=Sp.bvb a:=by
 unfold Sp.bvb Sp.fv Sp.ful
 dsimp only
 rw[ptw_len]
 rfl
theorem ful_bb{a:BayT}(h:BB a)(im:List Int)(k:Nat):BB (Sp.ful a im k):=by
 have e:=(ful_bvb a im k).trans h.b
 exact⟨bv_of e,e⟩
theorem ful_at{a:BayT}(h:BB a)(im:List Int){k:Nat}(hk:k<2){j:Nat}(hj:j<Sp.hlf a):(Sp.wds (Sp.ful a im k) k).getD j 0=Sp.imw im j:=by
 have ol:=off_lt h.v k hk
 rw[wds_at k (show j<Sp.hlf (Sp.ful a im k)from hj)]
 show(Sp.ptw a.1.1 im (k*Sp.hlf a) (Sp.hlf a)).getD (k*Sp.hlf a+j) 0=_
 rw[ptw_get _ _ _ _ _ ol,if_pos (by omega),show k*Sp.hlf a+j-k*Sp.hlf a=j by omega]
theorem td_get(l:List Int)(a n:Nat){i:Nat}(hi:i<n):(take n (drop a l)).getD i 0=l.getD (a+i) 0:=by
 rw[List.getD_eq_getElem?_getD,List.getElem?_take,if_pos hi,List.getElem?_drop,<-List.getD_eq_getElem?_getD]
theorem hdw_sg(h:HdrT)(i:Nat):(Sp.hdw h).getD (10+i) 0=(Sp.wordsF h.2.2.2.1).getD i 0:=by
 have l:(Sp.hdp h++Sp.hws h.2.2.1 8).length=10:=by rw[List.length_append,hws_len];rfl
 unfold Sp.hdw
 rw[List.getD_eq_getElem?_getD,List.getElem?_append_right (by omega),l,show 10+i-10=i by omega,<-List.getD_eq_getElem?_getD]
structure SG(A:BayT)(h:HdrT)(w:List Int):Prop where
 b:BB A
 s:Sp.shp h.2.2.2.1=true
 r:Sp.rd (Sp.wordsF h.2.2.2.1)=h.2.2.2.1
 o:Sp.okw (Sp.wordsF h.2.2.2.1)=true
 d:bytes h.2.2.1
 dl:h.2.2.1.length=32
 v0:1<=h.1
 v1:h.1<2147483648
 hl:h.2.1=(w.length:Int)
 l0:1<=w.length
 l1:w.length+564<=Sp.hlf A
theorem sg_at{A:BayT}{h:HdrT}{w:List Int}(S:SG A h w){k:Nat}(hk:k<2){j:Nat}(h0:0<j)(hj:j<564+w.length):(Sp.wds (Sp.ful A (Sp.hdw h++w) k) k).getD j 0=if j<564 then(Sp.hdw h).getD (j-1) 0 else w.getD (j-564) 0:=by
 have l1:=S.l1
 have hl:=hdw_len S.s
 rw[ful_at S.b _ hk (by omega)]
 unfold Sp.imw
 rw[if_pos ⟨h0,by rw[List.length_append];omega⟩,List.getD_eq_getElem?_getD]
 by_cases c:j<564
 ·rw[if_pos c,List.getElem?_append_left (by omega),<-List.getD_eq_getElem?_getD]
 ·rw[if_neg c,List.getElem?_append_right (by omega),hl,<-List.getD_eq_getElem?_getD,show j-1-563=j-564 by omega]
theorem sg_hx{A:BayT}{h:HdrT}{w:List Int}(S:SG A h w){k:Nat}(hk:k<2):Sp.hx (Sp.wds (Sp.ful A (Sp.hdw h++w) k) k)=(h,true,()):=by
 have l0:=S.l0
 have l1:=S.l1
 have hl:=S.hl
 have v0:=S.v0
 have v1:=S.v1
 have B:=ful_bb S.b (Sp.hdw h++w) k
 have at_:=fun{j:Nat}(h0:0<j)(hj:j<564+w.length)=>sg_at S hk h0 hj
 have wl:(Sp.wds (Sp.ful A (Sp.hdw h++w) k) k).length=Sp.hlf A:=wds_len B.v k hk
 generalize Sp.wds (Sp.ful A (Sp.hdw h++w) k) k=W at at_ wl⊢
 have wf:=wordsF_len S.s
 have h11:=S.b.v.h1
 have e553:take 553 (drop 11 W)=Sp.wordsF h.2.2.2.1:=by
  refine list_ext 0 (by rw[List.length_take,List.length_drop,wf];omega) (fun i hi=> ?_)
  rw[List.length_take,List.length_drop]at hi
  rw[td_get _ _ _ (by omega),at_ (by omega) (by omega),if_pos (by omega),show 11+i-1=10+i by omega,hdw_sg]
 have e8:take 8 (drop 3 W)=Sp.hws h.2.2.1 8:=by
  refine list_ext 0 (by rw[List.length_take,List.length_drop,hws_len];omega) (fun j hj=> ?_)
  rw[List.length_take,List.length_drop]at hj
  rw[td_get _ _ _ (by omega),at_ (by omega) (by omega),if_pos (by omega),show 3+j-1=j+2 by omega]
  exact(hdw_at h j).2.2 (by omega)
 have e1:W.getD 1 0=h.1:=by
  rw[at_ (by omega) (by omega),if_pos (by omega),(hdw_at h 0).1,wu32' (by omega) (by omega)]
 have e2:W.getD 2 0=h.2.1:=by
  rw[at_ (by omega) (by omega),if_pos (by omega),(hdw_at h 0).2.1,wu32' (by omega) (by omega)]
 unfold Sp.hx
 rw[e553,S.o,cond_t,e1,e2,wi64 (n:=h.1) (by omega) (by omega),wi64 (n:=h.2.1) (by omega) (by omega),cond_dff (by omega),cond_dff (by omega),cond_dff (by omega),cond_dff (by omega),e8,spr_hws S.d S.dl,S.r]
theorem sg_hdr{A:BayT}{h:HdrT}{w:List Int}(S:SG A h w){k:Nat}(hk:k<2):p_14 (Sp.ful A (Sp.hdw h++w) k) k=true/\v_14 (Sp.ful A (Sp.hdw h++w) k) k=(h,true,()):=by
 have B:=ful_bb S.b (Sp.hdw h++w) k
 refine pv_14 _ _ ?_
 rw[hdr_eq B k hk,sg_hx S hk]
theorem sg_good{A:BayT}{h:HdrT}{w:List Int}(S:SG A h w){k:Nat}(hk:k<2)(hd:h.2.2.1=Sp.sha (Sp.spr ([h.1,h.2.1]++w)))(hv:Sp.verF A.2.1 h.2.2.1 h.2.2.2.1=true):Sp.gdb (Sp.ful A (Sp.hdw h++w) k) k=true:=by
 have l0:=S.l0
 have l1:=S.l1
 have hl:=S.hl
 have v0:=S.v0
 have v1:=S.v1
 have h11:=S.b.v.h1
 have B:=ful_bb S.b (Sp.hdw h++w) k
 have hp:=sg_hdr S hk
 have wp:=words_pv B.v k hk
 have at_:=fun{j:Nat}(h0:0<j)(hj:j<564+w.length)=>sg_at S hk h0 hj
 have wl:(Sp.wds (Sp.ful A (Sp.hdw h++w) k) k).length=Sp.hlf A:=wds_len B.v k hk
 have e2:take 2 (drop 1 (Sp.wds (Sp.ful A (Sp.hdw h++w) k) k))=[h.1,h.2.1]:=by
  rw[two_eq _ (by omega),at_ (by omega) (by omega),at_ (by omega) (by omega),if_pos (by omega),if_pos (by omega),(hdw_at h 0).1,(hdw_at h 0).2.1,wu32' (by omega) (by omega),wu32' (by omega) (by omega)]
 have ew:take (toNat (wrap .i64 (564+h.2.1))-564) (drop 564 (Sp.wds (Sp.ful A (Sp.hdw h++w) k) k))=w:=by
  rw[wi64 (by omega) (by omega),show toNat (564+h.2.1)-564=w.length by omega]
  refine list_ext 0 (by rw[List.length_take,List.length_drop];omega) (fun j hj=> ?_)
  rw[List.length_take,List.length_drop]at hj
  rw[td_get _ _ _ (by omega),at_ (by omega) (by omega),if_neg (by omega),show 564+j-564=j by omega]
 have c:=pv_43 _ (cat_ok [h.1,h.2.1] w (by show(2:Nat)<1000000;decide) (by omega))
 have hq:=pv_44 _ (spr_eq ([h.1,h.2.1]++w) (by rw[List.length_append];show 2+w.length<_;omega))
 have hs:=pv_35 _ (i_sum (Sp.spr ([h.1,h.2.1]++w)) (by rw[spr_len,List.length_append];show 4*(2+w.length)<_;omega))
 have vv:=pv_45 _ _ _ (verify_ok A.2.1 h.2.2.1 S.d h.2.2.2.1)
 rw[hv]at vv
 have F:F_13 (Sp.ful A (Sp.hdw h++w) k) k=some (true,()):=by
  unfold F_13
  rw[hp.1,hp.2,gd_tt,wp.1,wp.2,gd_tt]
  dsimp only
  rw[Bool.not_true,cond_f,e2,ew,wl,gd_sl3 (lo:=1) (hi:=3) (by omega) (by omega) (by omega),gd_sl3 (lo:=564) (by omega) (by rw[wi64 (by omega) (by omega)];omega) (by rw[wi64 (by omega) (by omega)];omega),c.1,c.2,gd_tt]
  dsimp only
  rw[hq.1,hq.2,gd_tt]
  dsimp only
  rw[hs.1,hs.2,gd_tt]
  dsimp only
  rw[<-hd,h32_refl,cond_t]
  show gd (p_45 A.2.1 h.2.2.1 h.2.2.2.1) (some ((v_45 A.2.1 h.2.2.1 h.2.2.2.1).1,()))=_
  rw[vv.1,vv.2,gd_tt]
 unfold Sp.gdb v_13
 rw[F]
 rfl
theorem sg_pgm{A:BayT}{h:HdrT}{w:List Int}(S:SG A h w){k:Nat}(hk:k<2):Sp.pgm (Sp.ful A (Sp.hdw h++w) k) k=w:=by
 have l0:=S.l0
 have l1:=S.l1
 have hl:=S.hl
 have h11:=S.b.v.h1
 have B:=ful_bb S.b (Sp.hdw h++w) k
 have at_:=fun{j:Nat}(h0:0<j)(hj:j<564+w.length)=>sg_at S hk h0 hj
 have wl:(Sp.wds (Sp.ful A (Sp.hdw h++w) k) k).length=Sp.hlf A:=wds_len B.v k hk
 have e2:(Sp.wds (Sp.ful A (Sp.hdw h++w) k) k).getD 2 0=h.2.1:=by
  rw[at_ (by omega) (by omega),if_pos (by omega),(hdw_at h 0).2.1,wu32' (by omega) (by omega)]
 unfold Sp.pgm
 rw[e2,wi64 (n:=h.2.1) (by omega) (by omega),wi64 (by omega) (by omega),show toNat (564+h.2.1)-564=w.length by omega]
 refine list_ext 0 (by rw[List.length_take,List.length_drop];omega) (fun j hj=> ?_)
 rw[List.length_take,List.length_drop]at hj
 rw[td_get _ _ _ (by omega),at_ (by omega) (by omega),if_neg (by omega),show 564+j-564=j by omega]
theorem sg_vr{A:BayT}{h:HdrT}{w:List Int}(S:SG A h w){k:Nat}(hk:k<2):Sp.vr (Sp.ful A (Sp.hdw h++w) k) k=h.1:=by
 unfold Sp.vr
 rw[(sg_hdr S hk).2]
theorem sg_acb{A:BayT}(B:BB A)(im:List Int){k:Nat}(hk:k<2):Sp.acb (Sp.ful A im k) k=false:=by
 have B':=ful_bb B im k
 have h0:=B.v.h0
 unfold Sp.acb
 rw[<-wds_get B'.v k hk,ful_at B im hk (by omega)]
 rfl
set_option maxRecDepth 100000
set_option maxHeartbeats 4000000
theorem sg_full:p_34=true/\v_34=((1099511627776,0,()),()):=pv_34 rfl
theorem act_20{a:BayT}(h:BB a)(k:Nat)(hk:k<2)(hg:Sp.gdb a k=true)(ha:Sp.acb a k=false)(hv:Sp.vr a k<Sp.lst a):p_31 a k (1099511627776,0,())=true/\(v_31 a k (1099511627776,0,())).2.2.1=20:=by
 rcases act_any h (k:Int)with⟨c,_,hc,hF⟩|⟨n,hn,e,_,_,hl⟩
 ·have p:=pv_31 _ _ _ (hF (1099511627776,0,()) (by decide) (by decide))
  refine⟨p.1,?_⟩
  rw[p.2]
  show c=20
  rcases hc with⟨hb,_⟩|⟨n,hn,e,h1|h1|h1⟩
  ·rw[bank_nat k hk]at hb;exact Bool.noConfusion hb
  ·have:k=n:=by omega
   subst this
   rw[hg]at h1;exact Bool.noConfusion h1.1
  ·have:k=n:=by omega
   subst this
   rw[ha]at h1;exact Bool.noConfusion h1.2.1
  ·exact h1.2.2.2
 ·have:k=n:=by omega
  subst this
  omega
theorem sel_new{F:BayT}(B:BB F){k:Nat}(hk:k<2)(hg:Sp.gdb F k=true)(ha:Sp.acb F k=false)(c:¬Sp.vr F k<Sp.lst F) :
 (Sp.sel (Sp.pt F k 4294967295)).2.1=0/\Sp.lst (Sp.pt F k 4294967295)=Sp.vr F k/\((Sp.sel (Sp.pt F k 4294967295)).1=(k:Int)\/(Sp.has F=true/\Sp.vr F k=Sp.lst F/\(Sp.sel (Sp.pt F k 4294967295)).1=0)):=by
 have ck:Sp.cnd (Sp.pt F k 4294967295) k=true:=by
  unfold Sp.cnd
  rw[pt_acb B k hk _ k hk,if_pos rfl,andn_all,pt_gdb B k hk _ k hk,hg]
  rfl
 have fk:Sp.cnd F k=false:=by unfold Sp.cnd;rw[ha];rfl
 have co:∀j,j<2->j≠k->Sp.cnd (Sp.pt F k 4294967295) j=Sp.cnd F j:=fun j hj hn=>by
  unfold Sp.cnd
  rw[pt_acb B k hk _ j hj,if_neg hn,pt_gdb B k hk _ j hj]
 have v0:=pt_vr B k hk 4294967295 0 (by decide)
 have v1:=pt_vr B k hk 4294967295 1 (by decide)
 generalize Sp.pt F k 4294967295=X at ck co v0 v1⊢
 match k,hk with
 |0,_=>
  have c1:=co 1 (by decide) (by decide)
  unfold Sp.lst Sp.sb Sp.has at c⊢
  unfold Sp.sel
  rw[fk]at c⊢
  rw[ck,c1,v0,v1]
  cases h:Sp.cnd F 1
  ·refine⟨rfl,v0,.inl rfl⟩
  ·rw[h]at c
   have c:¬Sp.vr F 0<Sp.vr F 1:=c
   rw[decide_eq_false (show ¬Sp.vr F 1>Sp.vr F 0 from c)]
   exact⟨rfl,v0,.inl rfl⟩
 |1,_=>
  have c0:=co 0 (by decide) (by decide)
  unfold Sp.lst Sp.sb Sp.has at c⊢
  unfold Sp.sel
  rw[fk]at c⊢
  rw[ck,c0,v0,v1]
  cases h:Sp.cnd F 0
  ·refine⟨rfl,v1,.inl rfl⟩
  ·rw[h]at c
   have c:¬Sp.vr F 1<Sp.vr F 0:=c
   by_cases g:Sp.vr F 1>Sp.vr F 0
   ·rw[decide_eq_true g]
    exact⟨rfl,v1,.inl rfl⟩
   ·rw[decide_eq_false g]
    have e:Sp.vr F 1=Sp.vr F 0:=by omega
    exact⟨rfl,v0.trans e.symm,.inr ⟨rfl,e,rfl⟩⟩
theorem end_ok{F:BayT}(B:BB F){k:Nat}(hk:k<2)(hg:Sp.gdb F k=true)(ha:Sp.acb F k=false){v:Int}(hv:Sp.vr F k=v)(v0:1<=v)(v1:v<2147483648) :
 B_9_1 (J_9_1 v (k:Int) (Sp.has F) F) (fun y z=>some ((v_31 z y v_34.1).2.2.1==20)) (fun y z=>some ((v_20 z).1==wrap .i64 y)) (some false)=some true:=by
 have lp:=lst_pv B
 unfold J_9_1 S_9_1
 rw[sg_full.1,sg_full.2,gd_tt]
 by_cases c:v<Sp.lst F
 ·have ac:=act_20 B k hk hg ha (by rw[hv];exact c)
  rw[ac.1,gd_tt,lp.1,lp.2,gd_tt]
  dsimp only
  rw[wi64 (n:=v) (by omega) (by omega),cond_dtt c]
  show some ((v_31 F k (1099511627776,0,())).2.2.1==20)=some true
  rw[ac.2]
  rfl
 ·have ac:=full_act B k hk hg ha (by omega)
  have Bx:=pt_bb B k 4294967295
  have sx:=sel_pv Bx
  have lx:=lst_pv Bx
  obtain⟨s2,sl,s1⟩:=sel_new B hk hg ha (by rw[hv];exact c)
  rw[ac.1,ac.2,gd_tt,lp.1,lp.2,gd_tt]
  dsimp only
  rw[wi64 (n:=v) (by omega) (by omega),cond_dff c,sx.1,sx.2,gd_tt,s2]
  rw[hv]at sl s1
  have J:∀ {R:Type}(z:Bool),((Sp.sel (Sp.pt F k 4294967295)).1=(k:Int)\/(z=true/\(Sp.sel (Sp.pt F k 4294967295)).1=0))->∀(K0:Int->BayT->Option R)(K1:Option R),B_9_2 (J_9_2 v (k:Int) 0 (Sp.sel (Sp.pt F k 4294967295)).1 0 z (Sp.pt F k 4294967295)) K0 K1=K0 v (Sp.pt F k 4294967295):=by
   intro R z hz K0 K1
   unfold J_9_2 S_9_2
   rw[cond_ett rfl,cond_ett rfl,lx.1,gd_tt]
   by_cases e:(Sp.sel (Sp.pt F k 4294967295)).1=(k:Int)
   ·rw[cond_ett e]
    rfl
   ·rw[cond_eff e]
    rcases hz with h|⟨rfl,h⟩
    ·exact absurd h e
    ·rw[cond_t,cond_ett h]
     rfl
  have out:some ((v_20 (Sp.pt F k 4294967295)).1==wrap .i64 v)=some true:=by
   rw[lx.2,sl,wi64 (n:=v) (by omega) (by omega)]
   show some (v==v)=_
   rw[beq_self_eq_true]
  cases hh:Sp.has F
  ·rw[cond_f]
   rw[hh]at s1
   have s1:(Sp.sel (Sp.pt F k 4294967295)).1=(k:Int):=s1.elim id (fun z=>Bool.noConfusion z.1)
   refine(congrArg (fun r=>B_9_1 r _ _ _) (J false (.inl s1) _ _)).trans ?_
   exact out
  ·rw[cond_t]
   have hz:(Sp.sel (Sp.pt F k 4294967295)).1=(k:Int)\/((v==Sp.lst F)=true/\(Sp.sel (Sp.pt F k 4294967295)).1=0):=s1.elim .inl (fun z=> .inr ⟨by rw[z.2.1];exact beq_self_eq_true _,z.2.2⟩)
   refine(congrArg (fun r=>B_9_1 r _ _ _) (J _ hz _ _)).trans ?_
   exact out
theorem bl_ok{a:BayT}{v key k:Int}{pr seed l:List Int}(hl:l.length<=1000):L_9_0 4611686018427387904 v pr key k l.length 0 a seed [] l=some (.e0 v pr key k a seed (Sp.spr l)):=by
 have t0:=run0 (fun m i acc=>L_9_0 m v pr key k l.length i a seed acc l) (n:=l.length) (fun j=>Sp.spr (l.take j)) (r:=some (.e0 v pr key k a seed (Sp.spr l))) (by omega) (fun m j hj=>by
  show L_9_0 (m+1) v pr key k l.length (j:Int) a seed (Sp.spr (l.take j)) l=L_9_0 m v pr key k l.length ((j+1:Nat):Int) a seed (Sp.spr (l.take (j+1))) l
  have ll:(Sp.spr (l.take j)).length=4*j:=by rw[spr_len,List.length_take];omega
  rw[L_9_0,S_9_0,cond_dtt (by omega),gd_inB (by omega) (by omega),Int.toNat_natCast,Bool.and_true,gd_dec (by omega),gd_room (by omega) (by omega),wi64 (by omega) (by omega),spr_succ l j hj]
  push_cast
  rfl) (fun m=>by
  show L_9_0 (m+1) v pr key k l.length (l.length:Int) a seed (Sp.spr (l.take l.length)) l=_
  rw[L_9_0,S_9_0,cond_dff (by omega),List.take_length])
 exact t0
theorem plain_9(a:BayT)(bk v:Int)(pr seed:List Int)(key:Int)(wb:wfD (.pair (.pair (.slice (.int .u32)) (.pair (.slice (.int .i64)) (.pair (.int .i64) .unit))) (.pair (.arr 32 (.int .u8)) .unit)) a)(wk:wfD (.int .u8) bk)(wv:wfD (.int .u32) v)(wp:wfD (.slice (.int .u32)) pr)(ws:wfD (.arr 32 (.int .u8)) seed)(wy:wfD (.int .u8) key):F_9 a bk v pr seed key=some true:=by
 have hbk:=u8_b wk
 have hky:=u8_b wy
 unfold F_9
 rw[aw_pv.1,aw_pv.2,gd_tt,few_p a,gd_tt]
 dsimp only
 rw[Bool.not_true,cond_f]
 cases (v_11 a).1
 ·rfl
 rw[Bool.not_true,cond_f,(val_pv a).1,(val_pv a).2,gd_tt]
 dsimp only
 cases hb:Sp.bvb a
 ·rfl
 have hv:=bv_of hb
 have h0:=hv.h0
 have h1:=hv.h1
 rw[Bool.not_true,cond_f]
 by_cases c1:(pr.length:Int)>500
 ·rw[cond_dtt c1]
 rw[cond_dff c1]
 by_cases c2:(pr.length:Int)<1
 ·rw[cond_dtt c2]
 rw[cond_dff c2]
 by_cases c3:v<1
 ·rw[cond_dtt c3]
 rw[cond_dff c3]
 by_cases c4:v>=2147483648
 ·rw[cond_dtt c4]
 rw[cond_dff c4,half_eq hv,wi64 (n:=(Sp.hlf a:Int)-564) (by omega) (by omega)]
 by_cases c5:(pr.length:Int)>(Sp.hlf a:Int)-564
 ·rw[cond_dtt c5]
 rw[cond_dff c5]
 obtain⟨k,hk2⟩:∃k:Nat,(k:Int)=bk%2:=⟨(bk%2).toNat,by omega⟩
 have hk:k<2:=by omega
 have ek:Int.tmod (wrap .i64 bk) 2=(k:Int):=by rw[wi64 (by omega) (by omega),Int.tmod_eq_emod_of_nonneg (by omega),hk2]
 have eq_:Int.tmod (wrap .i64 key) 4=key%4:=by rw[wi64 (by omega) (by omega),Int.tmod_eq_emod_of_nonneg (by omega)]
 rw[gd_room (by omega) (by omega),ek,wu32' (n:=(pr.length:Int)) (by omega) (by omega)]
 have ll:([v,(pr.length:Int)]++pr).length<=1000:=by rw[List.length_append];show 2+pr.length<=1000;omega
 rw[bl_ok ll]
 unfold B_9_0
 dsimp only
 have hs:=pv_35 _ (i_sum (Sp.spr ([v,(pr.length:Int)]++pr)) (by rw[spr_len];omega))
 obtain⟨dl,db⟩:=sha_32 (Sp.spr ([v,(pr.length:Int)]++pr))
 have q0:0<=key%4:=by omega
 have q1:key%4<4:=by omega
 rw[eq_,hs.1,hs.2,gd_tt]
 dsimp only
 have hdg:Sp.sha (Sp.spr ([v,(pr.length:Int)]++pr))=Sp.sha (Sp.spr ([v,(pr.length:Int)]++pr)):=rfl
 generalize hD:Sp.sha (Sp.spr ([v,(pr.length:Int)]++pr))=dg at dl db hdg⊢
 generalize key%4=q at q0 q1⊢
 have sg:=pv_36 _ _ _ (sign_ok seed q dg db q0 q1)
 have pk:=pv_37 _ (public_ok seed)
 have rt:=right_ok seed dg db q q0 q1
 have sp:=sig_shp seed dg q0 q1
 have sr:=sig_rd seed dg q0 q1
 rw[sg.1,sg.2,gd_tt]
 dsimp only
 generalize Sp.sigF seed q dg=s at rt sp sr⊢
 generalize Sp.pubK seed=y at pk rt
 have sl:=shp_len sp
 rw[cond_nff rfl,cond_nff (by omega),cond_nff (by omega),pk.1,pk.2,gd_tt]
 dsimp only
 rw[wi64 (n:=v) (by omega) (by omega)]
 have im:=rimw_pv (h:=(v,(pr.length:Int),dg,s,())) pr (by omega) db sp
 have hdl:(Sp.hdw (v,(pr.length:Int),dg,s,())).length=563:=hdw_len sp
 have BA:BB (a.1,y,()):=⟨bv_of hb,hb⟩
 have pt:=rput_pv BA hk (Sp.hdw (v,(pr.length:Int),dg,s,())++pr) (by rw[List.length_append];omega)
 rw[im.1,im.2,gd_tt]
 dsimp only
 have S:SG (a.1,y,()) (v,(pr.length:Int),dg,s,()) pr:=⟨BA,sp,sr.1,sr.2,db,dl,by show 1<=v;omega,by show v<2147483648;omega,rfl,by omega,by show pr.length+564<=Sp.hlf a;omega⟩
 have ef:((Sp.ptw a.1.1 (Sp.hdw (v,(pr.length:Int),dg,s,())++pr) (k*Sp.hlf a) (Sp.hlf a),a.1.2),y,())=Sp.ful (a.1,y,()) (Sp.hdw (v,(pr.length:Int),dg,s,())++pr) k:=rfl
 have pt1:p_38 (a.1,y,()) k (Sp.hdw (v,(pr.length:Int),dg,s,())++pr) false=true:=pt.1
 have pt2:v_38 (a.1,y,()) k (Sp.hdw (v,(pr.length:Int),dg,s,())++pr) false=(Sp.ful (a.1,y,()) (Sp.hdw (v,(pr.length:Int),dg,s,())++pr) k,()):=pt.2
 have hd:=sg_hdr S hk
 have gd_:=sg_good S hk hD.symm rt
 have BF:=ful_bb BA (Sp.hdw (v,(pr.length:Int),dg,s,())++pr) k
 have ac:=sg_acb BA (Sp.hdw (v,(pr.length:Int),dg,s,())++pr) hk
 have vr:=sg_vr S hk
 have pg:=prog_pv BF hk gd_
 rw[sg_pgm S hk]at pg
 have sm:=rhd_pv (v,(pr.length:Int),dg,s,()) (by show s.2.1.length<=1000;omega) (by show s.2.2.1.length<=1000;omega)
 have gp:=good_pv BF.v BF.b k hk
 have av:=atv BF
 have eqp:=equ_pv pr pr (by omega)
 rw[show(a.1,y,a.2.2)=(a.1,y,())from rfl,pt1,pt2,gd_tt]
 dsimp only
 generalize Sp.ful (a.1,y,()) (Sp.hdw (v,(pr.length:Int),dg,s,())++pr) k=F at hd gd_ BF ac vr pg gp av⊢
 rw[hd.1,hd.2,gd_tt,pg.1,pg.2,gd_tt]
 dsimp only
 rw[Bool.not_true,cond_f,sm.1,sm.2,gd_tt]
 dsimp only
 rw[Bool.not_true,cond_f,gp.1,gd_tt,show(v_13 F (k:Int)).1=true from gd_,Bool.not_true,cond_f,cond_nff rfl,eqp.1,eqp.2,gd_tt,decide_eq_true rfl]
 dsimp only
 rw[Bool.not_true,cond_f,av.1,av.2,gd_tt]
 dsimp only
 have en:=end_ok BF hk gd_ ac vr (by show 1<=v;omega) (by show v<2147483648;omega)
 cases hh:Sp.has F
 ·rw[cond_f]
  rw[hh]at en
  exact en
 ·rw[cond_t]
  have cs:=cnd_sb hh
  have ne:((Sp.sb F:Int)==(k:Int))=false:=beq_eq_false_iff_ne.2 (fun z=>by
   have z:Sp.sb F=k:=by omega
   unfold Sp.cnd at cs
   rw[z,ac]at cs
   exact Bool.noConfusion cs)
  rw[ne,cond_f]
  rw[hh]at en
  exact en
end Go.Ev
