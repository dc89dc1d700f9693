/- Helpers: functions of the program as Lean functions, and what they compute. No condition. -/
import Derived.Test.YtfofdehkgkjbbaaE3P4
import Derived.Test.YtfofdehkgkjbbaaG3P1
import Derived.Test.YtfofdehkgkjbbaaG3P2
set_option maxRecDepth 10000
set_option linter.unusedVariables false
set_option linter.unusedSimpArgs false
open Go.IntKind (wrap i64 i32 i16 i8 u64 u32 u16 u8)
open List (getD length take drop replicate)
open Int (toNat)
open Go.Ev.Sp
set_option linter.unusedSimpArgs false
set_option linter.unusedVariables false
namespace Go.Ev
open Go
set_option maxRecDepth 100000
set_option maxHeartbeats 4000000
abbrev FlT:=List Int×List Int×Int×Unit
abbrev PwT:=Int×Int×Unit
abbrev OpT:=Bool×Int×Int×Unit
abbrev RsT:=FlT×PwT×Int×Unit
namespace Sp
noncomputable def wb(f:FlT)(j:Nat):Bool:=decide (f.2.1.getD j 0<0)||decide (f.2.1.getD j 0>f.2.2.1)
noncomputable def fv(f:FlT):Bool:=decide (1<=f.2.1.length)&&(decide (f.2.1.length<=64)&&(decide (f.1.length=f.2.1.length*64)&&(decide (1<=f.2.2.1)&&(decide (f.2.2.1<=1000000)&&(fnd (wb f) f.2.1.length 0).isNone))))
noncomputable def pw(f:FlT)(k:Nat)(w bits:Int):FlT:=(f.1.set k (andnI .u32 (f.1.getD k 0) (andnI .u32 bits w)),f.2.1,f.2.2.1,())
noncomputable def prg(f:FlT)(k:Nat)(w:Int)(p:PwT):RsT:=if p.1=0 then(f,p,18,())else if p.1=1 then(pw f k w p.2.1,(0,p.2),18,())else(pw f k w 4294967295,(p.1-1,p.2),0,())
end Sp
theorem fv_iff{f:FlT}:Sp.fv f=true↔1<=f.2.1.length/\f.2.1.length<=64/\f.1.length=f.2.1.length*64/\1<=f.2.2.1/\f.2.2.1<=1000000/\∀j,j<f.2.1.length->0<=f.2.1.getD j 0/\f.2.1.getD j 0<=f.2.2.1:=by
 simp only[Sp.fv,Bool.and_eq_true,decide_eq_true_eq,Option.isNone_iff_eq_none,fnd_none,Sp.wb,Bool.or_eq_false_iff,decide_eq_false_iff_not]
 constructor
 ·rintro⟨a,b,c,d,e,g⟩
  refine⟨a,b,c,d,e,fun j hj=> ?_⟩
  have:=g j (by omega) (by omega)
  omega
 ·rintro⟨a,b,c,d,e,g⟩
  refine⟨a,b,c,d,e,fun j _ hj=> ?_⟩
  have:=g j (by omega)
  omega
theorem fv_ok(f:FlT):F_40 f=some (Sp.fv f,()):=by
 unfold F_40 Sp.fv
 by_cases h1:(f.2.1.length:Int)<1
 ·rw[cond_dtt h1,decide_eq_false (by omega)];rfl
 rw[cond_dff h1,decide_eq_true (p:=1<=f.2.1.length) (by omega),Bool.true_and]
 by_cases h2:(f.2.1.length:Int)>64
 ·rw[cond_dtt h2,decide_eq_false (by omega)];rfl
 rw[cond_dff h2,decide_eq_true (p:=f.2.1.length<=64) (by omega),Bool.true_and,wi64 (by omega) (by omega)]
 by_cases h3:(f.1.length:Int)=(f.2.1.length:Int)*64
 rotate_left
 ·rw[cond_ntt h3,decide_eq_false (p:=f.1.length=_) (by omega)];rfl
 rw[cond_nff h3,decide_eq_true (p:=f.1.length=_) (by omega),Bool.true_and]
 by_cases h4:f.2.2.1<1
 ·rw[cond_dtt h4,decide_eq_false (by omega)];rfl
 rw[cond_dff h4,decide_eq_true (p:=1<=f.2.2.1) (by omega),Bool.true_and]
 by_cases h5:f.2.2.1>1000000
 ·rw[cond_dtt h5,decide_eq_false (by omega)];rfl
 rw[cond_dff h5,decide_eq_true (p:=f.2.2.1<=1000000) (by omega),Bool.true_and]
 have hf:=find0 (fun m i=>L_40_98_0_0 m f.2.1 f.2.1.length i f) (n:=f.2.1.length) (Sp.wb f) (ex:=fun j=>some (.e0 (j:Int) f)) (e1:=some (.e1 f)) (by omega) (fun m j hj=>by
  show L_40_98_0_0 (m+1) f.2.1 f.2.1.length j f=bif Sp.wb f j then some (.e0 (j:Int) f)else L_40_98_0_0 m f.2.1 f.2.1.length ((j+1:Nat):Int) f
  rw[L_40_98_0_0,S_40_98_0_0,cond_dtt (by omega),gd_inB (by omega) (by omega),Int.toNat_natCast,wi64 (by omega) (by omega)]
  unfold Sp.wb
  push_cast
  grind) (fun m=>by
  show L_40_98_0_0 (m+1) f.2.1 f.2.1.length f.2.1.length f=_
  rw[L_40_98_0_0,S_40_98_0_0,cond_dff (by omega)])
 rw[hf]
 cases fnd (Sp.wb f) f.2.1.length 0 with
 |none=>rfl
 |some k=>
  simp only[B_40_98_0_0,Option.isNone]
  rw[decide_eq_true (by omega)]
  rfl
theorem fv_pv(f:FlT):p_40 f=true/\v_40 f=(Sp.fv f,()):=pv_40 f (fv_ok f)
set_option maxRecDepth 100000
set_option maxHeartbeats 4000000
namespace Sp
noncomputable def rotr(x:Int)(n:Nat):Int:=orI .u32 (x.fdiv (2^n)) (wrap .u32 (x*2^(32-n)))
noncomputable def wat(b:List Int)(i:Nat):Int:=orI .u32 (orI .u32 (orI .u32 (wrap .u32 (wrap .u32 (b.getD i 0)*16777216)) (wrap .u32 (wrap .u32 (b.getD (i+1) 0)*65536))) (wrap .u32 (wrap .u32 (b.getD (i+2) 0)*256))) (wrap .u32 (b.getD (i+3) 0))
end Sp
theorem orI_comm(k:IntKind)(a b:Int):Sp.orI k a b=Sp.orI k b a:=by unfold Sp.orI;rw[BitVec.or_comm]
theorem word_ok(b:List Int)(h:4<=b.length):F_95 b=some (Sp.wat b 0,()):=by
 unfold F_95
 simp (disch:=first|omega|(simp only[List.length_drop,List.length_take,List.length_set,List.length_append,List.length_replicate,List.length_cons,List.length_nil];omega)) only[gd_and,gd_tt,gd_dec,gd_beq,gd_inB,gd_sl3,gd_room,cond_dtt,cond_dff,cond_ett,cond_eff,cond_ntt,cond_nff,cond_t,cond_f,wi64,Int.toNat_natCast]
 rfl
theorem word_pv(b:List Int)(h:4<=b.length):p_95 b=true/\v_95 b=(Sp.wat b 0,()):=pv_95 b (word_ok b h)
theorem p_word(b:List Int)(h:4<=b.length):p_95 b=true:=(word_pv b h).1
theorem v_word(b:List Int)(h:4<=b.length):v_95 b=(Sp.wat b 0,()):=(word_pv b h).2
theorem wat_drop(b:List Int)(i j:Nat):Sp.wat (b.drop i) j=Sp.wat b (i+j):=by
 unfold Sp.wat
 simp only[List.getD_eq_getElem?_getD,List.getElem?_drop,Nat.add_assoc]
theorem wat_take(b:List Int)(n j:Nat)(h:j+4<=n):Sp.wat (b.take n) j=Sp.wat b j:=by
 unfold Sp.wat
 simp only[List.getD_eq_getElem?_getD,List.getElem?_take]
 simp only[show j<n by omega,show j+1<n by omega,show j+2<n by omega,show j+3<n by omega,if_true]
theorem turn_pv(x:Int)(n:Nat)(h0:n<=32):p_105 x n=true/\v_105 x n=(Sp.rotr x n,()):=by
 refine pv_105 x n ?_
 unfold F_105 Sp.rotr
 rw[wu64 (by omega) (by omega)]
 simp (disch:=first|omega|(simp only[List.length_drop,List.length_take,List.length_set,List.length_append,List.length_replicate,List.length_cons,List.length_nil];omega)) only[gd_and,gd_tt,gd_dec,gd_beq,gd_inB,gd_sl3,gd_room,cond_dtt,cond_dff,cond_ett,cond_eff,cond_ntt,cond_nff,cond_t,cond_f,wi64,Int.toNat_natCast]
 rw[show(32-(n:Int)).toNat=32-n by omega,nmin_l (by omega),nmin_l (by omega)]
theorem rot_aux(x n:Int)(m:Nat)(h:(Sp.andI .u64 (wrap .u64 (wrap .i64 (0-n))) 31)=((32-m:Nat):Int))(h1:m<=32):p_96 x n=true/\v_96 x n=(Sp.rotr x m,()):=by
 have h2:p_104 x (wrap .i64 (0-n))=true/\v_104 x (wrap .i64 (0-n))=(Sp.rotr x m,()):=by
  refine pv_104 _ _ ?_
  unfold F_104 Sp.rotr
  rw[h,wu64 (by omega) (by omega)]
  simp (disch:=first|omega|(simp only[List.length_drop,List.length_take,List.length_set,List.length_append,List.length_replicate,List.length_cons,List.length_nil];omega)) only[gd_and,gd_tt,gd_dec,gd_beq,gd_inB,gd_sl3,gd_room,cond_dtt,cond_dff,cond_ett,cond_eff,cond_ntt,cond_nff,cond_t,cond_f,wi64,Int.toNat_natCast]
  rw[show(32-(((32-m:Nat)):Int)).toNat=m by omega,nmin_l (by omega),nmin_l (by omega),orI_comm]
 refine pv_96 x n ?_
 unfold F_96
 rw[h2.1,h2.2];rfl
theorem right7(x:Int):p_96 x 7=true/\v_96 x 7=(Sp.rotr x 7,()):=rot_aux x 7 7 (by kernel_rfl) (by decide)
theorem right18(x:Int):p_96 x 18=true/\v_96 x 18=(Sp.rotr x 18,()):=rot_aux x 18 18 (by kernel_rfl) (by decide)
theorem right17(x:Int):p_96 x 17=true/\v_96 x 17=(Sp.rotr x 17,()):=rot_aux x 17 17 (by kernel_rfl) (by decide)
theorem right19(x:Int):p_96 x 19=true/\v_96 x 19=(Sp.rotr x 19,()):=rot_aux x 19 19 (by kernel_rfl) (by decide)
theorem right6(x:Int):p_96 x 6=true/\v_96 x 6=(Sp.rotr x 6,()):=rot_aux x 6 6 (by kernel_rfl) (by decide)
theorem right11(x:Int):p_96 x 11=true/\v_96 x 11=(Sp.rotr x 11,()):=rot_aux x 11 11 (by kernel_rfl) (by decide)
theorem right25(x:Int):p_96 x 25=true/\v_96 x 25=(Sp.rotr x 25,()):=rot_aux x 25 25 (by kernel_rfl) (by decide)
theorem right2(x:Int):p_96 x 2=true/\v_96 x 2=(Sp.rotr x 2,()):=rot_aux x 2 2 (by kernel_rfl) (by decide)
theorem right13(x:Int):p_96 x 13=true/\v_96 x 13=(Sp.rotr x 13,()):=rot_aux x 13 13 (by kernel_rfl) (by decide)
theorem right22(x:Int):p_96 x 22=true/\v_96 x 22=(Sp.rotr x 22,()):=rot_aux x 22 22 (by kernel_rfl) (by decide)
theorem turn7(x:Int):p_105 x 7=true/\v_105 x 7=(Sp.rotr x 7,()):=turn_pv x 7 (by decide)
theorem turn18(x:Int):p_105 x 18=true/\v_105 x 18=(Sp.rotr x 18,()):=turn_pv x 18 (by decide)
theorem turn17(x:Int):p_105 x 17=true/\v_105 x 17=(Sp.rotr x 17,()):=turn_pv x 17 (by decide)
theorem turn19(x:Int):p_105 x 19=true/\v_105 x 19=(Sp.rotr x 19,()):=turn_pv x 19 (by decide)
theorem turn6(x:Int):p_105 x 6=true/\v_105 x 6=(Sp.rotr x 6,()):=turn_pv x 6 (by decide)
theorem turn11(x:Int):p_105 x 11=true/\v_105 x 11=(Sp.rotr x 11,()):=turn_pv x 11 (by decide)
theorem turn25(x:Int):p_105 x 25=true/\v_105 x 25=(Sp.rotr x 25,()):=turn_pv x 25 (by decide)
theorem turn2(x:Int):p_105 x 2=true/\v_105 x 2=(Sp.rotr x 2,()):=turn_pv x 2 (by decide)
theorem turn13(x:Int):p_105 x 13=true/\v_105 x 13=(Sp.rotr x 13,()):=turn_pv x 13 (by decide)
theorem turn22(x:Int):p_105 x 22=true/\v_105 x 22=(Sp.rotr x 22,()):=turn_pv x 22 (by decide)
set_option maxRecDepth 100000
set_option maxHeartbeats 4000000
namespace Sp
noncomputable def w0(b:List Int):List Int:=foldB (fun j a=>a.set j (wat b (4*j))) 0 16 (replicate 64 0)
noncomputable def stW(j:Nat)(a:List Int):List Int:=a.set j (wrap .u32 (wrap .u32 (wrap .u32 (xorI .u32 (xorI .u32 (rotr (a.getD (j-2) 0) 17) (rotr (a.getD (j-2) 0) 19)) (Int.fdiv (a.getD (j-2) 0) 1024)+a.getD (j-7) 0)+xorI .u32 (xorI .u32 (rotr (a.getD (j-15) 0) 7) (rotr (a.getD (j-15) 0) 18)) (Int.fdiv (a.getD (j-15) 0) 8))+a.getD (j-16) 0))
noncomputable def w1(b:List Int):List Int:=foldB stW 16 48 (w0 b)
noncomputable def t1(k w:List Int)(j:Nat)(s:List Int):Int:=wrap .u32 (wrap .u32 (wrap .u32 (wrap .u32 (s.getD 7 0+xorI .u32 (xorI .u32 (rotr (s.getD 4 0) 6) (rotr (s.getD 4 0) 11)) (rotr (s.getD 4 0) 25))+xorI .u32 (andI .u32 (s.getD 4 0) (s.getD 5 0)) (andI .u32 (xorI .u32 4294967295 (s.getD 4 0)) (s.getD 6 0)))+k.getD j 0)+w.getD j 0)
noncomputable def t2(s:List Int):Int:=wrap .u32 (xorI .u32 (xorI .u32 (rotr (s.getD 0 0) 2) (rotr (s.getD 0 0) 13)) (rotr (s.getD 0 0) 22)+xorI .u32 (xorI .u32 (andI .u32 (s.getD 0 0) (s.getD 1 0)) (andI .u32 (s.getD 0 0) (s.getD 2 0))) (andI .u32 (s.getD 1 0) (s.getD 2 0)))
noncomputable def stR(k w:List Int)(j:Nat)(s:List Int):List Int:=[wrap .u32 (t1 k w j s+t2 s),s.getD 0 0,s.getD 1 0,s.getD 2 0,wrap .u32 (s.getD 3 0+t1 k w j s),s.getD 4 0,s.getD 5 0,s.getD 6 0]
noncomputable def rnds(k w s:List Int):List Int:=foldB (stR k w) 0 64 s
noncomputable def addS(s v:List Int):List Int:=foldB (fun j s=>s.set j (wrap .u32 (s.getD j 0+v.getD j 0))) 0 8 s
noncomputable def blk(k s b:List Int):List Int:=addS s (rnds k (w1 b) s)
end Sp
theorem foldB_len{f:Nat->List Int->List Int}(h:∀j a,(f j a).length=a.length):∀d j a,(foldB f j d a).length=a.length
 |0,_,_=>rfl
 |d+1,j,a=>by rw[foldB,foldB_len h d,h]
theorem w0_len(b:List Int):(Sp.w0 b).length=64:=by unfold Sp.w0;rw[foldB_len (fun j a=>by simp)];simp
theorem i_w0(m:Nat)(hm:16<m)(b p2 p3 p4:List Int)(hb:b.length=64):L_35_67_0_0 m b 0 p2 p3 p4 (replicate 64 0)=some (.e0 p2 p3 p4 (Sp.w0 b)):=by
 refine(cnt0 (fun m j a=>L_35_67_0_0 m b j p2 p3 p4 a) (n:=16) (inv:=fun _ a=>a.length=64) (step:=fun j a=>a.set j (Sp.wat b (4*j))) (ex:=fun a=>some (.e0 p2 p3 p4 a)) (m:=m) (by simp) hm ?_ ?_ ?_)
 ·intro m j a hj ha
  show L_35_67_0_0 (m+1) b j p2 p3 p4 a=_
  rw[L_35_67_0_0,S_35_67_0_0]
  have h1:(4*(j:Int)).toNat=4*j:=by omega
  simp (disch:=first|omega|(simp only[List.length_drop,List.length_take,List.length_set,List.length_append,List.length_replicate,List.length_cons,List.length_nil];omega)) only[gd_and,gd_tt,gd_dec,gd_beq,gd_inB,gd_sl3,gd_room,cond_dtt,cond_dff,cond_ett,cond_eff,cond_ntt,cond_nff,cond_t,cond_f,wi64,Int.toNat_natCast,h1,p_word,v_word,wat_drop,Nat.add_zero]
  rfl
 ·intro j a hj ha;simpa using ha
 ·intro m a ha
  show L_35_67_0_0 (m+1) b 16 p2 p3 p4 a=_
  rw[L_35_67_0_0,S_35_67_0_0,cond_dff (by decide)]
theorem i_w1(m:Nat)(hm:48<m)(b p1 p2 p3:List Int):L_35_67_1_0 m 16 p1 p2 p3 (Sp.w0 b)=some (.e0 p1 p2 p3 (Sp.w1 b)):=by
 refine(cnt_loop (fun m j a=>L_35_67_1_0 m j p1 p2 p3 a) (n:=64) (inv:=fun j a=>a.length=64/\16<=j) (step:=Sp.stW) (ex:=fun a=>some (.e0 p1 p2 p3 a)) ?_ ?_ ?_ 48 m 16 (Sp.w0 b) (by omega) ⟨w0_len b,by omega⟩ hm)
 ·intro m j a hj ⟨ha,hj16⟩
  show L_35_67_1_0 (m+1) j p1 p2 p3 a=_
  rw[L_35_67_1_0,S_35_67_1_0]
  have h1:((j:Int)-15).toNat=j-15:=by omega
  have h2:((j:Int)-2).toNat=j-2:=by omega
  have h3:((j:Int)-7).toNat=j-7:=by omega
  have h4:((j:Int)-16).toNat=j-16:=by omega
  simp (disch:=first|omega|(simp only[List.length_drop,List.length_take,List.length_set,List.length_append,List.length_replicate,List.length_cons,List.length_nil];omega)) only[gd_and,gd_tt,gd_dec,gd_beq,gd_inB,gd_sl3,gd_room,cond_dtt,cond_dff,cond_ett,cond_eff,cond_ntt,cond_nff,cond_t,cond_f,wi64,Int.toNat_natCast,h1,h2,h3,h4,right7,right18,right17,right19]
  rfl
 ·intro j a hj ⟨ha,hj16⟩;exact⟨by simpa[Sp.stW]using ha,by omega⟩
 ·intro m a ⟨ha,_⟩
  show L_35_67_1_0 (m+1) 64 p1 p2 p3 a=_
  rw[L_35_67_1_0,S_35_67_1_0,cond_dff (by decide)]
theorem i_rn(m:Nat)(hm:64<m)(p1 p2 k w s:List Int):L_35_67_2_0 m 0 p1 p2 k w s=some (.e0 p1 p2 k (Sp.rnds k w s)):=by
 refine(cnt0 (fun m j a=>L_35_67_2_0 m j p1 p2 k w a) (n:=64) (inv:=fun _ _=>True) (step:=Sp.stR k w) (ex:=fun a=>some (.e0 p1 p2 k a)) (m:=m) trivial hm ?_ ?_ ?_)
 ·intro m j a hj _
  show L_35_67_2_0 (m+1) j p1 p2 k w a=_
  rw[L_35_67_2_0,S_35_67_2_0]
  simp (disch:=first|omega|(simp only[List.length_drop,List.length_take,List.length_set,List.length_append,List.length_replicate,List.length_cons,List.length_nil];omega)) only[gd_and,gd_tt,gd_dec,gd_beq,gd_inB,gd_sl3,gd_room,cond_dtt,cond_dff,cond_ett,cond_eff,cond_ntt,cond_nff,cond_t,cond_f,wi64,Int.toNat_natCast,right6,right11,right25,right2,right13,right22]
  rfl
 ·intro j a hj _;trivial
 ·intro m a _
  show L_35_67_2_0 (m+1) 64 p1 p2 k w a=_
  rw[L_35_67_2_0,S_35_67_2_0,cond_dff (by decide)]
theorem i_ad(m:Nat)(hm:8<m)(p1 s k v:List Int):L_35_67_3_0 m 0 p1 s k v=some (.e0 p1 (Sp.addS s v) k):=by
 refine(cnt0 (fun m j a=>L_35_67_3_0 m j p1 a k v) (n:=8) (inv:=fun _ _=>True) (step:=fun j s=>s.set j (wrap .u32 (s.getD j 0+v.getD j 0))) (ex:=fun a=>some (.e0 p1 a k)) (m:=m) trivial hm ?_ ?_ ?_)
 ·intro m j a hj _
  show L_35_67_3_0 (m+1) j p1 a k v=_
  rw[L_35_67_3_0,S_35_67_3_0]
  simp (disch:=first|omega|(simp only[List.length_drop,List.length_take,List.length_set,List.length_append,List.length_replicate,List.length_cons,List.length_nil];omega)) only[gd_and,gd_tt,gd_dec,gd_beq,gd_inB,gd_sl3,gd_room,cond_dtt,cond_dff,cond_ett,cond_eff,cond_ntt,cond_nff,cond_t,cond_f,wi64,Int.toNat_natCast]
  rfl
 ·intro j a hj _;trivial
 ·intro m a _
  show L_35_67_3_0 (m+1) 8 p1 a k v=_
  rw[L_35_67_3_0,S_35_67_3_0,cond_dff (by decide)]
set_option maxRecDepth 100000
set_option maxHeartbeats 4000000
theorem j_w0(m:Nat)(hm:16<m)(o z:Nat)(p4 p5 p6 l:List Int)(ho:o+64<=128)(hl:l.length=128):L_35_67_0_1 m o 64 z 0 p4 p5 p6 l (replicate 64 0)=some (.e0 p4 p5 p6 l (Sp.w0 ((l.drop o).take 64))):=by
 refine(cnt0 (fun m j a=>L_35_67_0_1 m o 64 z j p4 p5 p6 l a) (n:=16) (inv:=fun _ a=>a.length=64) (step:=fun j a=>a.set j (Sp.wat ((l.drop o).take 64) (4*j))) (ex:=fun a=>some (.e0 p4 p5 p6 l a)) (m:=m) (by simp) hm ?_ ?_ ?_)
 ·intro m j a hj ha
  show L_35_67_0_1 (m+1) o 64 z j p4 p5 p6 l a=_
  rw[L_35_67_0_1,S_35_67_0_1]
  have h1:(4*(j:Int)).toNat=4*j:=by omega
  have h2:((64:Nat):Int).toNat=64:=rfl
  simp (disch:=first|omega|(simp only[List.length_drop,List.length_take,List.length_set,List.length_append,List.length_replicate,List.length_cons,List.length_nil];omega)) only[gd_and,gd_tt,gd_dec,gd_beq,gd_inB,gd_sl3,gd_room,cond_dtt,cond_dff,cond_ett,cond_eff,cond_ntt,cond_nff,cond_t,cond_f,wi64,Int.toNat_natCast,h1,h2,p_word,v_word,wat_take,wat_drop,Nat.add_zero]
  rfl
 ·intro j a hj ha;simpa using ha
 ·intro m a ha
  show L_35_67_0_1 (m+1) o 64 z 16 p4 p5 p6 l a=_
  rw[L_35_67_0_1,S_35_67_0_1,cond_dff (by decide)]
theorem j_w1(m:Nat)(hm:48<m)(b p1 p2 p3 l:List Int):L_35_67_1_1 m 16 p1 p2 p3 l (Sp.w0 b)=some (.e0 p1 p2 p3 l (Sp.w1 b)):=by
 refine(cnt_loop (fun m j a=>L_35_67_1_1 m j p1 p2 p3 l a) (n:=64) (inv:=fun j a=>a.length=64/\16<=j) (step:=Sp.stW) (ex:=fun a=>some (.e0 p1 p2 p3 l a)) ?_ ?_ ?_ 48 m 16 (Sp.w0 b) (by omega) ⟨w0_len b,by omega⟩ hm)
 ·intro m j a hj ⟨ha,hj16⟩
  show L_35_67_1_1 (m+1) j p1 p2 p3 l a=_
  rw[L_35_67_1_1,S_35_67_1_1]
  have h1:((j:Int)-15).toNat=j-15:=by omega
  have h2:((j:Int)-2).toNat=j-2:=by omega
  have h3:((j:Int)-7).toNat=j-7:=by omega
  have h4:((j:Int)-16).toNat=j-16:=by omega
  simp (disch:=first|omega|(simp only[List.length_drop,List.length_take,List.length_set,List.length_append,List.length_replicate,List.length_cons,List.length_nil];omega)) only[gd_and,gd_tt,gd_dec,gd_beq,gd_inB,gd_sl3,gd_room,cond_dtt,cond_dff,cond_ett,cond_eff,cond_ntt,cond_nff,cond_t,cond_f,wi64,Int.toNat_natCast,h1,h2,h3,h4,right7,right18,right17,right19]
  rfl
 ·intro j a hj ⟨ha,hj16⟩;exact⟨by simpa[Sp.stW]using ha,by omega⟩
 ·intro m a ⟨ha,_⟩
  show L_35_67_1_1 (m+1) 64 p1 p2 p3 l a=_
  rw[L_35_67_1_1,S_35_67_1_1,cond_dff (by decide)]
theorem j_rn(m:Nat)(hm:64<m)(p1 p2 k l w s:List Int):L_35_67_2_1 m 0 p1 p2 k l w s=some (.e0 p1 p2 k l (Sp.rnds k w s)):=by
 refine(cnt0 (fun m j a=>L_35_67_2_1 m j p1 p2 k l w a) (n:=64) (inv:=fun _ _=>True) (step:=Sp.stR k w) (ex:=fun a=>some (.e0 p1 p2 k l a)) (m:=m) trivial hm ?_ ?_ ?_)
 ·intro m j a hj _
  show L_35_67_2_1 (m+1) j p1 p2 k l w a=_
  rw[L_35_67_2_1,S_35_67_2_1]
  simp (disch:=first|omega|(simp only[List.length_drop,List.length_take,List.length_set,List.length_append,List.length_replicate,List.length_cons,List.length_nil];omega)) only[gd_and,gd_tt,gd_dec,gd_beq,gd_inB,gd_sl3,gd_room,cond_dtt,cond_dff,cond_ett,cond_eff,cond_ntt,cond_nff,cond_t,cond_f,wi64,Int.toNat_natCast,right6,right11,right25,right2,right13,right22]
  rfl
 ·intro j a hj _;trivial
 ·intro m a _
  show L_35_67_2_1 (m+1) 64 p1 p2 k l w a=_
  rw[L_35_67_2_1,S_35_67_2_1,cond_dff (by decide)]
theorem j_ad(m:Nat)(hm:8<m)(p1 s k l v:List Int):L_35_67_3_1 m 0 p1 s k l v=some (.e0 p1 (Sp.addS s v) k l):=by
 refine(cnt0 (fun m j a=>L_35_67_3_1 m j p1 a k l v) (n:=8) (inv:=fun _ _=>True) (step:=fun j s=>s.set j (wrap .u32 (s.getD j 0+v.getD j 0))) (ex:=fun a=>some (.e0 p1 a k l)) (m:=m) trivial hm ?_ ?_ ?_)
 ·intro m j a hj _
  show L_35_67_3_1 (m+1) j p1 a k l v=_
  rw[L_35_67_3_1,S_35_67_3_1]
  simp (disch:=first|omega|(simp only[List.length_drop,List.length_take,List.length_set,List.length_append,List.length_replicate,List.length_cons,List.length_nil];omega)) only[gd_and,gd_tt,gd_dec,gd_beq,gd_inB,gd_sl3,gd_room,cond_dtt,cond_dff,cond_ett,cond_eff,cond_ntt,cond_nff,cond_t,cond_f,wi64,Int.toNat_natCast]
  rfl
 ·intro j a hj _;trivial
 ·intro m a _
  show L_35_67_3_1 (m+1) 8 p1 a k l v=_
  rw[L_35_67_3_1,S_35_67_3_1,cond_dff (by decide)]
theorem r_w0(m:Nat)(hm:16<m)(b p2 p3:List Int)(hb:b.length=64):L_101_0 m b 0 p2 p3 (replicate 64 0)=some (.e0 p2 p3 (Sp.w0 b)):=by
 refine(cnt0 (fun m j a=>L_101_0 m b j p2 p3 a) (n:=16) (inv:=fun _ a=>a.length=64) (step:=fun j a=>a.set j (Sp.wat b (4*j))) (ex:=fun a=>some (.e0 p2 p3 a)) (m:=m) (by simp) hm ?_ ?_ ?_)
 ·intro m j a hj ha
  show L_101_0 (m+1) b j p2 p3 a=_
  rw[L_101_0,S_101_0]
  have h1:(4*(j:Int)).toNat=4*j:=by omega
  have h2:(4*(j:Int)+1).toNat=4*j+1:=by omega
  have h3:(4*(j:Int)+2).toNat=4*j+2:=by omega
  have h4:(4*(j:Int)+3).toNat=4*j+3:=by omega
  simp (disch:=first|omega|(simp only[List.length_drop,List.length_take,List.length_set,List.length_append,List.length_replicate,List.length_cons,List.length_nil];omega)) only[gd_and,gd_tt,gd_dec,gd_beq,gd_inB,gd_sl3,gd_room,cond_dtt,cond_dff,cond_ett,cond_eff,cond_ntt,cond_nff,cond_t,cond_f,wi64,Int.toNat_natCast,h1,h2,h3,h4]
  rfl
 ·intro j a hj ha;simpa using ha
 ·intro m a ha
  show L_101_0 (m+1) b 16 p2 p3 a=_
  rw[L_101_0,S_101_0,cond_dff (by decide)]
theorem r_w1(m:Nat)(hm:48<m)(b p1 p2:List Int):L_101_1 m 16 p1 p2 (Sp.w0 b)=some (.e0 p1 p2 (Sp.w1 b)):=by
 refine(cnt_loop (fun m j a=>L_101_1 m j p1 p2 a) (n:=64) (inv:=fun j a=>a.length=64/\16<=j) (step:=Sp.stW) (ex:=fun a=>some (.e0 p1 p2 a)) ?_ ?_ ?_ 48 m 16 (Sp.w0 b) (by omega) ⟨w0_len b,by omega⟩ hm)
 ·intro m j a hj ⟨ha,hj16⟩
  show L_101_1 (m+1) j p1 p2 a=_
  rw[L_101_1,S_101_1]
  have h1:((j:Int)-15).toNat=j-15:=by omega
  have h2:((j:Int)-2).toNat=j-2:=by omega
  have h3:((j:Int)-7).toNat=j-7:=by omega
  have h4:((j:Int)-16).toNat=j-16:=by omega
  simp (disch:=first|omega|(simp only[List.length_drop,List.length_take,List.length_set,List.length_append,List.length_replicate,List.length_cons,List.length_nil];omega)) only[gd_and,gd_tt,gd_dec,gd_beq,gd_inB,gd_sl3,gd_room,cond_dtt,cond_dff,cond_ett,cond_eff,cond_ntt,cond_nff,cond_t,cond_f,wi64,Int.toNat_natCast,h1,h2,h3,h4,turn7,turn18,turn17,turn19]
  rfl
 ·intro j a hj ⟨ha,hj16⟩;exact⟨by simpa[Sp.stW]using ha,by omega⟩
 ·intro m a ⟨ha,_⟩
  show L_101_1 (m+1) 64 p1 p2 a=_
  rw[L_101_1,S_101_1,cond_dff (by decide)]
theorem r_rn(m:Nat)(hm:64<m)(p1 p2 w k s:List Int):L_101_2 m 0 p1 p2 w k s=some (.e0 p1 p2 (Sp.rnds k w s)):=by
 refine(cnt0 (fun m j a=>L_101_2 m j p1 p2 w k a) (n:=64) (inv:=fun _ _=>True) (step:=Sp.stR k w) (ex:=fun a=>some (.e0 p1 p2 a)) (m:=m) trivial hm ?_ ?_ ?_)
 ·intro m j a hj _
  show L_101_2 (m+1) j p1 p2 w k a=_
  rw[L_101_2,S_101_2]
  simp (disch:=first|omega|(simp only[List.length_drop,List.length_take,List.length_set,List.length_append,List.length_replicate,List.length_cons,List.length_nil];omega)) only[gd_and,gd_tt,gd_dec,gd_beq,gd_inB,gd_sl3,gd_room,cond_dtt,cond_dff,cond_ett,cond_eff,cond_ntt,cond_nff,cond_t,cond_f,wi64,Int.toNat_natCast,turn6,turn11,turn25,turn2,turn13,turn22]
  rfl
 ·intro j a hj _;trivial
 ·intro m a _
  show L_101_2 (m+1) 64 p1 p2 w k a=_
  rw[L_101_2,S_101_2,cond_dff (by decide)]
theorem r_ad(m:Nat)(hm:8<m)(s p2 v:List Int):L_101_3 m 0 s p2 v=some (.e0 (Sp.addS s v) p2):=by
 refine(cnt0 (fun m j a=>L_101_3 m j a p2 v) (n:=8) (inv:=fun _ _=>True) (step:=fun j s=>s.set j (wrap .u32 (s.getD j 0+v.getD j 0))) (ex:=fun a=>some (.e0 a p2)) (m:=m) trivial hm ?_ ?_ ?_)
 ·intro m j a hj _
  show L_101_3 (m+1) j a p2 v=_
  rw[L_101_3,S_101_3]
  simp (disch:=first|omega|(simp only[List.length_drop,List.length_take,List.length_set,List.length_append,List.length_replicate,List.length_cons,List.length_nil];omega)) only[gd_and,gd_tt,gd_dec,gd_beq,gd_inB,gd_sl3,gd_room,cond_dtt,cond_dff,cond_ett,cond_eff,cond_ntt,cond_nff,cond_t,cond_f,wi64,Int.toNat_natCast]
  rfl
 ·intro j a hj _;trivial
 ·intro m a _
  show L_101_3 (m+1) 8 a p2 v=_
  rw[L_101_3,S_101_3,cond_dff (by decide)]
noncomputable def Sp.K64:List Int:=(v_66).1
theorem pq_32:p_66=true:=by kernel_rfl
theorem pq_51:p_106=true:=by kernel_rfl
theorem vq_51:(v_106).1=Sp.K64:=by kernel_rfl
theorem r_block(s b:List Int)(hb:b.length=64):F_101 s b=some (Sp.blk Sp.K64 s b,()):=by
 unfold F_101
 rw[r_w0 _ (by omega) b s _ hb]
 simp only[B_101_0]
 rw[r_w1 _ (by omega)]
 simp only[B_101_1]
 rw[pq_51,gd_tt,vq_51,r_rn _ (by omega)]
 simp only[B_101_2]
 rw[r_ad _ (by omega)]
 rfl
namespace Sp
noncomputable def shaS:Nat->List Int->List Int->List Int
 |0,_,s=>s
 |n+1,l,s=>shaS n (l.drop 64) (blk K64 s (l.take 64))
end Sp
theorem shaS_app:∀(n m:Nat)(l s:List Int),Sp.shaS (n+m) l s=Sp.shaS m (l.drop (64*n)) (Sp.shaS n l s)
 |0,m,l,s=>by simp[Sp.shaS]
 |n+1,m,l,s=>by
  rw[show n+1+m=(n+m)+1 by omega,Sp.shaS,Sp.shaS,shaS_app n m,List.drop_drop]
  rw[show 64+64*n=64*(n+1) by omega]
theorem shaS_congr:∀(n:Nat)(l l' s:List Int),l.take (64*n)=l'.take (64*n)->Sp.shaS n l s=Sp.shaS n l' s
 |0,_,_,_,_=>rfl
 |n+1,l,l',s,h=>by
  have h1:l.take 64=l'.take 64:=by
   have:=congrArg (take 64) h
   simpa[List.take_take,show min 64 (64*(n+1))=64 by omega]using this
  have h2:(l.drop 64).take (64*n)=(l'.drop 64).take (64*n):=by
   have:=congrArg (drop 64) h
   simpa[List.drop_take,show 64*(n+1)-64=64*n by omega]using this
  rw[Sp.shaS,Sp.shaS,h1,shaS_congr n _ _ _ h2]
theorem i_main:∀(q m:Nat)(b l o s:List Int),64*q<=l.length->l.length<64*q+64->q<m->l.length<4611686018427387904->L_35_0 m b l o s Sp.K64=some (.e0 b (l.drop (64*q)) o (Sp.shaS q l s) Sp.K64)
 |0,m+1,b,l,o,s,h1,h2,_,h4=>by
  rw[L_35_0,S_35_0,cond_dff (by omega)]
  simp[Sp.shaS]
 |q+1,m+1,b,l,o,s,h1,h2,h3,h4=>by
  rw[L_35_0,S_35_0,cond_dtt (by omega),gd_sl3 (by omega) (by omega) (by omega),List.drop_zero,i_w0 _ (by omega) _ _ _ _ (by simp;omega)]
  simp only[B_35_67_0_0]
  rw[i_w1 _ (by omega)]
  simp only[B_35_67_1_0]
  rw[i_rn _ (by omega)]
  simp only[B_35_67_2_0]
  rw[i_ad _ (by omega)]
  simp only[B_35_67_3_0]
  rw[gd_sl3 (by omega) (by omega) (by omega),i_main q m b (l.drop 64) o _ (by simp;omega) (by simp;omega) (by omega) (by simp;omega),List.drop_drop,Sp.shaS]
  rw[show 64+64*q=64*(q+1) by omega]
  rfl
theorem r_main:∀(q m j:Nat)(l o s:List Int),l.length=64*(j+q)->q<m->l.length<4611686018427387904->L_83_0 m l ((64*j:Nat):Int) o s=some (.e0 o (Sp.shaS q (l.drop (64*j)) s))
 |0,m+1,j,l,o,s,h1,_,h4=>by
  rw[L_83_0,S_83_0,cond_dff (by omega)]
  rfl
 |q+1,m+1,j,l,o,s,h1,h3,h4=>by
  have e1:(((64*j:Nat):Int)+64)=((64*(j+1):Nat):Int):=by omega
  have e2:64*(j+1)-64*j=64:=by omega
  rw[L_83_0,S_83_0,cond_dtt (by omega),wi64 (by omega) (by omega),gd_sl3 (by omega) (by omega) (by omega),e1,Int.toNat_natCast,Int.toNat_natCast,e2]
  have hb:=pv_101 _ _ (r_block s ((l.drop (64*j)).take 64) (by simp;omega))
  rw[hb.1,hb.2,gd_tt,r_main q m (j+1) l o _ (by omega) (by omega) h4,Sp.shaS,List.drop_drop]
  rfl
set_option maxRecDepth 100000
set_option maxHeartbeats 4000000
theorem j_main:∀(q m j:Nat)(o s l:List Int),j+q<=2->l.length=128->q<m->L_35_2 m ((64*(j+q):Nat):Int) ((64*j:Nat):Int) o s Sp.K64 l=some (.e0 o (Sp.shaS q (l.drop (64*j)) s))
 |0,m+1,j,o,s,l,h1,h2,_=>by
  rw[L_35_2,S_35_2,cond_dff (by omega)]
  rfl
 |q+1,m+1,j,o,s,l,h1,h2,h3=>by
  have e1:(((64*j:Nat):Int)+64)=((64*(j+1):Nat):Int):=by omega
  have e2:64*(j+1)-64*j=64:=by omega
  rw[L_35_2,S_35_2,cond_dtt (by omega),wi64 (by omega) (by omega),gd_sl3 (by omega) (by omega) (by omega),e1,Int.toNat_natCast,Int.toNat_natCast,e2,j_w0 _ (by omega) _ _ _ _ _ _ (by omega) h2]
  simp only[B_35_67_0_1]
  rw[j_w1 _ (by omega)]
  simp only[B_35_67_1_1]
  rw[j_rn _ (by omega)]
  simp only[B_35_67_2_1]
  rw[j_ad _ (by omega)]
  simp only[B_35_67_3_1]
  have:=j_main q m (j+1) o (Sp.addS s (Sp.rnds Sp.K64 (Sp.w1 ((l.drop (64*j)).take 64)) s)) l (by omega) h2 (by omega)
  rw[show j+1+q=j+(q+1) by omega]at this
  rw[this,Sp.shaS,List.drop_drop]
  rfl
theorem pad0:∀(c m:Nat)(b p:List Int),(p.length+c)%64=56->c<64->c<m->p.length+c<140737488300000->L_100_0 m b p=some (.e0 b (p++replicate c 0))
 |0,m+1,b,p,h1,_,_,_=>by
  have e:Int.tmod (p.length:Int) 64=((p.length%64:Nat):Int):=(Int.ofNat_tmod p.length 64).symm
  rw[L_100_0,S_100_0,e,cond_nff (by omega)]
  simp
 |c+1,m+1,b,p,h1,h2,h3,h4=>by
  have e:Int.tmod (p.length:Int) 64=((p.length%64:Nat):Int):=(Int.ofNat_tmod p.length 64).symm
  rw[L_100_0,S_100_0,e,cond_ntt (by omega),gd_room (by omega) (by omega),pad0 c m b (p++[0]) (by simp;omega) (by omega) (by omega) (by simp;omega),List.append_assoc]
  rfl
namespace Sp
noncomputable def szB(n:Int):List Int:=[wrap .u8 (Int.fdiv n (2^56)),wrap .u8 (Int.fdiv n (2^48)),wrap .u8 (Int.fdiv n (2^40)),wrap .u8 (Int.fdiv n (2^32)),wrap .u8 (Int.fdiv n (2^24)),wrap .u8 (Int.fdiv n (2^16)),wrap .u8 (Int.fdiv n (2^8)),wrap .u8 (Int.fdiv n (2^0))]
noncomputable def padB(b:List Int)(c:Nat):List Int:=b++[128]++replicate c 0++szB (b.length*8)
end Sp
theorem pad_step(m:Nat)(n:Int)(i:Nat)(hi:i<=56)(p:List Int)(hp:p.length<140737488300000):L_100_1 (m+1) n (i:Nat) p=L_100_1 m n ((i:Int)-8) (p++[wrap .u8 (Int.fdiv n (2^i))]):=by
 rw[L_100_1,S_100_1,cond_dtt (by omega),wu64 (by omega) (by omega),gd_dec (by omega),gd_room (by omega) (by omega),wi64 (by omega) (by omega),Int.toNat_natCast,nmin_l (by omega)]
theorem pad1(m:Nat)(hm:9<m)(n:Int)(p:List Int)(hp:p.length<140737488200000):L_100_1 m n 56 p=some (.e0 (p++Sp.szB n)):=by
 obtain⟨m,rfl⟩:∃k,m=k+9:=⟨m-9,by omega⟩
 have h:=pad_step (m+8) n 56 (by omega) p (by omega)
 have h2:=pad_step (m+7) n 48 (by omega) (p++[wrap .u8 (Int.fdiv n (2^56))]) (by simp;omega)
 have h3:=pad_step (m+6) n 40 (by omega) (p++[wrap .u8 (Int.fdiv n (2^56))]++[wrap .u8 (Int.fdiv n (2^48))]) (by simp;omega)
 have h4:=pad_step (m+5) n 32 (by omega) (p++[wrap .u8 (Int.fdiv n (2^56))]++[wrap .u8 (Int.fdiv n (2^48))]++[wrap .u8 (Int.fdiv n (2^40))]) (by simp;omega)
 have h5:=pad_step (m+4) n 24 (by omega) (p++[wrap .u8 (Int.fdiv n (2^56))]++[wrap .u8 (Int.fdiv n (2^48))]++[wrap .u8 (Int.fdiv n (2^40))]++[wrap .u8 (Int.fdiv n (2^32))]) (by simp;omega)
 have h6:=pad_step (m+3) n 16 (by omega) (p++[wrap .u8 (Int.fdiv n (2^56))]++[wrap .u8 (Int.fdiv n (2^48))]++[wrap .u8 (Int.fdiv n (2^40))]++[wrap .u8 (Int.fdiv n (2^32))]++[wrap .u8 (Int.fdiv n (2^24))]) (by simp;omega)
 have h7:=pad_step (m+2) n 8 (by omega) (p++[wrap .u8 (Int.fdiv n (2^56))]++[wrap .u8 (Int.fdiv n (2^48))]++[wrap .u8 (Int.fdiv n (2^40))]++[wrap .u8 (Int.fdiv n (2^32))]++[wrap .u8 (Int.fdiv n (2^24))]++[wrap .u8 (Int.fdiv n (2^16))]) (by simp;omega)
 have h8:=pad_step (m+1) n 0 (by omega) (p++[wrap .u8 (Int.fdiv n (2^56))]++[wrap .u8 (Int.fdiv n (2^48))]++[wrap .u8 (Int.fdiv n (2^40))]++[wrap .u8 (Int.fdiv n (2^32))]++[wrap .u8 (Int.fdiv n (2^24))]++[wrap .u8 (Int.fdiv n (2^16))]++[wrap .u8 (Int.fdiv n (2^8))]) (by simp;omega)
 refine h.trans (h2.trans (h3.trans (h4.trans (h5.trans (h6.trans (h7.trans (h8.trans ?_)))))))
 show L_100_1 (m+1) n (-8) _=_
 rw[L_100_1,S_100_1,cond_dff (by decide)]
 simp[Sp.szB]
theorem pad_ok(b:List Int)(c:Nat)(h1:(b.length+1+c)%64=56)(h2:c<64)(h3:b.length<100000000000):F_100 b=some (Sp.padB b c,()):=by
 unfold F_100
 rw[gd_room (by omega) (by omega),List.nil_append,gd_room (by omega) (by omega),pad0 c _ b (b++[128]) (by simp;omega) h2 (by omega) (by simp;omega)]
 simp only[B_100_0]
 rw[wu64 (n:=(b.length:Int)) (by omega) (by omega),wu64 (n:=(b.length:Int)*8) (by omega) (by omega),pad1 _ (by omega) _ _ (by simp;omega)]
 rfl
set_option maxRecDepth 100000
set_option maxHeartbeats 4000000
namespace Sp
noncomputable def H0:List Int:=[1779033703,3144134277,1013904242,2773480762,1359893119,2600822924,528734635,1541459225]
noncomputable def outB(s:List Int):List Int:=foldB (fun i o=>(((o.set (4*i) (wrap .u8 (Int.fdiv (s.getD i 0) 16777216))).set (4*i+1) (wrap .u8 (Int.fdiv (s.getD i 0) 65536))).set (4*i+2) (wrap .u8 (Int.fdiv (s.getD i 0) 256))).set (4*i+3) (wrap .u8 (s.getD i 0))) 0 8 (replicate 32 0)
noncomputable def sha(b:List Int):List Int:=outB (shaS ((b.length+72)/64) (padB b ((119-b.length%64)%64)) H0)
end Sp
theorem i_out(m:Nat)(hm:8<m)(s p2:List Int):L_35_3 m s 0 p2 (replicate 32 0)=some (.e0 p2 (Sp.outB s)):=by
 refine(cnt0 (fun m j a=>L_35_3 m s j p2 a) (n:=8) (inv:=fun _ a=>True) (step:=fun i o=>(((o.set (4*i) (wrap .u8 (Int.fdiv (s.getD i 0) 16777216))).set (4*i+1) (wrap .u8 (Int.fdiv (s.getD i 0) 65536))).set (4*i+2) (wrap .u8 (Int.fdiv (s.getD i 0) 256))).set (4*i+3) (wrap .u8 (s.getD i 0))) (ex:=fun a=>some (.e0 p2 a)) (m:=m) trivial hm ?_ ?_ ?_)
 ·intro m j a hj _
  show L_35_3 (m+1) s j p2 a=_
  rw[L_35_3,S_35_3]
  have h1:(4*(j:Int)).toNat=4*j:=by omega
  simp (disch:=first|omega|(simp only[List.length_drop,List.length_take,List.length_set,List.length_append,List.length_replicate,List.length_cons,List.length_nil];omega)) only[gd_and,gd_tt,gd_dec,gd_beq,gd_inB,gd_sl3,gd_room,cond_dtt,cond_dff,cond_ett,cond_eff,cond_ntt,cond_nff,cond_t,cond_f,wi64,Int.toNat_natCast,h1,Nat.add_zero]
  rfl
 ·intro j a hj _;trivial
 ·intro m a _
  show L_35_3 (m+1) s 8 p2 a=_
  rw[L_35_3,S_35_3,cond_dff (by decide)]
namespace Sp
noncomputable def stO(s:List Int)(j:Nat)(o:List Int):List Int:=o.set j (wrap .u8 (Int.fdiv (s.getD (j/4) 0) (2^(24-j%4*8))))
end Sp
theorem r_out(m:Nat)(hm:32<m)(s p1:List Int):L_83_1 m 0 p1 s (replicate 32 0)=some (.e0 p1 (foldB (Sp.stO s) 0 32 (replicate 32 0))):=by
 refine(cnt0 (fun m j a=>L_83_1 m j p1 s a) (n:=32) (inv:=fun _ a=>True) (step:=Sp.stO s) (ex:=fun a=>some (.e0 p1 a)) (m:=m) trivial hm ?_ ?_ ?_)
 ·intro m j a hj _
  show L_83_1 (m+1) j p1 s a=_
  have e:Int.tmod (j:Int) 4=((j%4:Nat):Int):=(Int.ofNat_tmod j 4).symm
  have e2:Int.tdiv (j:Int) 4=((j/4:Nat):Int):=(Int.ofNat_tdiv j 4).symm
  have e3:((24:Int)-((j%4:Nat):Int)*8)=((24-j%4*8:Nat):Int):=by omega
  rw[L_83_1,S_83_1,e,e2]
  simp (disch:=first|omega|(simp only[List.length_drop,List.length_take,List.length_set,List.length_append,List.length_replicate,List.length_cons,List.length_nil];omega)) only[gd_and,gd_tt,gd_dec,gd_beq,gd_inB,gd_sl3,gd_room,cond_dtt,cond_dff,cond_ett,cond_eff,cond_ntt,cond_nff,cond_t,cond_f,wi64,Int.toNat_natCast]
  rw[e3,wu64 (by omega) (by omega),gd_dec (by omega),Int.toNat_natCast,nmin_l (by omega)]
  rfl
 ·intro j a hj _;trivial
 ·intro m a _
  show L_83_1 (m+1) 32 p1 s a=_
  rw[L_83_1,S_83_1,cond_dff (by decide)]
theorem fdiv1(x:Int):Int.fdiv x (2^0)=x:=by simp
theorem out_eq(s:List Int):foldB (Sp.stO s) 0 32 (replicate 32 0)=Sp.outB s:=by
 simp only[foldB,Sp.outB,Sp.stO,fdiv1,Nat.reduceMul,Nat.reduceAdd,Nat.reduceDiv,Nat.reduceMod,Nat.reduceSub]
 rfl
set_option maxRecDepth 100000
set_option maxHeartbeats 4000000
theorem r_sum(b:List Int)(h3:b.length<100000000000):F_83 b=some (Sp.sha b,()):=by
 have hp:=pv_100 _ (pad_ok b ((119-b.length%64)%64) (by omega) (by omega) h3)
 have hl:(Sp.padB b ((119-b.length%64)%64)).length=64*(0+(b.length+72)/64):=by
  simp[Sp.padB,Sp.szB];omega
 unfold F_83
 rw[hp.1,hp.2,gd_tt]
 have:=r_main ((b.length+72)/64) 4611686018427387904 0 _ (replicate 32 0) Sp.H0 hl (by omega) (by omega)
 rw[show((64*0:Nat):Int)=0 from rfl]at this
 show B_83_0 (L_83_0 _ _ 0 (replicate 32 0) Sp.H0) _=_
 rw[this]
 simp only[B_83_0]
 rw[r_out _ (by omega),out_eq]
 rfl
theorem set8(A C:List Int)(c0 c1 c2 c3 c4 c5 c6 c7 x0 x1 x2 x3 x4 x5 x6 x7:Int)(n:Nat)(hn:A.length=n) :
 ((((((((A++c0::c1::c2::c3::c4::c5::c6::c7::C).set (n+0) x0).set (n+1) x1).set (n+2) x2).set (n+3) x3).set (n+4) x4).set (n+5) x5).set (n+6) x6).set (n+7) x7=A++x0::x1::x2::x3::x4::x5::x6::x7::C:=by
 subst hn
 simp only[List.set_append,Nat.lt_irrefl,Nat.add_sub_cancel_left,if_false,show ∀k,¬(A.length+k<A.length)from fun k=>by omega,List.set_cons_zero,List.set_cons_succ]
theorem size_eq(n:Int)(h0:0<=n)(h1:n<18446744073709551616):[wrap .u8 (Int.fdiv (wrap .u32 (Int.fdiv n 4294967296)) 16777216),wrap .u8 (Int.fdiv (wrap .u32 (Int.fdiv n 4294967296)) 65536),wrap .u8 (Int.fdiv (wrap .u32 (Int.fdiv n 4294967296)) 256),wrap .u8 (wrap .u32 (Int.fdiv n 4294967296)),wrap .u8 (Int.fdiv (wrap .u32 n) 16777216),wrap .u8 (Int.fdiv (wrap .u32 n) 65536),wrap .u8 (Int.fdiv (wrap .u32 n) 256),wrap .u8 (wrap .u32 n)]=Sp.szB n:=by
 unfold Sp.szB
 simp only[u8_mod,u32_mod,Int.fdiv_eq_ediv_of_nonneg _ (show(0:Int)<=4294967296 by decide),Int.fdiv_eq_ediv_of_nonneg _ (show(0:Int)<=16777216 by decide),Int.fdiv_eq_ediv_of_nonneg _ (show(0:Int)<=65536 by decide),Int.fdiv_eq_ediv_of_nonneg _ (show(0:Int)<=256 by decide),
  Int.fdiv_eq_ediv_of_nonneg _ (show(0:Int)<=2^56 by decide),Int.fdiv_eq_ediv_of_nonneg _ (show(0:Int)<=2^48 by decide),Int.fdiv_eq_ediv_of_nonneg _ (show(0:Int)<=2^40 by decide),Int.fdiv_eq_ediv_of_nonneg _ (show(0:Int)<=2^32 by decide),Int.fdiv_eq_ediv_of_nonneg _ (show(0:Int)<=2^24 by decide),Int.fdiv_eq_ediv_of_nonneg _ (show(0:Int)<=2^16 by decide),Int.fdiv_eq_ediv_of_nonneg _ (show(0:Int)<=2^8 by decide),fdiv1]
 simp only[List.cons.injEq,and_true]
 refine⟨?_,?_,?_,?_,?_,?_,?_,?_⟩<;>omega
theorem last_eq(rest:List Int)(e:Nat)(he:e=64\/e=128)(hn:rest.length+9<=e):(over (replicate 128 0) 0 (rest.take 128)).set rest.length 128=(rest++[128]++replicate (e-9-rest.length) 0)++(0:Int)::0::0::0::0::0::0::0::replicate (128-e) 0:=by
 have h1:rest.take 128=rest:=List.take_of_length_le (by omega)
 have h2:over (replicate 128 (0:Int)) 0 rest=rest++0::replicate (127-rest.length) 0:=by
  unfold over
  simp only[List.take_zero,List.nil_append,List.drop_replicate]
  rw[show 128-(0+rest.length)=(127-rest.length)+1 by omega,List.replicate_succ]
 rw[h1,h2,List.set_append,if_neg (by omega),Nat.sub_self,List.set_cons_zero]
 rw[show 127-rest.length=(e-9-rest.length)+(8+(128-e)) by omega,<-List.replicate_append_replicate,<-List.replicate_append_replicate]
 simp[replicate]
theorem J_ok(b o st rest:List Int)(e:Nat)(he:e=64\/e=128)(hn:rest.length+9<=e)(hb:b.length<100000000000) :
 J_35_1 b e (replicate 32 0) st Sp.K64 ((over (replicate 128 0) 0 (rest.take 128)).set rest.length 128)=some (.e0 (Sp.outB (Sp.shaS (e/64) (rest++[128]++replicate (e-9-rest.length) 0++Sp.szB (b.length*8)) st))):=by
 have e8:((e:Int)-8).toNat=e-8:=by omega
 have e4:((e:Int)-4).toNat=e-4:=by omega
 rw[last_eq rest e he hn]
 unfold J_35_1 S_35_1
 simp (disch:=first|omega|(simp only[List.length_drop,List.length_take,List.length_set,List.length_append,List.length_replicate,List.length_cons,List.length_nil];omega)) only[gd_and,gd_tt,gd_dec,gd_beq,gd_inB,gd_sl3,gd_room,cond_dtt,cond_dff,cond_ett,cond_eff,cond_ntt,cond_nff,cond_t,cond_f,wi64,Int.toNat_natCast,e8,e4]
 rw[wu64 (n:=(b.length:Int)) (by omega) (by omega),wu64 (n:=(b.length:Int)*8) (by omega) (by omega)]
 rw[show e-4+0=e-8+4 by omega,show e-4+1=e-8+5 by omega,show e-4+2=e-8+6 by omega,show e-4+3=e-8+7 by omega]
 rw[set8 _ _ _ _ _ _ _ _ _ _ _ _ _ _ _ _ _ _ (e-8) (by simp;omega)]
 have hsz:=size_eq ((b.length:Int)*8) (by omega) (by omega)
 generalize hA:rest++[128]++replicate (e-9-rest.length) (0:Int)=A
 have hAl:A.length=e-8:=by rw[<-hA];simp;omega
 generalize hx:(wrap .u8 (Int.fdiv (wrap .u32 (Int.fdiv ((b.length:Int)*8) 4294967296)) 16777216))=x0 at hsz⊢
 generalize (wrap .u8 (Int.fdiv (wrap .u32 (Int.fdiv ((b.length:Int)*8) 4294967296)) 65536))=x1 at hsz⊢
 generalize (wrap .u8 (Int.fdiv (wrap .u32 (Int.fdiv ((b.length:Int)*8) 4294967296)) 256))=x2 at hsz⊢
 generalize (wrap .u8 (wrap .u32 (Int.fdiv ((b.length:Int)*8) 4294967296)))=x3 at hsz⊢
 generalize (wrap .u8 (Int.fdiv (wrap .u32 ((b.length:Int)*8)) 16777216))=x4 at hsz⊢
 generalize (wrap .u8 (Int.fdiv (wrap .u32 ((b.length:Int)*8)) 65536))=x5 at hsz⊢
 generalize (wrap .u8 (Int.fdiv (wrap .u32 ((b.length:Int)*8)) 256))=x6 at hsz⊢
 generalize (wrap .u8 (wrap .u32 ((b.length:Int)*8)))=x7 at hsz⊢
 have hl:(A++x0::x1::x2::x3::x4::x5::x6::x7::replicate (128-e) 0).length=128:=by simp[hAl];omega
 have hm:=j_main (e/64) 4611686018427387904 0 (replicate 32 0) st _ (by omega) hl (by omega)
 rw[show 64*(0+e/64)=e by omega,show((64*0:Nat):Int)=0 from rfl]at hm
 rw[hm]
 simp only[B_35_2]
 rw[List.drop_zero,i_out _ (by omega)]
 simp only[B_35_3]
 rw[<-hsz,shaS_congr (e/64) _ (A++[x0,x1,x2,x3,x4,x5,x6,x7])]
 rw[show 64*(e/64)=(A++[x0,x1,x2,x3,x4,x5,x6,x7]).length by simp[hAl];omega,List.take_length,
  show A++x0::x1::x2::x3::x4::x5::x6::x7::replicate (128-e) 0=(A++[x0,x1,x2,x3,x4,x5,x6,x7])++replicate (128-e) 0 by simp,List.take_left]
theorem i_sum(b:List Int)(h3:b.length<100000000000):F_35 b=some (Sp.sha b,()):=by
 unfold F_35
 rw[pq_32,gd_tt]
 have hq:=i_main (b.length/64) 4611686018427387904 b b (replicate 32 0) Sp.H0 (by omega) (by omega) (by omega) (by omega)
 show B_35_0 (L_35_0 _ b b (replicate 32 0) Sp.H0 Sp.K64) _=_
 rw[hq]
 simp only[B_35_0]
 have hrl:(b.drop (64*(b.length/64))).length=b.length%64:=by simp;omega
 generalize hr:b.drop (64*(b.length/64))=rest at hrl⊢
 rw[nmin_l (by omega),gd_inB (by omega) (by omega),Int.toNat_natCast,gd_and,gd_dec (by omega),gd_tt,wi64 (by omega) (by omega)]
 have hN:(b.length+72)/64=b.length/64+((if rest.length<=55 then 64 else 128)/64):=by split<;>omega
 have hfin:∀e:Nat,e=(if rest.length<=55 then 64 else 128)->Sp.outB (Sp.shaS (e/64) (rest++[128]++replicate (e-9-rest.length) 0++Sp.szB (b.length*8)) (Sp.shaS (b.length/64) b Sp.H0))=Sp.sha b:=by
  intro e he
  unfold Sp.sha
  rw[hN,<-he,shaS_app]
  have hc:(119-b.length%64)%64=e-9-rest.length:=by rw[hrl]at he⊢;split at he<;>omega
  have e1:(Sp.padB b ((119-b.length%64)%64)).drop (64*(b.length/64))=rest++[128]++replicate (e-9-rest.length) 0++Sp.szB (b.length*8):=by
   rw[hc,Sp.padB]
   simp only[List.append_assoc]
   rw[List.drop_append_of_le_length (by omega),hr]
  have e2:Sp.shaS (b.length/64) (Sp.padB b ((119-b.length%64)%64)) Sp.H0=Sp.shaS (b.length/64) b Sp.H0:=by
   refine shaS_congr _ _ _ _ ?_
   rw[Sp.padB]
   simp only[List.append_assoc]
   rw[List.take_append_of_le_length (by omega)]
  rw[e1,e2]
 by_cases h:rest.length<=55
 ·rw[cond_dff (by omega)]
  have:=J_ok b (replicate 32 0) (Sp.shaS (b.length/64) b Sp.H0) rest 64 (.inl rfl) (by omega) h3
  rw[show((64:Nat):Int)=64 from rfl]at this
  rw[this]
  simp only[B_35_1]
  rw[hfin 64 (by rw[if_pos h])]
 ·rw[cond_dtt (by omega)]
  have:=J_ok b (replicate 32 0) (Sp.shaS (b.length/64) b Sp.H0) rest 128 (.inr rfl) (by omega) h3
  rw[show((128:Nat):Int)=128 from rfl]at this
  rw[this]
  simp only[B_35_1]
  rw[hfin 128 (by rw[if_neg h])]
namespace Sp
noncomputable def hi4(x:Int):Int:=wrap .i64 (Int.fdiv x 16)
noncomputable def lo4(x:Int):Int:=wrap .i64 (andI .u8 x 15)
noncomputable def dig(h:List Int)(j:Nat):Int:=if j%2=0 then hi4 (h.getD (j/2) 0)else lo4 (h.getD (j/2) 0)
noncomputable def digs(h:List Int)(n:Nat):List Int:=(List.range n).map (dig h)
noncomputable def dsum(h:List Int):Nat->Int
 |0=>0
 |n+1=>dsum h n+(15-dig h n)
end Sp
theorem and15(x:Int):Sp.andI .u8 x 15=x%16:=by
 unfold Sp.andI
 rw[u8_mod]
 have h:(BitVec.ofInt 8 x&&&BitVec.ofInt 8 15).toNat=(BitVec.ofInt 8 x).toNat%16:=by
  rw[BitVec.toNat_and]
  show(BitVec.ofInt 8 x).toNat&&&15=_
  exact Nat.and_two_pow_sub_one_eq_mod _ 4
 show(((BitVec.ofInt 8 x&&&BitVec.ofInt 8 15).toNat:Nat):Int)%256=x%16
 rw[h,BitVec.toNat_ofInt]
 omega
theorem hi_b(x:Int)(h0:0<=x)(h1:x<=255):0<=Sp.hi4 x/\Sp.hi4 x<=15:=by
 unfold Sp.hi4
 rw[Int.fdiv_eq_ediv_of_nonneg _ (by decide),wi64 (by omega) (by omega)]
 omega
theorem lo_b(x:Int):0<=Sp.lo4 x/\Sp.lo4 x<=15:=by
 unfold Sp.lo4
 rw[and15,wi64 (by omega) (by omega)]
 omega
abbrev bytes(h:List Int):Prop:=∀x∈h,0<=x/\x<=255
theorem bytes_get{h:List Int}(hb:bytes h)(i:Nat):0<=h.getD i 0/\h.getD i 0<=255:=by
 rcases Nat.lt_or_ge i h.length with hi|hi
 ·rw[List.getD_eq_getElem?_getD,List.getElem?_eq_getElem hi];exact hb _ (List.getElem_mem hi)
 ·rw[List.getD_eq_getElem?_getD,List.getElem?_eq_none hi];simp
theorem dig_b{h:List Int}(hb:bytes h)(j:Nat):0<=Sp.dig h j/\Sp.dig h j<=15:=by
 unfold Sp.dig
 split
 ·exact hi_b _ (bytes_get hb _).1 (bytes_get hb _).2
 ·exact lo_b _
theorem dsum_b{h:List Int}(hb:bytes h):∀n,0<=Sp.dsum h n/\Sp.dsum h n<=15*n
 |0=>by simp[Sp.dsum]
 |n+1=>by
  have h1:=dsum_b hb n
  have h2:=dig_b hb n
  simp only[Sp.dsum];omega
theorem digs_len(h:List Int)(n:Nat):(Sp.digs h n).length=n:=by simp[Sp.digs]
theorem digs_succ(h:List Int)(n:Nat):Sp.digs h (n+1)=Sp.digs h n++[Sp.dig h n]:=by simp[Sp.digs,List.range_succ]
theorem i_dig1(m:Nat)(hm:2<m)(s:Int)(h:List Int)(hb:bytes h)(q:Nat)(x y:Int)(hx:x=Sp.dig h (2*q))(hy:y=Sp.dig h (2*q+1))(i:Int)(hs:s=Sp.dsum h (2*q))(hq:q<32):L_69_1 m s h i [x,y] 0 (Sp.digs h (2*q))=some (.e0 (Sp.dsum h (2*q+2)) h i (Sp.digs h (2*q+2))):=by
 obtain⟨m,rfl⟩:∃k,m=k+3:=⟨m-3,by omega⟩
 have b0:=dsum_b hb (2*q)
 have b1:=dig_b hb (2*q)
 have b2:=dig_b hb (2*q+1)
 subst hs hx hy
 rw[L_69_1,S_69_1,cond_dtt (by decide),gd_inB (by decide) (by decide),gd_room (by rw[digs_len];omega) (by rw[digs_len];omega)]
 show L_69_1 (m+2) (wrap .i64 (Sp.dsum h (2*q)+wrap .i64 (15-Sp.dig h (2*q)))) h i _ 1 (Sp.digs h (2*q)++[Sp.dig h (2*q)])=_
 rw[wi64 (n:=15-Sp.dig h (2*q)) (by omega) (by omega),wi64 (by omega) (by omega),<-digs_succ,L_69_1,S_69_1,cond_dtt (by decide),gd_inB (by decide) (by decide),gd_room (by rw[digs_len];omega) (by rw[digs_len];omega)]
 show L_69_1 (m+1) (wrap .i64 (Sp.dsum h (2*q)+(15-Sp.dig h (2*q))+wrap .i64 (15-Sp.dig h (2*q+1)))) h i _ 2 (Sp.digs h (2*q+1)++[Sp.dig h (2*q+1)])=_
 rw[wi64 (n:=15-Sp.dig h (2*q+1)) (by omega) (by omega),wi64 (by omega) (by omega),<-digs_succ,L_69_1,S_69_1,cond_dff (by decide)]
 rfl
theorem i_dig0:∀(d m q:Nat)(h:List Int),bytes h->q+d=32->d<m->L_69_0 m (Sp.dsum h (2*q)) h (q:Nat) (Sp.digs h (2*q))=some (.e0 (Sp.dsum h 64) (Sp.digs h 64))
 |0,m+1,q,h,hb,hq,_=>by
  rw[L_69_0,S_69_0,cond_dff (by omega),show 2*q=64 by omega]
 |d+1,m+1,q,h,hb,hq,hm=>by
  rw[L_69_0,S_69_0,cond_dtt (by omega),gd_inB (by omega) (by omega),Int.toNat_natCast]
  rw[i_dig1 _ (by omega) _ h hb q _ _ (by simp[Sp.dig,Sp.hi4]) (by simp[Sp.dig,Sp.lo4,show(2*q+1)/2=q by omega,show(2*q+1)%2=1 by omega]) _ rfl (by omega)]
  simp only[B_69_1]
  rw[wi64 (by omega) (by omega)]
  exact i_dig0 d m (q+1) h hb (by omega) (by omega)
theorem r_dig0:∀(d m j:Nat)(h:List Int),bytes h->j+d=64->d<m->L_85_0 m (Sp.dsum h j) (j:Nat) h (Sp.digs h j)=some (.e0 (Sp.dsum h 64) (Sp.digs h 64))
 |0,m+1,j,h,hb,hq,_=>by
  rw[L_85_0,S_85_0,cond_dff (by omega),show j=64 by omega]
 |d+1,m+1,j,h,hb,hq,hm=>by
  have e:Int.tmod (j:Int) 2=((j%2:Nat):Int):=(Int.ofNat_tmod j 2).symm
  have e2:Int.tdiv (j:Int) 2=((j/2:Nat):Int):=(Int.ofNat_tdiv j 2).symm
  have b0:=dsum_b hb j
  have b1:=dig_b hb j
  have ih:=r_dig0 d m (j+1) h hb (by omega) (by omega)
  rw[L_85_0,S_85_0,cond_dtt (by omega),e,e2,wi64 (n:=((j/2:Nat):Int)) (by omega) (by omega),gd_inB (by omega) (by omega),gd_and,Int.toNat_natCast,gd_dec (by omega),gd_tt]
  rw[wi64 (n:=Sp.dsum h j+15) (by omega) (by omega),wi64 (n:=(j:Int)+1) (by omega) (by omega)]
  by_cases h2:j%2=0
  ·have ed:Sp.dig h j=wrap .i64 (Int.fdiv (h.getD (j/2) 0) 16):=by simp[Sp.dig,h2,Sp.hi4]
   rw[cond_eff (by omega),gd_room (by rw[digs_len];omega) (by rw[digs_len];omega),<-ed,wi64 (n:=Sp.dsum h j+15-Sp.dig h j) (by omega) (by omega),<-digs_succ,
    show Sp.dsum h j+15-Sp.dig h j=Sp.dsum h (j+1) by simp only[Sp.dsum];omega]
   exact ih
  ·have ed:Sp.dig h j=wrap .i64 (Sp.andI .u8 (h.getD (j/2) 0) 15):=by simp[Sp.dig,h2,Sp.lo4]
   rw[cond_ett (by omega),gd_inB (by omega) (by omega),gd_and,gd_dec (by omega),gd_tt,gd_room (by rw[digs_len];omega) (by rw[digs_len];omega),<-ed,wi64 (n:=Sp.dsum h j+15-Sp.dig h j) (by omega) (by omega),<-digs_succ,
    show Sp.dsum h j+15-Sp.dig h j=Sp.dsum h (j+1) by simp only[Sp.dsum];omega]
   exact ih
theorem and15'(x:Int):Sp.andI .i64 x 15=x%16:=by
 unfold Sp.andI
 have h:(BitVec.ofInt 64 x&&&BitVec.ofInt 64 15).toNat=(BitVec.ofInt 64 x).toNat%16:=by
  rw[BitVec.toNat_and]
  show(BitVec.ofInt 64 x).toNat&&&15=_
  exact Nat.and_two_pow_sub_one_eq_mod _ 4
 show wrap .i64 (((BitVec.ofInt 64 x&&&BitVec.ofInt 64 15).toNat:Nat):Int)=x%16
 rw[h,BitVec.toNat_ofInt,wi64 (by omega) (by omega)]
 omega
namespace Sp
noncomputable def digL(h:List Int):List Int:=digs h 64++[dsum h 64/256,dsum h 64/16%16,dsum h 64%16]
end Sp
theorem i_digits(h:List Int)(hb:bytes h):F_69 h=some (Sp.digL h,()):=by
 have b0:=dsum_b hb 64
 unfold F_69
 have:=i_dig0 32 4611686018427387904 0 h hb (by omega) (by omega)
 rw[show L_69_0 4611686018427387904 0 h 0 []=some (.e0 (Sp.dsum h 64) (Sp.digs h 64))from this]
 simp only[B_69_0]
 rw[gd_room (by rw[digs_len];omega) (by rw[digs_len];omega),Int.fdiv_eq_ediv_of_nonneg _ (by decide),Int.fdiv_eq_ediv_of_nonneg _ (by decide),and15',and15']
 rfl
theorem r_digits(h:List Int)(hb:bytes h):F_85 h=some (Sp.digL h,()):=by
 have b0:=dsum_b hb 64
 unfold F_85
 have:=r_dig0 64 4611686018427387904 0 h hb (by omega) (by omega)
 rw[show L_85_0 4611686018427387904 0 0 h []=some (.e0 (Sp.dsum h 64) (Sp.digs h 64))from this]
 simp only[B_85_0]
 rw[gd_room (by rw[digs_len];omega) (by rw[digs_len];omega),Int.tdiv_eq_ediv_of_nonneg b0.1,Int.tdiv_eq_ediv_of_nonneg b0.1,Int.tmod_eq_emod_of_nonneg b0.1,wi64 (by omega) (by omega),wi64 (by omega) (by omega),Int.tmod_eq_emod_of_nonneg (by omega)]
 rfl
set_option maxRecDepth 100000
set_option maxHeartbeats 4000000
abbrev BayT:=FlT×List Int×Unit
namespace Sp
noncomputable def cntB(n:Nat):Bool:=decide (n%2=0)&&(decide (18<=n)&&decide (n<=64))
noncomputable def bvb(a:BayT):Bool:=fv a.1&&cntB a.1.2.1.length
noncomputable def hlf(a:BayT):Nat:=a.1.2.1.length*32
noncomputable def wds(a:BayT)(k:Nat):List Int:=(a.1.1.drop (k*hlf a)).take (hlf a)
end Sp
theorem aw:F_10=some (true,()):=by kernel_rfl
theorem aw_pv:p_10=true/\v_10=(true,()):=pv_10 aw
theorem few_p(a:BayT):p_11 a=true:=by
 have:F_11 a=some ((decide ((a.1.2.1.length:Int)<=70)&&decide ((a.1.1.length:Int)<=4480)),()):=by
  unfold F_11
  by_cases h:(a.1.2.1.length:Int)<=70
  ·rw[cond_dtt h,decide_eq_true h,Bool.true_and]
  ·rw[cond_dff h,decide_eq_false h,Bool.false_and]
 exact(pv_11 a this).1
theorem cnt_ok(n:Nat)(hn:n<1000000):F_41 n=some (Sp.cntB n,()):=by
 unfold F_41 Sp.cntB
 rw[Int.tmod_eq_emod_of_nonneg (by omega)]
 by_cases h:n%2=0
 ·rw[cond_ett (by omega),decide_eq_true h,Bool.true_and]
  by_cases h:18<=n
  ·rw[cond_dtt (by omega),decide_eq_true h,Bool.true_and,show decide ((n:Int)<=64)=decide (n<=64)from decide_eq_decide.2 (by omega)]
  ·rw[cond_dff (by omega),decide_eq_false h,Bool.false_and]
 ·rw[cond_eff (by omega),decide_eq_false h,Bool.false_and]
theorem val_ok(a:BayT):F_12 a=some (Sp.bvb a,()):=by
 unfold F_12 Sp.bvb
 rw[(fv_pv a.1).1,(fv_pv a.1).2,gd_tt]
 cases h:Sp.fv a.1
 ·rfl
 ·have hv:=fv_iff.1 h
  have hc:=pv_41 _ (cnt_ok a.1.2.1.length (by omega))
  rw[cond_t,hc.1,hc.2,gd_tt,Bool.true_and]
theorem val_pv(a:BayT):p_12 a=true/\v_12 a=(Sp.bvb a,()):=pv_12 a (val_ok a)
theorem bank_ok(k:Int):F_46 k=some (k==0||k==1,()):=by
 unfold F_46
 cases k==0<;>rfl
theorem bank_pv(k:Int):p_46 k=true/\v_46 k=(k==0||k==1,()):=pv_46 k (bank_ok k)
theorem bank_nat(k:Nat)(h:k<2):(((k:Nat):Int)==0||((k:Nat):Int)==1)=true:=by
 match k,h with
 |0,_=>rfl
 |1,_=>rfl
structure BV(a:BayT):Prop where
 v:Sp.fv a.1=true
 e:a.1.2.1.length%2=0
 lo:18<=a.1.2.1.length
 hi:a.1.2.1.length<=64
 l:a.1.1.length=2*Sp.hlf a
 h0:576<=Sp.hlf a
 h1:Sp.hlf a<=2048
theorem bv_of{a:BayT}(h:Sp.bvb a=true):BV a:=by
 unfold Sp.bvb Sp.cntB at h
 simp only[Bool.and_eq_true,decide_eq_true_eq]at h
 obtain⟨h,e,lo,hi⟩:=h
 have hv:=fv_iff.1 h
 refine⟨h,e,lo,hi,?_,?_,?_⟩<;>unfold Sp.hlf<;>omega
theorem half_eq{a:BayT}(h:BV a):wrap .i64 (Int.tdiv (a.1.1.length:Int) 2)=Sp.hlf a:=by
 rw[h.l,show Int.tdiv ((2*Sp.hlf a:Nat):Int) 2=Sp.hlf a by rw[Int.tdiv_eq_ediv_of_nonneg (by omega)];omega]
 exact wi64 (by omega) (by have:=h.h1;omega)
theorem off_eq{a:BayT}(h:BV a)(k:Nat)(hk:k<3):wrap .i64 ((k:Int)*(Sp.hlf a:Int))=((k*Sp.hlf a:Nat):Int):=by
 have:=h.h1
 have:k*Sp.hlf a<=2*Sp.hlf a:=Nat.mul_le_mul_right _ (by omega)
 rw[<-Int.natCast_mul,wi64 (by omega) (by omega)]
theorem off_lt{a:BayT}(h:BV a)(k:Nat)(hk:k<2):k*Sp.hlf a+Sp.hlf a<=a.1.1.length:=by
 have:=h.l
 match k,hk with
 |0,_=>omega
 |1,_=>omega
theorem wds_len{a:BayT}(h:BV a)(k:Nat)(hk:k<2):(Sp.wds a k).length=Sp.hlf a:=by
 have:=off_lt h k hk
 unfold Sp.wds
 rw[List.length_take,List.length_drop]
 omega
theorem words_ok{a:BayT}(h:BV a)(k:Nat)(hk:k<2):F_42 a k=some (Sp.wds a k,()):=by
 have hl:=off_lt h k hk
 have e:wrap .i64 ((k:Int)+1)=((k+1:Nat):Int):=by rw[wi64 (by omega) (by omega)];push_cast;rfl
 unfold F_42 Sp.wds
 rw[half_eq h,e,off_eq h k (by omega),off_eq h (k+1) (by omega),gd_sl3 (by omega) (by rw[Nat.add_mul];omega) (by rw[Nat.add_mul];omega),Int.toNat_natCast,Int.toNat_natCast,show(k+1)*Sp.hlf a-k*Sp.hlf a=Sp.hlf a by rw[Nat.add_mul];omega]
theorem words_pv{a:BayT}(h:BV a)(k:Nat)(hk:k<2):p_42 a k=true/\v_42 a k=(Sp.wds a k,()):=pv_42 a k (words_ok h k hk)
theorem wds_get{a:BayT}(h:BV a)(k:Nat)(hk:k<2):(Sp.wds a k).getD 0 0=a.1.1.getD (k*Sp.hlf a) 0:=by
 have:=off_lt h k hk
 have:=h.h0
 unfold Sp.wds
 simp only[List.getD_eq_getElem?_getD,List.getElem?_take,List.getElem?_drop]
 rw[if_pos (by omega),Nat.add_zero]
theorem act_pv{a:BayT}(h:BV a)(k:Nat)(hk:k<2):p_51 a k=true/\v_51 a k=(a.1.1.getD (k*Sp.hlf a) 0==0,()):=by
 refine pv_51 a k ?_
 have:=h.h0
 unfold F_51
 rw[(words_pv h k hk).1,(words_pv h k hk).2,gd_tt,gd_inB (by decide) (by show(0:Int)<((Sp.wds a k).length:Int);rw[wds_len h k hk];omega)]
 show some ((Sp.wds a k).getD 0 0==0,())=_
 rw[wds_get h k hk]
theorem cat_l0(m:Nat)(x y:List Int)(hx:x.length<1000000)(hy:y.length<1000000):L_43_0 (m+3) [x,y] 0 [x,y] 2 0=some (.e0 [x,y] ((x.length:Int)+(y.length:Int))):=by
 rw[L_43_0,S_43_0,cond_dtt (by decide),gd_inB (by decide) (by show(0:Int)<((2:Nat):Int);decide)]
 show(bif decide (wrap .i64 (0+(x.length:Int))<0)then none else L_43_0 (m+2) [x,y] (wrap .i64 (0+(x.length:Int))) [x,y] 2 1)=_
 rw[wi64 (n:=0+(x.length:Int)) (by omega) (by omega),cond_dff (by omega),L_43_0,S_43_0,cond_dtt (by decide),gd_inB (by decide) (by show(1:Int)<((2:Nat):Int);decide)]
 show(bif decide (wrap .i64 (0+(x.length:Int)+(y.length:Int))<0)then none else L_43_0 (m+1) [x,y] (wrap .i64 (0+(x.length:Int)+(y.length:Int))) [x,y] 2 2)=_
 rw[wi64 (n:=0+(x.length:Int)+(y.length:Int)) (by omega) (by omega),cond_dff (by omega),L_43_0,S_43_0,cond_dff (by decide),Int.zero_add]
theorem cat_l1(m:Nat)(x y:List Int)(hx:x.length<1000000)(hy:y.length<1000000):L_43_1 (m+3) [x,y] 2 0 []=some (.e0 (x++y)):=by
 rw[L_43_1,S_43_1,cond_dtt (by decide),gd_inB (by decide) (by show(0:Int)<((2:Nat):Int);decide),gd_room (by show(0+x.length)*4<=_;omega) (by show 0+x.length<=_;omega)]
 show L_43_1 (m+2) [x,y] 2 1 x=_
 rw[L_43_1,S_43_1,cond_dtt (by decide),gd_inB (by decide) (by show(1:Int)<((2:Nat):Int);decide),gd_room (by show(x.length+y.length)*4<=_;omega) (by show x.length+y.length<=_;omega)]
 show L_43_1 (m+1) [x,y] 2 2 (x++y)=_
 rw[L_43_1,S_43_1,cond_dff (by decide)]
theorem cat_ok(x y:List Int)(hx:x.length<1000000)(hy:y.length<1000000):F_43 [x,y]=some (x++y,()):=by
 unfold F_43
 refine(congrArg (fun z=>B_43_0 z _) (cat_l0 4611686018427387901 x y hx hy)).trans ?_
 refine Eq.trans (b:=gd (decide ((0:Int)<=(x.length:Int)+(y.length:Int))&&room (toNat ((x.length:Int)+(y.length:Int))) 4) (B_43_1 (L_43_1 4611686018427387904 [x,y] 2 0 []) fun y5=>some (y5,()))) rfl ?_
 rw[gd_and,gd_dec (by omega),gd_room (by omega) (by omega)]
 exact(congrArg (fun z=>B_43_1 z _) (cat_l1 4611686018427387901 x y hx hy)).trans rfl
namespace Sp
noncomputable def w4(x:Int):List Int:=[wrap .u8 (Int.fdiv x 16777216),wrap .u8 (Int.fdiv x 65536),wrap .u8 (Int.fdiv x 256),wrap .u8 x]
noncomputable def spr(l:List Int):List Int:=l.flatMap w4
end Sp
theorem spr_len(l:List Int):(Sp.spr l).length=4*l.length:=by
 induction l with
 |nil=>rfl
 |cons x l ih=>show(Sp.w4 x++Sp.spr l).length=_;rw[List.length_append,ih,List.length_cons];show 4+_=_;omega
theorem spr_succ(l:List Int)(j:Nat)(hj:j<l.length):Sp.spr (l.take (j+1))=Sp.spr (l.take j)++Sp.w4 (l.getD j 0):=by
 have e:l.getD j 0=l[j]:=by simp[List.getD_eq_getElem?_getD,List.getElem?_eq_getElem hj]
 unfold Sp.spr
 rw[e,List.take_succ_eq_append_getElem hj,List.flatMap_append,List.flatMap_cons,List.flatMap_nil,List.append_nil]
theorem spr_b(l:List Int):bytes (Sp.spr l):=by
 intro x hx
 unfold Sp.spr at hx
 rw[List.mem_flatMap]at hx
 obtain⟨y,_,hx⟩:=hx
 simp only[Sp.w4,List.mem_cons,List.not_mem_nil,or_false]at hx
 rcases hx with rfl|rfl|rfl|rfl<;>rw[u8_mod]<;>omega
theorem spr_loop(l:List Int)(hl:l.length<1000000):∀(d m j:Nat),j+d=l.length->d<m->L_44_0 m l l.length (j:Nat) (Sp.spr (l.take j))=some (.e0 (Sp.spr l)):=by
 intro d
 induction d with
 |zero=>
  intro m j hj hm
  obtain⟨m,rfl⟩:∃k,m=k+1:=⟨m-1,by omega⟩
  rw[L_44_0,S_44_0,cond_dff (by omega),List.take_of_length_le (by omega)]
 |succ d ih=>
  intro m j hj hm
  obtain⟨m,rfl⟩:∃k,m=k+1:=⟨m-1,by omega⟩
  have hs:=spr_len (l.take j)
  rw[List.length_take]at hs
  rw[L_44_0,S_44_0,cond_dtt (by omega),gd_inB (by omega) (by omega),gd_room (by omega) (by omega),wi64 (by omega) (by omega),Int.toNat_natCast]
  have:=ih m (j+1) (by omega) (by omega)
  rw[spr_succ l j (by omega)]at this
  push_cast at this
  exact this
theorem spr_eq(l:List Int)(hl:l.length<1000000):F_44 l=some (Sp.spr l,()):=by
 unfold F_44
 exact(congrArg (fun z=>B_44_0 z _) (spr_loop l hl l.length 4611686018427387904 0 (by omega) (by omega))).trans rfl
theorem spr_ok(l:List Int)(hl:l.length<1000000):∃o,F_44 l=some (o,())/\o.length=4*l.length/\bytes o:=⟨_,spr_eq l hl,spr_len l,spr_b l⟩
set_option maxRecDepth 100000
set_option maxHeartbeats 4000000
namespace Sp
noncomputable def link(j:Int)(h:List Int):List Int:=sha ([wrap .u8 j]++h.take 32)
noncomputable def chn:Nat->Int->List Int->List Int
 |0,_,h=>h
 |n+1,j,h=>chn n (j+1) (link j h)
end Sp
theorem i_chain:∀(d m:Nat)(j e:Int)(h o:List Int),e=j+d-> -1000<=j->e<=1000->d<m->L_70_0 m e j h o=some (.e0 (Sp.chn d j h) o)
 |0,m+1,j,e,h,o,h1,h2,h3,_=>by
  rw[L_70_0,S_70_0,cond_dff (by omega)]
  rfl
 |d+1,m+1,j,e,h,o,h1,h2,h3,h4=>by
  have hl:(h.take 32).length<=32:=by simp;omega
  have hs:p_35 ([wrap .u8 j]++h.take 32)=true/\v_35 ([wrap .u8 j]++h.take 32)=(Sp.link j h,()):=pv_35 _ (i_sum _ (by rw[List.length_append,List.length_singleton];omega))
  rw[L_70_0,S_70_0,cond_dtt (by omega),List.drop_zero,gd_room (by omega) (by omega),hs.1,hs.2,gd_tt,wi64 (by omega) (by omega)]
  rw[Sp.chn]
  dsimp only
  exact i_chain d m (j+1) e (Sp.link j h) o (by omega) (by omega) h3 (by omega)
theorem r_chain:∀(d m:Nat)(j e:Int)(h o:List Int),e=j+d-> -1000<=j->e<=1000->d<m->L_86_0 m e j h o=some (.e0 (Sp.chn d j h) o)
 |0,m+1,j,e,h,o,h1,h2,h3,_=>by
  rw[L_86_0,S_86_0,cond_dff (by omega)]
  rfl
 |d+1,m+1,j,e,h,o,h1,h2,h3,h4=>by
  have hl:(h.take 32).length<=32:=by simp;omega
  have hs:p_83 ([wrap .u8 j]++h.take 32)=true/\v_83 ([wrap .u8 j]++h.take 32)=(Sp.link j h,()):=pv_83 _ (r_sum _ (by rw[List.length_append,List.length_singleton];omega))
  rw[L_86_0,S_86_0,cond_dtt (by omega),List.drop_zero,gd_room (by omega) (by omega),hs.1,hs.2,gd_tt,wi64 (by omega) (by omega)]
  rw[Sp.chn]
  dsimp only
  exact r_chain d m (j+1) e (Sp.link j h) o (by omega) (by omega) h3 (by omega)
theorem chain_ok(h:List Int)(j e:Int)(h0:0<=j)(h1:j<=e)(h2:e<=15):F_70 h j e=some (Sp.chn (e-j).toNat j h,()):=by
 unfold F_70
 rw[i_chain (e-j).toNat _ j e h _ (by omega) (by omega) (by omega) (by omega)]
 rfl
theorem rchain_ok(h:List Int)(j e:Int)(h0:0<=j)(h1:j<=e)(h2:e<=15):F_86 h j e=some (Sp.chn (e-j).toNat j h,()):=by
 unfold F_86
 rw[r_chain (e-j).toNat _ j e h _ (by omega) (by omega) (by omega) (by omega)]
 rfl
set_option maxRecDepth 100000
set_option maxHeartbeats 4000000
namespace Sp
noncomputable def node(a b:List Int):List Int:=sha ([255]++a.take 32++b.take 32)
noncomputable def sec(s:List Int)(k j:Int):List Int:=sha (s.take 32++[wrap .u8 k,wrap .u8 j])
noncomputable def cat(l:List (List Int)):List Int:=l.flatMap fun h=>h.take 32
noncomputable def leafE(l:List (List Int)):List Int:=sha (cat l)
noncomputable def ends(s:List Int)(k:Int)(n:Nat):List (List Int):=(List.range n).map fun j:Nat=>chn 15 0 (sec s k (j:Int))
noncomputable def leafS(s:List Int)(k:Int):List Int:=leafE (ends s k 67)
noncomputable def pubK(s:List Int):List Int:=node (node (leafS s 0) (leafS s 1)) (node (leafS s 2) (leafS s 3))
end Sp
theorem tk32(a:List Int):(a.take 32).length<=32:=by rw[List.length_take];omega
theorem above_ok(a b:List Int):F_73 a b=some (Sp.node a b,()):=by
 have h1:=tk32 a
 have h2:=tk32 b
 have hs:p_35 ([255]++a.take 32++b.take 32)=true/\v_35 ([255]++a.take 32++b.take 32)=(Sp.node a b,()):=pv_35 _ (i_sum _ (by rw[List.length_append,List.length_append,List.length_singleton];omega))
 unfold F_73
 rw[List.drop_zero,List.drop_zero,gd_room (by omega) (by omega),gd_room (by rw[List.length_append,List.length_singleton];omega) (by rw[List.length_append,List.length_singleton];omega),hs.1,hs.2,gd_tt]
theorem node_ok(a b:List Int):F_88 a b=some (Sp.node a b,()):=by
 have h1:=tk32 a
 have h2:=tk32 b
 have hs:p_83 ([255]++a.take 32++b.take 32)=true/\v_83 ([255]++a.take 32++b.take 32)=(Sp.node a b,()):=pv_83 _ (r_sum _ (by rw[List.length_append,List.length_append,List.length_singleton];omega))
 unfold F_88
 rw[List.drop_zero,List.drop_zero,gd_room (by omega) (by omega),gd_room (by rw[List.length_append,List.length_singleton];omega) (by rw[List.length_append,List.length_singleton];omega),hs.1,hs.2,gd_tt]
theorem cat_len:∀l:List (List Int),(Sp.cat l).length<=32*l.length
 |[]=>by simp[Sp.cat]
 |h::l=>by
  have h1:=cat_len l
  have h2:=tk32 h
  simp only[Sp.cat,List.flatMap_cons,List.length_append,List.length_cons]at h1⊢
  omega
theorem cat_succ(l:List (List Int))(j:Nat)(hj:j<l.length):Sp.cat (l.take (j+1))=Sp.cat (l.take j)++(l.getD j (Ty.dflt (.arr 32 (.int .u8)))).take 32:=by
 have e:l.getD j (Ty.dflt (.arr 32 (.int .u8)))=l[j]:=by simp[List.getD_eq_getElem?_getD,hj]
 rw[List.take_succ_eq_append_getElem hj,e]
 simp only[Sp.cat,List.flatMap_append,List.flatMap_cons,List.flatMap_nil,List.append_nil]
theorem leafE_loop(o:List Int)(l:List (List Int))(hl:l.length<1000000):∀(d m j:Nat),j+d=l.length->d<m->L_79_0 m l l.length (j:Nat) o (Sp.cat (l.take j))=some (.e0 o (Sp.cat l))
 |0,m+1,j,hj,_=>by
  rw[L_79_0,S_79_0,cond_dff (by omega),List.take_of_length_le (by omega)]
 |d+1,m+1,j,hj,hm=>by
  have h1:=cat_len (l.take j)
  have h2:=tk32 (l.getD j (Ty.dflt (.arr 32 (.int .u8))))
  have h3:(l.take j).length<=1000000:=by rw[List.length_take];omega
  rw[L_79_0,S_79_0,cond_dtt (by omega),gd_inB (by omega) (by omega),Int.toNat_natCast,List.drop_zero,gd_room (by omega) (by omega),wi64 (by omega) (by omega),<-cat_succ l j (by omega)]
  exact leafE_loop o l hl d m (j+1) (by omega) (by omega)
theorem rleafE_loop(o:List Int)(l:List (List Int))(hl:l.length<1000000):∀(d m j:Nat),j+d=l.length->d<m->L_87_0 m l (j:Nat) o (Sp.cat (l.take j))=some (.e0 o (Sp.cat l))
 |0,m+1,j,hj,_=>by
  rw[L_87_0,S_87_0,cond_dff (by omega),List.take_of_length_le (by omega)]
 |d+1,m+1,j,hj,hm=>by
  have h1:=cat_len (l.take j)
  have h2:=tk32 (l.getD j (Ty.dflt (.arr 32 (.int .u8))))
  have h3:(l.take j).length<=1000000:=by rw[List.length_take];omega
  rw[L_87_0,S_87_0,cond_dtt (by omega),gd_inB (by omega) (by omega),Int.toNat_natCast,List.drop_zero,gd_room (by omega) (by omega),wi64 (by omega) (by omega),<-cat_succ l j (by omega)]
  exact rleafE_loop o l hl d m (j+1) (by omega) (by omega)
theorem leafE_ok(l:List (List Int))(hl:l.length<1000000):F_79 l=some (Sp.leafE l,()):=by
 have h1:=cat_len l
 have hs:p_35 (Sp.cat l)=true/\v_35 (Sp.cat l)=(Sp.leafE l,()):=pv_35 _ (i_sum _ (by omega))
 unfold F_79
 rw[show L_79_0 4611686018427387904 l l.length 0 (replicate 32 0) []=_ from leafE_loop (replicate 32 0) l hl l.length 4611686018427387904 0 (by omega) (by omega)]
 simp only[B_79_0]
 rw[hs.1,hs.2,gd_tt]
theorem rleafE_ok(l:List (List Int))(hl:l.length<1000000):F_87 l=some (Sp.leafE l,()):=by
 have h1:=cat_len l
 have hs:p_83 (Sp.cat l)=true/\v_83 (Sp.cat l)=(Sp.leafE l,()):=pv_83 _ (r_sum _ (by omega))
 unfold F_87
 rw[show L_87_0 4611686018427387904 l 0 (replicate 32 0) []=_ from rleafE_loop (replicate 32 0) l hl l.length 4611686018427387904 0 (by omega) (by omega)]
 simp only[B_87_0]
 rw[hs.1,hs.2,gd_tt]
theorem above_pv(a b:List Int):p_73 a b=true/\v_73 a b=(Sp.node a b,()):=pv_73 a b (above_ok a b)
theorem node_pv(a b:List Int):p_88 a b=true/\v_88 a b=(Sp.node a b,()):=pv_88 a b (node_ok a b)
theorem digL_len(h:List Int):(Sp.digL h).length=67:=by simp[Sp.digL,digs_len]
theorem dig_get(h:List Int)(n j:Nat)(hj:j<n):(Sp.digs h n).getD j 0=Sp.dig h j:=by
 simp[Sp.digs,List.getD_eq_getElem?_getD,hj]
theorem digL_get(h:List Int)(j:Nat)(hj:j<64):(Sp.digL h).getD j 0=Sp.dig h j:=by
 unfold Sp.digL
 rw[List.getD_eq_getElem?_getD,List.getElem?_append_left (by rw[digs_len];exact hj),<-List.getD_eq_getElem?_getD,dig_get h 64 j hj]
theorem digL_top(h:List Int):(Sp.digL h).getD 64 0=Sp.dsum h 64/256/\(Sp.digL h).getD 65 0=Sp.dsum h 64/16%16/\(Sp.digL h).getD 66 0=Sp.dsum h 64%16:=by
 unfold Sp.digL
 refine⟨?_,?_,?_⟩<;>(rw[List.getD_eq_getElem?_getD,List.getElem?_append_right (by rw[digs_len];omega),digs_len];rfl)
theorem digL_b{h:List Int}(hb:bytes h)(j:Nat)(hj:j<67):0<=(Sp.digL h).getD j 0/\(Sp.digL h).getD j 0<=15:=by
 have b0:=dsum_b hb 64
 have t:=digL_top h
 rcases Nat.lt_or_ge j 64 with h1|h1
 ·rw[digL_get h j h1];exact dig_b hb j
 ·rcases(show j=64\/j=65\/j=66 by omega)with rfl|rfl|rfl
  ·rw[t.1];omega
  ·rw[t.2.1];omega
  ·rw[t.2.2];omega
noncomputable def anyB(p:Nat->Bool):Nat->Bool
 |0=>false
 |n+1=>anyB p n||p n
set_option maxRecDepth 100000
set_option maxHeartbeats 4000000
abbrev SigT:=Int×List (List Int)×List (List Int)×PUnit
abbrev h0:List Int:=Ty.dflt (.arr 32 (.int .u8))
namespace Sp
noncomputable def shp(s:SigT):Bool:=decide (0<=s.1)&&(decide (s.1<4)&&((s.2.1.length:Int)==67&&(s.2.2.1.length:Int)==2))
noncomputable def vend(d:List Int)(c:List (List Int))(n:Nat):List (List Int):=(List.range n).map fun j:Nat=>chn (15-d.getD j 0).toNat (d.getD j 0) (c.getD j h0)
noncomputable def up(i:Int)(p e:List Int):List Int:=if i=1 then node p e else node e p
noncomputable def verF(key dg:List Int)(s:SigT):Bool:=shp s&&(up (s.1/2) (s.2.2.1.getD 1 h0) (up (s.1%2) (s.2.2.1.getD 0 h0) (leafE (vend (digL dg) s.2.1 67)))==key)
end Sp
theorem shp_ok(s:SigT):F_78 s=some (Sp.shp s,()):=by
 unfold F_78 Sp.shp
 by_cases h1:s.1>=0
 ·by_cases h2:s.1<4
  ·rw[cond_dtt h1,cond_dtt h2,decide_eq_true (show 0<=s.1 from h1),decide_eq_true h2]
   cases ((s.2.1.length:Int)==67)<;>rfl
  ·rw[cond_dtt h1,cond_dff h2,decide_eq_false h2];simp
 ·rw[cond_dff h1,decide_eq_false (show ¬0<=s.1 from h1)];rfl
theorem rshp_ok(s:SigT):F_84 s=some (Sp.shp s,()):=by
 unfold F_84 Sp.shp
 by_cases h1:s.1>=0
 ·by_cases h2:s.1<4
  ·rw[cond_dtt h1,cond_dtt (show s.1<=3 by omega),decide_eq_true (show 0<=s.1 from h1),decide_eq_true h2]
   cases ((s.2.1.length:Int)==67)<;>rfl
  ·rw[cond_dtt h1,cond_dff (show ¬s.1<=3 by omega),decide_eq_false h2];simp
 ·rw[cond_dff h1,decide_eq_false (show ¬0<=s.1 from h1)];rfl
theorem vend_len(d:List Int)(c:List (List Int))(n:Nat):(Sp.vend d c n).length=n:=by simp[Sp.vend]
theorem vend_succ(d:List Int)(c:List (List Int))(n:Nat):Sp.vend d c (n+1)=Sp.vend d c n++[Sp.chn (15-d.getD n 0).toNat (d.getD n 0) (c.getD n h0)]:=by simp[Sp.vend,List.range_succ]
theorem ver_loop(key dg:List Int)(hb:bytes dg)(s:SigT)(hs:s.2.1.length=67):∀(d m j:Nat),j+d=67->d<m->L_45_0 m (Sp.digL dg) 67 (j:Nat) key s (Sp.vend (Sp.digL dg) s.2.1 j)=some (.e0 key s (Sp.vend (Sp.digL dg) s.2.1 67))
 |0,m+1,j,hj,_=>by
  rw[L_45_0,S_45_0,cond_dff (by omega),show j=67 by omega]
 |d+1,m+1,j,hj,hm=>by
  have hl:=digL_len dg
  have hd:=digL_b hb j (by omega)
  have h2:=pv_70 _ _ _ (chain_ok (s.2.1.getD j h0) ((Sp.digL dg).getD j 0) 15 hd.1 hd.2 (by decide))
  rw[L_45_0,S_45_0,cond_dtt (by omega),gd_inB (by omega) (by omega),gd_inB (by omega) (by omega),Int.toNat_natCast,h2.1,h2.2,gd_tt,gd_room (by rw[vend_len];omega) (by rw[vend_len];omega),wi64 (by omega) (by omega)]
  dsimp only
  rw[<-vend_succ]
  exact ver_loop key dg hb s hs d m (j+1) (by omega) (by omega)
theorem rver_loop(key dg:List Int)(hb:bytes dg)(s:SigT)(hs:s.2.1.length=67):∀(d m j:Nat),j+d=67->d<m->L_50_0 m (Sp.digL dg) (j:Nat) key s (Sp.vend (Sp.digL dg) s.2.1 j)=some (.e0 key s (Sp.vend (Sp.digL dg) s.2.1 67))
 |0,m+1,j,hj,_=>by
  rw[L_50_0,S_50_0,cond_dff (by omega),show j=67 by omega]
 |d+1,m+1,j,hj,hm=>by
  have hl:=digL_len dg
  have hd:=digL_b hb j (by omega)
  have h2:=pv_86 _ _ _ (rchain_ok (s.2.1.getD j h0) ((Sp.digL dg).getD j 0) 15 hd.1 hd.2 (by decide))
  rw[L_50_0,S_50_0,cond_dtt (by omega),gd_inB (by omega) (by omega),gd_inB (by omega) (by omega),Int.toNat_natCast,h2.1,h2.2,gd_tt,gd_room (by rw[vend_len];omega) (by rw[vend_len];omega),wi64 (by omega) (by omega)]
  dsimp only
  rw[<-vend_succ]
  exact rver_loop key dg hb s hs d m (j+1) (by omega) (by omega)
set_option maxRecDepth 100000
set_option maxHeartbeats 4000000
theorem bit_of(i:Int)(h0:0<=i)(h1:i<4):(Sp.andI .i64 (Int.fdiv i (2^Nat.min 0 64)) 1=i%2)/\(Sp.andI .i64 (Int.fdiv i (2^Nat.min 1 64)) 1=i/2):=by
 rcases(show i=0\/i=1\/i=2\/i=3 by omega)with rfl|rfl|rfl|rfl<;>exact⟨by kernel_rfl,by kernel_rfl⟩
theorem up_step(m:Nat)(p:List (List Int))(hp:p.length=2)(j:Nat)(hj:j<2)(key:List Int)(s:SigT)(e:List Int)(b:Int)(hb:Sp.andI .i64 (Int.fdiv s.1 (2^Nat.min j 64)) 1=b):L_45_1 (m+1) p 2 (j:Nat) key s e=L_45_1 m p 2 ((j:Int)+1) key s (Sp.up b (p.getD j h0) e):=by
 have a1:=above_pv (p.getD j h0) e
 have a2:=above_pv e (p.getD j h0)
 rw[L_45_1,S_45_1,cond_dtt (by omega),gd_inB (by omega) (by omega),gd_dec (by omega),Int.toNat_natCast,hb,wi64 (by omega) (by omega)]
 by_cases h:b=1
 ·rw[cond_ett h,a1.1,a1.2,gd_tt,Sp.up,if_pos h]
 ·rw[cond_eff h,a2.1,a2.2,gd_tt,Sp.up,if_neg h]
theorem up_loop(m:Nat)(hm:3<=m)(p:List (List Int))(hp:p.length=2)(key:List Int)(s:SigT)(e:List Int)(h0':0<=s.1)(h1':s.1<4):L_45_1 m p 2 0 key s e=some (.e0 key (Sp.up (s.1/2) (p.getD 1 h0) (Sp.up (s.1%2) (p.getD 0 h0) e))):=by
 obtain⟨m,rfl⟩:∃k,m=k+3:=⟨m-3,by omega⟩
 have hb:=bit_of s.1 h0' h1'
 have s1:=up_step (m+2) p hp 0 (by omega) key s e _ hb.1
 have s2:=up_step (m+1) p hp 1 (by omega) key s (Sp.up (s.1%2) (p.getD 0 h0) e) _ hb.2
 refine s1.trans (s2.trans ?_)
 show L_45_1 (m+1) p 2 2 key s _=_
 rw[L_45_1,S_45_1,cond_dff (by decide)]
theorem shp_spec{s:SigT}(h:Sp.shp s=true):0<=s.1/\s.1<4/\s.2.1.length=67/\s.2.2.1.length=2:=by
 simp only[Sp.shp,Bool.and_eq_true,decide_eq_true_eq,beq_iff_eq]at h
 omega
theorem verify_ok(key dg:List Int)(hb:bytes dg)(s:SigT):F_45 key dg s=some (Sp.verF key dg s,()):=by
 have a:=pv_78 _ (shp_ok s)
 unfold F_45 Sp.verF
 rw[a.1,a.2,gd_tt]
 cases hs:Sp.shp s
 ·rfl
 ·obtain⟨h1,h2,h3,h4⟩:=shp_spec hs
  have d:=pv_69 _ (i_digits dg hb)
  have l:=pv_79 _ (leafE_ok (Sp.vend (Sp.digL dg) s.2.1 67) (by rw[vend_len];omega))
  rw[d.1,d.2,gd_tt]
  dsimp only
  rw[digL_len]
  simp only[Bool.not_true,cond_f]
  rw[show L_45_0 4611686018427387904 (Sp.digL dg) ((67:Nat):Int) 0 key s []=_ from ver_loop key dg hb s h3 67 4611686018427387904 0 (by omega) (by omega)]
  simp only[B_45_0]
  rw[l.1,l.2,gd_tt]
  dsimp only
  rw[h4]
  rw[show L_45_1 4611686018427387904 s.2.2.1 ((2:Nat):Int) 0 key s (Sp.leafE (Sp.vend (Sp.digL dg) s.2.1 67))=_ from up_loop _ (by omega) s.2.2.1 h4 key s _ h1 h2]
  simp only[B_45_1,arr_beq,Bool.true_and]
theorem J_ver(key:List Int)(s:SigT)(h1:0<=s.1)(h2:s.1<4)(h4:s.2.2.1.length=2)(e:List Int) :
 B_50_1 (J_50_1 key s e) (fun k y z=>some (Ty.beq (.arr 32 (.int .u8)) (v_88 (y.2.2.1.getD 1 h0) z).1 k,PUnit.unit)) (fun k y z=>some (Ty.beq (.arr 32 (.int .u8)) (v_88 z (y.2.2.1.getD 1 h0)).1 k,PUnit.unit))=some ((Sp.up (s.1/2) (s.2.2.1.getD 1 h0) e==key),PUnit.unit):=by
 have n1:=node_pv (s.2.2.1.getD 1 h0) e
 have n2:=node_pv e (s.2.2.1.getD 1 h0)
 have ed:wrap .i64 (Int.tdiv s.1 2)=s.1/2:=by rw[Int.tdiv_eq_ediv_of_nonneg h1,wi64 (by omega) (by omega)]
 unfold J_50_1 S_50_1
 rw[ed]
 by_cases h:s.1/2=1
 ·rw[cond_ett h,gd_inB (by omega) (by omega),n1.1,gd_tt]
  simp only[B_50_1,n1.2,arr_beq,Sp.up,if_pos h]
 ·rw[cond_eff h,gd_inB (by omega) (by omega),n2.1,gd_tt]
  simp only[B_50_1,n2.2,arr_beq,Sp.up,if_neg h]
theorem rverify_ok(key dg:List Int)(hb:bytes dg)(s:SigT):F_50 key dg s=some (Sp.verF key dg s,()):=by
 have a:=pv_84 _ (rshp_ok s)
 unfold F_50 Sp.verF
 rw[a.1,a.2,gd_tt]
 cases hs:Sp.shp s
 ·rfl
 ·obtain⟨h1,h2,h3,h4⟩:=shp_spec hs
  have d:=pv_85 _ (r_digits dg hb)
  have l:=pv_87 _ (rleafE_ok (Sp.vend (Sp.digL dg) s.2.1 67) (by rw[vend_len];omega))
  have em:Int.tmod s.1 2=s.1%2:=Int.tmod_eq_emod_of_nonneg h1
  rw[d.1,d.2,gd_tt]
  dsimp only
  simp only[Bool.not_true,cond_f]
  rw[show L_50_0 4611686018427387904 (Sp.digL dg) 0 key s []=_ from rver_loop key dg hb s h3 67 4611686018427387904 0 (by omega) (by omega)]
  simp only[B_50_0]
  rw[l.1,l.2,gd_tt]
  dsimp only
  have n1:=node_pv (s.2.2.1.getD 0 h0) (Sp.leafE (Sp.vend (Sp.digL dg) s.2.1 67))
  have n2:=node_pv (Sp.leafE (Sp.vend (Sp.digL dg) s.2.1 67)) (s.2.2.1.getD 0 h0)
  rw[em]
  by_cases h:s.1%2=1
  ·rw[cond_ett h,gd_inB (by omega) (by omega),n1.1,n1.2,gd_tt]
   dsimp only
   rw[J_ver key s h1 h2 h4,Bool.true_and,show Sp.up (s.1%2) (s.2.2.1.getD 0 h0) (Sp.leafE (Sp.vend (Sp.digL dg) s.2.1 67))=_ from if_pos h]
  ·rw[cond_eff h,gd_inB (by omega) (by omega),n2.1,n2.2,gd_tt]
   dsimp only
   rw[J_ver key s h1 h2 h4,Bool.true_and,show Sp.up (s.1%2) (s.2.2.1.getD 0 h0) (Sp.leafE (Sp.vend (Sp.digL dg) s.2.1 67))=_ from if_neg h]
namespace Sp
noncomputable def wd(a b c d:Int):Int:=orI .u32 (orI .u32 (orI .u32 (wrap .u32 (wrap .u32 a*16777216)) (wrap .u32 (wrap .u32 b*65536))) (wrap .u32 (wrap .u32 c*256))) (wrap .u32 d)
noncomputable def hwd(h:List Int)(i:Nat):Int:=wd (h.getD (4*i) 0) (h.getD (4*i+1) 0) (h.getD (4*i+2) 0) (h.getD (4*i+3) 0)
noncomputable def hws(h:List Int)(n:Nat):List Int:=(List.range n).map (hwd h)
noncomputable def cws(l:List (List Int)):List Int:=l.flatMap fun h=>hws h 8
noncomputable def wordsF(s:SigT):List Int:=[wrap .u32 s.1]++cws s.2.1++cws s.2.2.1
end Sp
set_option maxRecDepth 100000
set_option maxHeartbeats 4000000
namespace Sp
noncomputable def byt(w:List Int)(k i:Nat):Int:=wrap .u8 (Int.fdiv (w.getD (1+8*k+i/4) 0) (2^(24-8*(i%4))))
noncomputable def rdp(w:List Int)(k n:Nat):List Int:=(List.range 32).map fun i=>if i<n then byt w k i else 0
noncomputable def rdh(w:List Int)(k:Nat):List Int:=(List.range 32).map (byt w k)
noncomputable def rdC(w:List Int)(n:Nat):List (List Int):=(List.range (min n 67)).map (rdh w)
noncomputable def rdP(w:List Int)(n:Nat):List (List Int):=(List.range (n-67)).map fun j=>rdh w (67+j)
noncomputable def rd(w:List Int):SigT:=(wrap .i64 (w.getD 0 0),rdC w 69,rdP w 69,())
noncomputable def okw(w:List Int):Bool:=decide (w.length=553)&&decide (w.getD 0 0<4)
end Sp
theorem rdp_zero(w:List Int)(k:Nat):Sp.rdp w k 0=replicate 32 0:=by
 unfold Sp.rdp
 apply List.ext_getElem
 ·simp
 ·intro i h1 h2;rw[List.getElem_replicate,List.getElem_map,List.getElem_range,if_neg (by omega)]
theorem rdp_full(w:List Int)(k:Nat):Sp.rdp w k 32=Sp.rdh w k:=by
 unfold Sp.rdp Sp.rdh
 refine List.map_congr_left fun i hi=> ?_
 rw[if_pos (by simpa using hi)]
theorem set_map(f:Nat->Int)(n a:Nat)(v:Int):((List.range n).map f).set a v=(List.range n).map fun i=>if i=a then v else f i:=by
 apply List.ext_getElem
 ·simp
 ·intro i h1 h2
  simp only[List.getElem_set,List.getElem_map,List.getElem_range]
  by_cases h:a=i
  ·subst h;simp
  ·rw[if_neg h,if_neg (fun e=>h e.symm)]
theorem rdp_set(w:List Int)(k n:Nat):(Sp.rdp w k n).set n (Sp.byt w k n)=Sp.rdp w k (n+1):=by
 unfold Sp.rdp
 rw[set_map]
 refine List.map_congr_left fun i _=> ?_
 by_cases h:i=n
 ·subst h;rw[if_pos rfl,if_pos (by omega)]
 ·rw[if_neg h]
  by_cases h2:i<n
  ·rw[if_pos h2,if_pos (by omega)]
  ·rw[if_neg h2,if_neg (by omega)]
theorem byt_at(w:List Int)(k j r:Nat)(hr:r<4):Sp.byt w k (4*j+r)=wrap .u8 (Int.fdiv (w.getD (1+8*k+j) 0) (2^(24-8*r))):=by
 unfold Sp.byt
 rw[show(4*j+r)/4=j by omega,show(4*j+r)%4=r by omega]
theorem fdiv_one(x:Int):Int.fdiv x (2^0)=x:=by simp
theorem rd_inner(w:List Int)(hw:w.length=553)(k:Nat)(hk:k<69)(p2 p4:Int)(p5 p6:List (List Int))(p7:Int)(p8 p9:List (List Int)):L_81_1 4611686018427387904 w k p2 0 p4 p5 p6 p7 p8 p9 (replicate 32 0)=some (.e0 w k p2 p4 p5 p6 p7 p8 p9 (Sp.rdh w k)):=by
 have:=run0 (fun m i s=>L_81_1 m w k p2 i p4 p5 p6 p7 p8 p9 s) (n:=8) (fun j=>Sp.rdp w k (4*j)) (r:=some (.e0 w k p2 p4 p5 p6 p7 p8 p9 (Sp.rdh w k))) (by decide) (fun m j hj=>by
  show L_81_1 (m+1) w k p2 (j:Int) p4 p5 p6 p7 p8 p9 (Sp.rdp w k (4*j))=_
  have e0:wrap .i64 (4*(j:Int))=4*(j:Int):=wi64 (by omega) (by omega)
  have e1:wrap .i64 (wrap .i64 (1+wrap .i64 (8*(k:Int)))+(j:Int))=((1+8*k+j:Nat):Int):=by
   rw[wi64 (n:=8*(k:Int)) (by omega) (by omega),wi64 (n:=1+8*(k:Int)) (by omega) (by omega),wi64 (by omega) (by omega)];omega
  have e2:toNat (4*(j:Int))=4*j:=by omega
  rw[L_81_1,S_81_1,cond_dtt (by omega),e0,e1,e2,Int.toNat_natCast,gd_sl3 (by omega) (by omega) (by omega),gd_inB (by omega) (by omega),gd_inB (by omega) (by omega),gd_inB (by omega) (by omega),gd_inB (by omega) (by omega),gd_inB (by omega) (by omega),Bool.and_true,Bool.and_true,Bool.and_true,Bool.and_true,gd_dec (by omega),gd_dec (by omega),gd_dec (by omega),gd_dec (by omega),wi64 (n:=(j:Int)+1) (by omega) (by omega)]
  have b0:=byt_at w k j 0 (by decide)
  have b1:=byt_at w k j 1 (by decide)
  have b2:=byt_at w k j 2 (by decide)
  have b3:=byt_at w k j 3 (by decide)
  rw[show(24-8*3:Nat)=0 from rfl,fdiv_one]at b3
  have f0:(16777216:Int)=2^(24-8*0):=by decide
  have f1:(65536:Int)=2^(24-8*1):=by decide
  have f2:(256:Int)=2^(24-8*2):=by decide
  have s0:(Sp.rdp w k (4*j)).set (4*j+0) (Sp.byt w k (4*j+0))=Sp.rdp w k (4*j+1):=rdp_set w k (4*j)
  have s1:(Sp.rdp w k (4*j+1)).set (4*j+1) (Sp.byt w k (4*j+1))=Sp.rdp w k (4*j+2):=rdp_set w k (4*j+1)
  have s2:(Sp.rdp w k (4*j+2)).set (4*j+2) (Sp.byt w k (4*j+2))=Sp.rdp w k (4*j+3):=rdp_set w k (4*j+2)
  have s3:(Sp.rdp w k (4*j+3)).set (4*j+3) (Sp.byt w k (4*j+3))=Sp.rdp w k (4*(j+1)):=rdp_set w k (4*j+3)
  rw[f0,f1,f2,<-b0,<-b1,<-b2,<-b3,s0,s1,s2,s3]
  rfl) (fun m=>by
  show L_81_1 (m+1) w k p2 8 p4 p5 p6 p7 p8 p9 (Sp.rdp w k 32)=_
  rw[L_81_1,S_81_1,cond_dff (by decide),rdp_full])
 rw[<-rdp_zero w k]
 exact this
theorem rrd_inner(w:List Int)(hw:w.length=553)(k:Nat)(hk:k<69)(p3:Int)(p4 p5:List (List Int))(p6:Int)(p7 p8:List (List Int)):L_59_1 4611686018427387904 w k 0 p3 p4 p5 p6 p7 p8 (replicate 32 0)=some (.e0 w k p3 p4 p5 p6 p7 p8 (Sp.rdh w k)):=by
 have:=run0 (fun m i s=>L_59_1 m w k i p3 p4 p5 p6 p7 p8 s) (n:=32) (fun j=>Sp.rdp w k j) (r:=some (.e0 w k p3 p4 p5 p6 p7 p8 (Sp.rdh w k))) (by decide) (fun m j hj=>by
  show L_59_1 (m+1) w k (j:Int) p3 p4 p5 p6 p7 p8 (Sp.rdp w k j)=_
  have d0:Int.tdiv (j:Int) 4=((j/4:Nat):Int):=(Int.ofNat_tdiv j 4).symm
  have d1:Int.tmod (j:Int) 4=((j%4:Nat):Int):=(Int.ofNat_tmod j 4).symm
  have e1:wrap .i64 (wrap .i64 (1+wrap .i64 (8*(k:Int)))+wrap .i64 ((j/4:Nat):Int))=((1+8*k+j/4:Nat):Int):=by
   rw[wi64 (n:=8*(k:Int)) (by omega) (by omega),wi64 (n:=1+8*(k:Int)) (by omega) (by omega),wi64 (n:=((j/4:Nat):Int)) (by omega) (by omega),wi64 (by omega) (by omega)];omega
  have e2:wrap .u64 (wrap .i64 (24-wrap .i64 (((j%4:Nat):Int)*8)))=((24-8*(j%4):Nat):Int):=by
   rw[wi64 (n:=((j%4:Nat):Int)*8) (by omega) (by omega),wi64 (by omega) (by omega),wu64 (by omega) (by omega)];omega
  rw[L_59_1,S_59_1,cond_dtt (by omega),d0,d1,e1,e2,Int.toNat_natCast,Int.toNat_natCast,Int.toNat_natCast,gd_inB (by omega) (by omega),gd_dec (by omega),gd_inB (by omega) (by omega),Bool.and_true,gd_dec (by omega),wi64 (n:=(j:Int)+1) (by omega) (by omega),nmin_l (by omega)]
  rw[show wrap .u8 (Int.fdiv (w.getD (1+8*k+j/4) 0) (2^(24-8*(j%4))))=Sp.byt w k j from rfl,rdp_set]
  rfl) (fun m=>by
  show L_59_1 (m+1) w k 32 p3 p4 p5 p6 p7 p8 (Sp.rdp w k 32)=_
  rw[L_59_1,S_59_1,cond_dff (by decide),rdp_full])
 rw[<-rdp_zero w k]
 exact this
theorem rdC_len(w:List Int)(n:Nat):(Sp.rdC w n).length=min n 67:=by simp[Sp.rdC]
theorem rdP_len(w:List Int)(n:Nat):(Sp.rdP w n).length=n-67:=by simp[Sp.rdP]
theorem rd_succ(w:List Int)(k:Nat):(k<67->Sp.rdC w (k+1)=Sp.rdC w k++[Sp.rdh w k]/\Sp.rdP w (k+1)=Sp.rdP w k)/\(67<=k->Sp.rdC w (k+1)=Sp.rdC w k/\Sp.rdP w (k+1)=Sp.rdP w k++[Sp.rdh w k]):=by
 refine⟨fun h=> ?_,fun h=> ?_⟩
 ·unfold Sp.rdC Sp.rdP
  rw[Nat.min_eq_left (by omega),Nat.min_eq_left (by omega),show k+1-67=0 by omega,show k-67=0 by omega,List.range_succ,List.map_append]
  exact⟨rfl,rfl⟩
 ·unfold Sp.rdC Sp.rdP
  rw[Nat.min_eq_right (by omega),Nat.min_eq_right (by omega),show k+1-67=(k-67)+1 by omega,List.range_succ (n:=k-67),List.map_append]
  refine⟨rfl,?_⟩
  simp only[List.map_cons,List.map_nil,show 67+(k-67)=k by omega]
theorem rd_outer(w:List Int)(hw:w.length=553)(x:Int):L_81_0 4611686018427387904 w 0 0 [] [] x [] []=some (.e0 0 [] [] x (Sp.rdC w 69) (Sp.rdP w 69)):=by
 have:=run0 (fun m i(s:List (List Int)×List (List Int))=>L_81_0 m w i 0 [] [] x s.1 s.2) (n:=69) (fun j=>(Sp.rdC w j,Sp.rdP w j)) (r:=some (.e0 0 [] [] x (Sp.rdC w 69) (Sp.rdP w 69))) (by decide) (fun m j hj=>by
  show L_81_0 (m+1) w (j:Int) 0 [] [] x (Sp.rdC w j) (Sp.rdP w j)=L_81_0 m w ((j+1:Nat):Int) 0 [] [] x (Sp.rdC w (j+1)) (Sp.rdP w (j+1))
  have l1:=rdC_len w j
  have l2:=rdP_len w j
  rw[L_81_0,S_81_0,cond_dtt (by omega),rd_inner w hw j hj]
  simp only[B_81_1]
  rw[wi64 (by omega) (by omega)]
  by_cases h:j<67
  ·rw[cond_dtt (by omega),gd_room (by omega) (by omega),((rd_succ w j).1 h).1,((rd_succ w j).1 h).2];rfl
  ·rw[cond_dff (by omega),gd_room (by omega) (by omega),((rd_succ w j).2 (by omega)).1,((rd_succ w j).2 (by omega)).2];rfl) (fun m=>by
  show L_81_0 (m+1) w 69 0 [] [] x (Sp.rdC w 69) (Sp.rdP w 69)=_
  rw[L_81_0,S_81_0,cond_dff (by decide)])
 exact this
theorem rrd_outer(w:List Int)(hw:w.length=553)(x:Int):L_59_0 4611686018427387904 w 0 0 [] [] x [] []=some (.e0 0 [] [] x (Sp.rdC w 69) (Sp.rdP w 69)):=by
 have:=run0 (fun m i(s:List (List Int)×List (List Int))=>L_59_0 m w i 0 [] [] x s.1 s.2) (n:=69) (fun j=>(Sp.rdC w j,Sp.rdP w j)) (r:=some (.e0 0 [] [] x (Sp.rdC w 69) (Sp.rdP w 69))) (by decide) (fun m j hj=>by
  show L_59_0 (m+1) w (j:Int) 0 [] [] x (Sp.rdC w j) (Sp.rdP w j)=L_59_0 m w ((j+1:Nat):Int) 0 [] [] x (Sp.rdC w (j+1)) (Sp.rdP w (j+1))
  have l1:=rdC_len w j
  have l2:=rdP_len w j
  rw[L_59_0,S_59_0,cond_dtt (by omega),rrd_inner w hw j hj]
  simp only[B_59_1]
  rw[wi64 (by omega) (by omega)]
  by_cases h:j<67
  ·rw[cond_dtt (by omega),gd_room (by omega) (by omega),((rd_succ w j).1 h).1,((rd_succ w j).1 h).2];rfl
  ·rw[cond_dff (by omega),gd_room (by omega) (by omega),((rd_succ w j).2 (by omega)).1,((rd_succ w j).2 (by omega)).2];rfl) (fun m=>by
  show L_59_0 (m+1) w 69 0 [] [] x (Sp.rdC w 69) (Sp.rdP w 69)=_
  rw[L_59_0,S_59_0,cond_dff (by decide)])
 exact this
theorem read_ok(w:List Int):F_81 w=some (if Sp.okw w=true then(Sp.rd w,0,())else((0,[],[],()),3,())):=by
 unfold F_81 Sp.okw
 by_cases h1:w.length=553
 ·rw[cond_nff (by omega),decide_eq_true h1,gd_inB (by omega) (by omega)]
  by_cases h2:w.getD 0 0<4
  ·rw[cond_dff (by omega),decide_eq_true h2,gd_inB (by omega) (by omega),rd_outer w h1]
   rfl
  ·rw[cond_dtt (by omega),decide_eq_false h2];rfl
 ·rw[cond_ntt (by omega),decide_eq_false h1];rfl
theorem rread_ok(w:List Int):F_59 w=some (if Sp.okw w=true then(Sp.rd w,true,())else((0,[],[],()),false,())):=by
 unfold F_59 Sp.okw
 by_cases h1:w.length=553
 ·rw[cond_nff (by omega),decide_eq_true h1,gd_inB (by omega) (by omega)]
  by_cases h2:w.getD 0 0<4
  ·rw[cond_dff (by omega),decide_eq_true h2,gd_inB (by omega) (by omega),rrd_outer w h1]
   rfl
  ·rw[cond_dtt (by omega),decide_eq_false h2];rfl
 ·rw[cond_ntt (by omega),decide_eq_false h1];rfl
set_option maxRecDepth 100000
set_option maxHeartbeats 4000000
abbrev HdT:=(Int×Int×List Int×(Int×List (List Int)×List (List Int)×Unit)×Unit)×Bool×Unit
structure HdO(n:Nat)(v:HdT):Prop where
 v0:1<=v.1.1
 v1:v.1.1<=2147483647
 s0:1<=v.1.2.1
 s1:v.1.2.1<=(n:Int)-564
 b:bytes v.1.2.2.1
abbrev hdF:HdT:=((0,0,replicate 32 0,(0,[],[],()),()),false,())
theorem hdF_o{n:Nat}(h:hdF.2.1=true):HdO n hdF:=Bool.noConfusion h
theorem over_b{x y:List Int}{n:Nat}(hx:bytes x)(hy:bytes y):bytes (over x n y):=by
 intro z hz
 unfold over at hz
 rcases List.mem_append.1 hz with h|h
 ·rcases List.mem_append.1 h with h|h
  ·exact hx z (List.mem_of_mem_take h)
  ·exact hy z h
 ·exact hx z (List.mem_of_mem_drop h)
theorem head_ok(w:List Int)(h0:576<=w.length)(h1:w.length<=2048):∃v,F_47 w=some v/\(v.2.1=true->HdO w.length v):=by
 have t1:(take 1 (drop 1 w)).length=1:=by rw[List.length_take,List.length_drop];omega
 have t2:(take 1 (drop 2 w)).length=1:=by rw[List.length_take,List.length_drop];omega
 obtain⟨o,hs,hl,hb⟩:=spr_ok (take 8 (drop 3 w)) (by rw[List.length_take];omega)
 have hs:=pv_44 _ hs
 have hr:=pv_81 _ (read_ok (take 553 (drop 11 w)))
 unfold F_47
 rw[gd_sl3 (by omega) (by omega) (by omega),gd_dec (by omega),gd_inB (by omega) (by rw[t1];decide),gd_dec (by omega),gd_inB (by omega) (by rw[t2];decide),gd_dec (by omega),hs.1,hs.2,gd_tt,gd_sl3 (by omega) (by omega) (by omega),hr.1,gd_tt,wi64 (n:=(w.length:Int)-564) (by omega) (by omega)]
 generalize v_81 (take 553 (drop 11 w))=r
 generalize wrap .i64 (getD (take 1 (drop 1 w)) 0 0)=ver
 generalize wrap .i64 (getD (take 1 (drop 2 w)) 0 0)=sz
 by_cases e:r.2.1=0
 rotate_left
 ·exact⟨hdF,by rw[cond_ntt e],hdF_o⟩
 rw[cond_nff e]
 by_cases e1:ver<1
 ·exact⟨hdF,by rw[cond_dtt e1],hdF_o⟩
 rw[cond_dff e1]
 by_cases e2:ver>2147483647
 ·exact⟨hdF,by rw[cond_dtt e2],hdF_o⟩
 rw[cond_dff e2]
 by_cases e3:sz<1
 ·exact⟨hdF,by rw[cond_dtt e3],hdF_o⟩
 rw[cond_dff e3]
 by_cases e4:sz>(w.length:Int)-564
 ·exact⟨hdF,by rw[cond_dtt e4],hdF_o⟩
 rw[cond_dff e4]
 refine⟨_,rfl,fun _=>⟨by show 1<=ver;omega,by show ver<=2147483647;omega,by show 1<=sz;omega,by show sz<=_;omega,?_⟩⟩
 refine over_b ?_ ?_
 ·intro x hx;rw[List.eq_of_mem_replicate hx];decide
 ·exact fun x hx=>hb x (List.mem_of_mem_take hx)
theorem hdr_ok{a:BayT}(h:BV a)(hb:Sp.bvb a=true)(k:Nat)(hk:k<2):∃v,F_14 a k=some v/\(v.2.1=true->HdO (Sp.hlf a) v):=by
 obtain⟨v,hv,ho⟩:=head_ok (Sp.wds a k) (by rw[wds_len h k hk];exact h.h0) (by rw[wds_len h k hk];exact h.h1)
 rw[wds_len h k hk]at ho
 have hv:=pv_47 _ hv
 refine⟨v,?_,ho⟩
 unfold F_14
 rw[(val_pv a).1,(val_pv a).2,gd_tt,(bank_pv k).1,(bank_pv k).2,gd_tt,(words_pv h k hk).1,(words_pv h k hk).2,gd_tt,hv.1,hv.2,gd_tt,hb,bank_nat k hk]
 rfl
theorem hdr_pv{a:BayT}(h:BV a)(hb:Sp.bvb a=true)(k:Nat)(hk:k<2):p_14 a k=true/\((v_14 a k).2.1=true->HdO (Sp.hlf a) (v_14 a k)):=by
 obtain⟨v,hv,ho⟩:=hdr_ok h hb k hk
 have:=pv_14 a k hv
 exact⟨this.1,by rw[this.2];exact ho⟩
theorem good_ok{a:BayT}(h:BV a)(hb:Sp.bvb a=true)(k:Nat)(hk:k<2):∃g:Bool,F_13 a k=some (g,())/\(g=true->(v_14 a k).2.1=true):=by
 have hh:=hdr_pv h hb k hk
 have hl:=wds_len h k hk
 have h0:=h.h0
 have h1:=h.h1
 unfold F_13
 rw[hh.1,gd_tt]
 cases e:(v_14 a k).2.1
 ·exact⟨false,rfl,id⟩
 have o:=hh.2 e
 have o1:=o.s0
 have o2:=o.s1
 rw[(words_pv h k hk).1,(words_pv h k hk).2,gd_tt]
 have c:=pv_43 _ (cat_ok (take 2 (drop 1 (Sp.wds a k))) (take (toNat (wrap .i64 (564+(v_14 a k).1.2.1))-564) (drop 564 (Sp.wds a k))) (by rw[List.length_take];omega) (by rw[List.length_take,List.length_drop];omega))
 have cl:(take 2 (drop 1 (Sp.wds a k))++take (toNat (wrap .i64 (564+(v_14 a k).1.2.1))-564) (drop 564 (Sp.wds a k))).length<=10000:=by rw[List.length_append,List.length_take,List.length_take,List.length_drop,List.length_drop];omega
 obtain⟨q,hq,ql,qb⟩:=spr_ok (take 2 (drop 1 (Sp.wds a k))++take (toNat (wrap .i64 (564+(v_14 a k).1.2.1))-564) (drop 564 (Sp.wds a k))) (by omega)
 have hq:=pv_44 _ hq
 have hs:=pv_35 _ (i_sum q (by omega))
 have hv:=pv_45 _ _ _ (verify_ok a.2.1 (v_14 a k).1.2.2.1 o.b (v_14 a k).1.2.2.2.1)
 dsimp only
 rw[gd_sl3 (by omega) (by omega) (by omega),gd_sl3 (lo:=564) (by omega) (by rw[wi64 (by omega) (by omega)];omega) (by rw[wi64 (by omega) (by omega)];omega),c.1,c.2,gd_tt,show((take 2 (drop 1 (Sp.wds a k))++take (toNat (wrap .i64 (564+(v_14 a k).1.2.1))-564) (drop 564 (Sp.wds a k))),()).1=(take 2 (drop 1 (Sp.wds a k))++take (toNat (wrap .i64 (564+(v_14 a k).1.2.1))-564) (drop 564 (Sp.wds a k)))from rfl,hq.1,hq.2,gd_tt,hs.1,hs.2,gd_tt,hv.1,hv.2,gd_tt]
 cases Ty.beq (.arr 32 (.int .u8)) (Sp.sha q) (v_14 a k).1.2.2.1
 ·exact⟨false,rfl,fun _=>rfl⟩
 ·exact⟨_,rfl,fun _=>rfl⟩
theorem good_pv{a:BayT}(h:BV a)(hb:Sp.bvb a=true)(k:Nat)(hk:k<2):p_13 a k=true/\((v_13 a k).1=true->(v_14 a k).2.1=true):=by
 obtain⟨g,hg,ho⟩:=good_ok h hb k hk
 have:=pv_13 a k hg
 exact⟨this.1,by rw[this.2];exact ho⟩
namespace Sp
noncomputable def acb(a:BayT)(k:Nat):Bool:=a.1.1.getD (k*hlf a) 0==0
noncomputable def gdb(a:BayT)(k:Nat):Bool:=(v_13 a k).1
noncomputable def vr(a:BayT)(k:Nat):Int:=(v_14 a k).1.1
noncomputable def cnd(a:BayT)(k:Nat):Bool:=acb a k&&gdb a k
noncomputable def sel(a:BayT):Int×Int×Unit:=bif cnd a 0 then(bif cnd a 1&&decide (vr a 1>vr a 0)then(1,0,())else(0,0,()))else bif cnd a 1 then(1,0,())else(0,7,())
end Sp
structure BB(a:BayT):Prop where
 v:BV a
 b:Sp.bvb a=true
theorem BB.vr1{a:BayT}(h:BB a)(k:Nat)(hk:k<2)(hg:Sp.gdb a k=true):(v_14 a k).2.1=true/\1<=Sp.vr a k:=by
 have o:=(good_pv h.v h.b k hk).2 hg
 exact⟨o,((hdr_pv h.v h.b k hk).2 o).v0⟩
theorem sel_step{a:BayT}(h:BB a)(k:Nat)(hk:k<2)(m:Nat)(b v:Int):L_17_0 (m+1) b v k a=bif decide (Sp.vr a k>v)&&Sp.cnd a k then L_17_0 m k (Sp.vr a k) ((k+1:Nat):Int) a else L_17_0 m b v ((k+1:Nat):Int) a:=by
 have e:wrap .i64 ((k:Int)+1)=((k+1:Nat):Int):=by rw[wi64 (by omega) (by omega)];push_cast;rfl
 have hg:=h.vr1 k hk
 rw[L_17_0,S_17_0,cond_dtt (by omega),(hdr_pv h.v h.b k hk).1,gd_tt,(act_pv h.v k hk).1,(act_pv h.v k hk).2,gd_tt,(good_pv h.v h.b k hk).1,gd_tt,e]
 show(bif(v_14 a k).2.1 then bif decide (Sp.vr a k>v)then bif Sp.acb a k then bif Sp.gdb a k then _ else _ else _ else _ else _)=_
 unfold Sp.cnd
 cases e1:Sp.gdb a k
 ·cases (v_14 a k).2.1<;>cases decide (Sp.vr a k>v)<;>cases Sp.acb a k<;>rfl
 ·rw[(hg e1).1]
  cases decide (Sp.vr a k>v)<;>cases Sp.acb a k<;>rfl
theorem sel_ok{a:BayT}(h:BB a):F_17 a=some (Sp.sel a):=by
 have l:∃b v,L_17_0 4611686018427387904 0 0 0 a=some (.e0 b v)/\(bif v==0 then(0,7,())else(b,0,()))=Sp.sel a:=by
  have s0:=sel_step h 0 (by decide) 4611686018427387903 0 0
  have s1:=fun b v=>sel_step h 1 (by decide) 4611686018427387902 b v
  have s2:∀b v,L_17_0 4611686018427387902 b v ((2:Nat):Int) a=some (.e0 b v):=fun b v=>by
   show L_17_0 (4611686018427387901+1) b v 2 a=_
   rw[L_17_0,S_17_0,cond_dff (by decide)]
  have g0:=h.vr1 0 (by decide)
  have g1:=h.vr1 1 (by decide)
  have k0:Sp.cnd a 0=true->1<=Sp.vr a 0:=fun e=>(g0 ((Bool.and_eq_true_iff.1 e).2)).2
  have k1:Sp.cnd a 1=true->1<=Sp.vr a 1:=fun e=>(g1 ((Bool.and_eq_true_iff.1 e).2)).2
  unfold Sp.sel
  cases c0:Sp.cnd a 0<;>cases c1:Sp.cnd a 1
  ·rw[c0,Bool.and_false,cond_f]at s0
   have s1:=s1 0 0
   rw[c1,Bool.and_false,cond_f]at s1
   exact⟨0,0,s0.trans (s1.trans (s2 ..)),rfl⟩
  ·rw[c0,Bool.and_false,cond_f]at s0
   have s1:=s1 0 0
   rw[c1,Bool.and_true,cond_dtt (by have:=k1 c1;omega)]at s1
   exact⟨1,Sp.vr a 1,s0.trans (s1.trans (s2 ..)),by rw[cond_eff (by have:=k1 c1;omega)];rfl⟩
  ·rw[c0,Bool.and_true,cond_dtt (by have:=k0 c0;omega)]at s0
   have s1:=s1 0 (Sp.vr a 0)
   rw[c1,Bool.and_false,cond_f]at s1
   exact⟨0,Sp.vr a 0,s0.trans (s1.trans (s2 ..)),by rw[cond_eff (by have:=k0 c0;omega)];rfl⟩
  ·rw[c0,Bool.and_true,cond_dtt (by have:=k0 c0;omega)]at s0
   have s1:=s1 0 (Sp.vr a 0)
   rw[c1,Bool.and_true]at s1
   by_cases e:Sp.vr a 1>Sp.vr a 0
   ·rw[cond_dtt e]at s1
    exact⟨1,Sp.vr a 1,s0.trans (s1.trans (s2 ..)),by rw[cond_eff (by have:=k1 c1;omega),decide_eq_true e];rfl⟩
   ·rw[cond_dff e]at s1
    exact⟨0,Sp.vr a 0,s0.trans (s1.trans (s2 ..)),by rw[cond_eff (by have:=k0 c0;omega),decide_eq_false e];rfl⟩
 obtain⟨b,v,hl,hr⟩:=l
 unfold F_17
 rw[(val_pv a).1,(val_pv a).2,gd_tt,h.b,<-hr,show(!(true,()).1)=false from rfl,cond_f]
 refine(congrArg (fun z=>B_17_0 z _) hl).trans ?_
 show(bif v==0 then some (0,7,())else some (b,0,()))=_
 cases v==0<;>rfl
theorem sel_pv{a:BayT}(h:BB a):p_17 a=true/\v_17 a=Sp.sel a:=pv_17 a (sel_ok h)
namespace Sp
noncomputable def sb(a:BayT):Nat:=bif cnd a 0 then(bif cnd a 1&&decide (vr a 1>vr a 0)then 1 else 0)else bif cnd a 1 then 1 else 0
noncomputable def has(a:BayT):Bool:=cnd a 0||cnd a 1
noncomputable def lst(a:BayT):Int:=bif has a then vr a (sb a)else 0
end Sp
theorem sel_eq(a:BayT):(Sp.sel a).1=(Sp.sb a:Int)/\((Sp.sel a).2.1==0)=Sp.has a:=by
 unfold Sp.sb Sp.sel Sp.has
 cases Sp.cnd a 0<;>cases Sp.cnd a 1<;>cases decide (Sp.vr a 1>Sp.vr a 0)<;>exact⟨rfl,rfl⟩
theorem cnd_sb{a:BayT}(h:Sp.has a=true):Sp.cnd a (Sp.sb a)=true:=by
 unfold Sp.has at h
 unfold Sp.sb
 cases c0:Sp.cnd a 0<;>cases c1:Sp.cnd a 1
 ·rw[c0,c1]at h;exact Bool.noConfusion h
 ·exact c1
 ·exact c0
 ·cases decide (Sp.vr a 1>Sp.vr a 0)
  ·exact c0
  ·exact c1
set_option maxRecDepth 100000
set_option maxHeartbeats 4000000
theorem rlife_pv(n:Int):p_90 n=true/\v_90 n=(decide (1<=n)&&decide (n<=1000000),()):=by
 refine pv_90 n ?_
 unfold F_90
 by_cases h:n>=1
 ·rw[cond_dtt h,decide_eq_true (p:=1<=n) h,Bool.true_and]
 ·rw[cond_dff h,decide_eq_false (p:=1<=n) h,Bool.false_and]
theorem rfv_ok(f:FlT):F_56 f=some (Sp.fv f,()):=by
 unfold F_56 Sp.fv
 by_cases h1:(f.2.1.length:Int)<1
 ·rw[cond_dtt h1,decide_eq_false (by omega)];rfl
 rw[cond_dff h1,decide_eq_true (p:=1<=f.2.1.length) (by omega),Bool.true_and]
 by_cases h2:(f.2.1.length:Int)>64
 ·rw[cond_dtt h2,decide_eq_false (by omega)];rfl
 rw[cond_dff h2,decide_eq_true (p:=f.2.1.length<=64) (by omega),Bool.true_and,wi64 (by omega) (by omega)]
 by_cases h3:(f.1.length:Int)=(f.2.1.length:Int)*64
 rotate_left
 ·rw[cond_ntt h3,decide_eq_false (p:=f.1.length=_) (by omega)];rfl
 rw[cond_nff h3,decide_eq_true (p:=f.1.length=_) (by omega),Bool.true_and,(rlife_pv f.2.2.1).1,(rlife_pv f.2.2.1).2,gd_tt]
 by_cases h4:f.2.2.1<1
 ·rw[decide_eq_false (p:=1<=f.2.2.1) (by omega)];rfl
 rw[decide_eq_true (p:=1<=f.2.2.1) (by omega),Bool.true_and,Bool.true_and]
 by_cases h5:f.2.2.1>1000000
 ·rw[decide_eq_false (p:=f.2.2.1<=1000000) (by omega)];rfl
 rw[decide_eq_true (p:=f.2.2.1<=1000000) (by omega),Bool.true_and,show(!(true,()).1)=false from rfl,cond_f]
 have hf:=find0 (fun m i=>L_56_0 m f.2.1.length i f) (n:=f.2.1.length) (Sp.wb f) (ex:=fun j=>some .e0) (e1:=some .e1) (by omega) (fun m j hj=>by
  show L_56_0 (m+1) f.2.1.length j f=bif Sp.wb f j then some .e0 else L_56_0 m f.2.1.length ((j+1:Nat):Int) f
  rw[L_56_0,S_56_0,cond_dtt (by omega),gd_inB (by omega) (by omega),gd_inB (by omega) (by omega),Int.toNat_natCast,wi64 (by omega) (by omega)]
  unfold Sp.wb
  push_cast
  cases decide (f.2.1.getD j 0<0)<;>cases decide (f.2.1.getD j 0>f.2.2.1)<;>rfl) (fun m=>by
  show L_56_0 (m+1) f.2.1.length f.2.1.length f=_
  rw[L_56_0,S_56_0,cond_dff (by omega)])
 have e1:L_56_0 4611686018427387904 f.2.1.length 0 f=_:=hf
 rw[e1]
 cases fnd (Sp.wb f) f.2.1.length 0<;>rfl
theorem rsize_ok(n:Nat)(hn:n<1000000):F_54 n=some (Sp.cntB n,()):=by
 unfold F_54 Sp.cntB
 rw[Int.tmod_eq_emod_of_nonneg (by omega),show((n:Int)%2==0)=decide (n%2=0)from by rw[Bool.eq_iff_iff,beq_iff_eq,decide_eq_true_iff];omega]
 by_cases h:18<=n
 ·rw[cond_dtt (by omega),decide_eq_true h,Bool.true_and]
  by_cases h:n<=64
  ·rw[cond_dtt (by omega),decide_eq_true h,Bool.and_true]
  ·rw[cond_dff (by omega),decide_eq_false h,Bool.and_false]
 ·rw[cond_dff (by omega),decide_eq_false h,Bool.false_and,Bool.and_false]
theorem rval_pv(a:BayT):p_25 a=true/\v_25 a=(Sp.bvb a,()):=by
 refine pv_25 a ?_
 have hv:=pv_56 _ (rfv_ok a.1)
 unfold F_25 Sp.bvb
 rw[hv.1,hv.2,gd_tt]
 cases h:Sp.fv a.1
 ·rfl
 ·have hv:=fv_iff.1 h
  have hc:=pv_54 _ (rsize_ok a.1.2.1.length (by omega))
  rw[cond_t,hc.1,hc.2,gd_tt,Bool.true_and]
theorem ridx_pv(k:Int):p_57 k=true/\v_57 k=(k==0||k==1,()):=by
 refine pv_57 k ?_
 unfold F_57
 cases k==0<;>rfl
theorem rwd_ok{a:BayT}(h:BV a)(k:Nat)(hk:k<2):F_48 a k=some (Sp.wds a k,()):=by
 have hl:=off_lt h k hk
 have e:wrap .i64 ((k:Int)+1)=((k+1:Nat):Int):=by rw[wi64 (by omega) (by omega)];push_cast;rfl
 unfold F_48 Sp.wds
 rw[half_eq h,e,off_eq h k (by omega),off_eq h (k+1) (by omega),gd_sl3 (by omega) (by rw[Nat.add_mul];omega) (by rw[Nat.add_mul];omega),Int.toNat_natCast,Int.toNat_natCast,show(k+1)*Sp.hlf a-k*Sp.hlf a=Sp.hlf a by rw[Nat.add_mul];omega]
theorem rwd_pv{a:BayT}(h:BV a)(k:Nat)(hk:k<2):p_48 a k=true/\v_48 a k=(Sp.wds a k,()):=pv_48 a k (rwd_ok h k hk)
theorem hash_in(w:List Int)(i:Nat)(hi:i<w.length)(hw:w.length=8)(p3 A C:List Int)(c0 c1 c2 c3:Int)(hA:A.length=4*i)(hC:C.length=28-4*i)(m:Nat):L_58_1 (m+5) w i 0 p3 (A++c0::c1::c2::c3::C)=some (.e0 w i p3 (A++Sp.w4 (w.getD i 0)++C)):=by
 have hl:∀x0 x1 x2 x3:Int,(A++x0::x1::x2::x3::C).length=32:=fun x0 x1 x2 x3=>by simp[List.length_append];omega
 have e:∀k:Nat,k<4->wrap .i64 (wrap .i64 (4*(i:Int))+(k:Int))=((4*i+k:Nat):Int):=fun k hk=>by
  rw[wi64 (n:=4*(i:Int)) (by omega) (by omega),wi64 (by omega) (by omega)];push_cast;rfl
 have s:∀(k:Nat)(hk:k<4)(m:Nat)(l:List Int),L_58_1 (m+1) w i k p3 l=L_58_1 m w i ((k+1:Nat):Int) p3 (l.set (4*i+k) (wrap .u8 (Int.fdiv (w.getD i 0) (2^(24-8*k))))):=fun k hk m l=>by
  rw[L_58_1,S_58_1,cond_dtt (by omega),gd_inB (by omega) (by omega),wi64 (n:=8*(k:Int)) (by omega) (by omega),wi64 (n:=24-8*(k:Int)) (by omega) (by omega),gd_dec (by omega),e k hk,gd_inB (by omega) (by omega),Int.toNat_natCast,Int.toNat_natCast,gd_and,gd_dec (by omega),gd_tt,show(24-8*(k:Int)).toNat=24-8*k by omega,nmin_l (by omega),wi64 (n:=(k:Int)+1) (by omega) (by omega)]
  push_cast
  rfl
 have s0:=s 0 (by decide)
 have s1:=s 1 (by decide)
 have s2:=s 2 (by decide)
 have s3:=s 3 (by decide)
 refine(s0 (m+4) _).trans ((s1 (m+3) _).trans ((s2 (m+2) _).trans ((s3 (m+1) _).trans ?_)))
 show L_58_1 (m+1) w i 4 p3 _=_
 rw[L_58_1,S_58_1,cond_dff (by decide)]
 congr 2
 rw[<-hA]
 simp only[List.set_append,Nat.lt_irrefl,Nat.add_sub_cancel_left,if_false,show ∀k,¬(A.length+k<A.length)from fun k=>by omega,List.set_cons_zero,List.set_cons_succ]
 rw[List.append_assoc]
 unfold Sp.w4
 simp[fdiv_one]
theorem hash_out(w:List Int)(hw:w.length=8):∀(d m i:Nat)(p2 A C:List Int),i+d=8->d<m->A.length=4*i->A=Sp.spr (w.take i)->C.length=32-4*i->∃x,L_58_0 m w i p2 (A++C)=some (.e0 x (Sp.spr w)):=by
 intro d
 induction d with
 |zero=>
  intro m i p2 A C hi hm hA he hC
  obtain⟨m,rfl⟩:∃k,m=k+1:=⟨m-1,by omega⟩
  refine⟨p2,?_⟩
  rw[L_58_0,S_58_0,cond_dff (by omega),List.eq_nil_of_length_eq_zero (l:=C) (by omega),List.append_nil,he,List.take_of_length_le (by omega)]
 |succ d ih=>
  intro m i p2 A C hi hm hA he hC
  obtain⟨m,rfl⟩:∃k,m=k+1:=⟨m-1,by omega⟩
  obtain⟨c0,c1,c2,c3,C,rfl⟩:∃c0 c1 c2 c3 D,C=c0::c1::c2::c3::D:=by
   match C,hC with
   |[],hC=>simp at hC;omega
   |[_],hC=>simp at hC;omega
   |[_,_],hC=>simp at hC;omega
   |[_,_,_],hC=>simp at hC;omega
   |c0::c1::c2::c3::D,_=>exact⟨c0,c1,c2,c3,D,rfl⟩
  rw[L_58_0,S_58_0,cond_dtt (by omega)]
  have hin:=hash_in w i (by omega) hw p2 A C c0 c1 c2 c3 hA (by simp at hC;omega) 4611686018427387899
  obtain⟨x,hx⟩:=ih m (i+1) p2 (A++Sp.w4 (w.getD i 0)) C (by omega) (by omega) (by rw[List.length_append,hA];show _+4=_;omega) (by rw[spr_succ w i (by omega),he]) (by simp at hC;omega)
  refine⟨x,?_⟩
  refine(congrArg (fun z=>B_58_1 z _) hin).trans ?_
  unfold B_58_1
  dsimp only
  rw[wi64 (by omega) (by omega)]
  exact_mod_cast hx
theorem rhash_ok(w:List Int)(hw:w.length=8):F_58 w=some (Sp.spr w,()):=by
 obtain⟨x,hx⟩:=hash_out w hw 8 4611686018427387904 0 (replicate 32 0) [] (replicate 32 0) (by omega) (by omega) rfl rfl rfl
 unfold F_58
 exact(congrArg (fun z=>B_58_0 z _) hx).trans rfl
theorem tk1_get(w:List Int)(n:Nat):(take 1 (drop n w)).getD 0 0=w.getD n 0:=by
 simp only[List.getD_eq_getElem?_getD,List.getElem?_take,List.getElem?_drop]
 rfl
namespace Sp
noncomputable def hx(w:List Int):HdT:=bif okw (take 553 (drop 11 w))then bif decide (wrap .i64 (w.getD 1 0)<1)then hdF else bif decide (wrap .i64 (w.getD 1 0)>2147483647)then hdF else bif decide (wrap .i64 (w.getD 2 0)<1)then hdF else bif decide (wrap .i64 (w.getD 2 0)>(w.length:Int)-564)then hdF else((wrap .i64 (w.getD 1 0),wrap .i64 (w.getD 2 0),spr (take 8 (drop 3 w)),rd (take 553 (drop 11 w)),()),true,())else hdF
end Sp
theorem head_eq(w:List Int)(h0:576<=w.length)(h1:w.length<=2048):F_47 w=some (Sp.hx w):=by
 have t1:(take 1 (drop 1 w)).length=1:=by rw[List.length_take,List.length_drop];omega
 have t2:(take 1 (drop 2 w)).length=1:=by rw[List.length_take,List.length_drop];omega
 have t8:(take 8 (drop 3 w)).length=8:=by rw[List.length_take,List.length_drop];omega
 have hs:=pv_44 _ (spr_eq (take 8 (drop 3 w)) (by omega))
 have hr:=pv_81 _ (read_ok (take 553 (drop 11 w)))
 have ho:over (replicate 32 0) 0 (take 32 (Sp.spr (take 8 (drop 3 w))))=Sp.spr (take 8 (drop 3 w)):=by
  have l:=spr_len (take 8 (drop 3 w))
  rw[t8]at l
  rw[List.take_of_length_le (by omega)]
  unfold over
  rw[l]
  simp
 unfold F_47 Sp.hx
 rw[gd_sl3 (by omega) (by omega) (by omega),gd_dec (by omega),gd_inB (by omega) (by rw[t1];decide),gd_dec (by omega),gd_inB (by omega) (by rw[t2];decide),gd_dec (by omega),hs.1,hs.2,gd_tt,gd_sl3 (by omega) (by omega) (by omega),hr.1,hr.2,gd_tt,wi64 (n:=(w.length:Int)-564) (by omega) (by omega),tk1_get,tk1_get]
 dsimp only
 rw[ho]
 generalize wrap .i64 (w.getD 1 0)=ver
 generalize wrap .i64 (w.getD 2 0)=sz
 generalize Sp.spr (take 8 (drop 3 w))=s8
 cases e:Sp.okw (take 553 (drop 11 w))
 ·rfl
 rw[if_pos rfl]
 show(bif decide (ver<1)then _ else _)=_
 cases decide (ver<1)<;>cases decide (ver>2147483647)<;>cases decide (sz<1)<;>cases decide (sz>(w.length:Int)-564)<;>rfl
theorem hdr_eq{a:BayT}(h:BB a)(k:Nat)(hk:k<2):F_14 a k=some (Sp.hx (Sp.wds a k)):=by
 have hv:=pv_47 _ (head_eq (Sp.wds a k) (by rw[wds_len h.v k hk];exact h.v.h0) (by rw[wds_len h.v k hk];exact h.v.h1))
 unfold F_14
 rw[(val_pv a).1,(val_pv a).2,gd_tt,(bank_pv k).1,(bank_pv k).2,gd_tt,(words_pv h.v k hk).1,(words_pv h.v k hk).2,gd_tt,hv.1,hv.2,gd_tt,h.b,bank_nat k hk]
 rfl
theorem rhdr_eq{a:BayT}(h:BB a)(k:Nat)(hk:k<2):F_26 a k=some (Sp.hx (Sp.wds a k)):=by
 have wl:=wds_len h.v k hk
 have h0:=h.v.h0
 have h1:=h.v.h1
 have t8:(take 8 (drop 3 (Sp.wds a k))).length=8:=by rw[List.length_take,List.length_drop];omega
 have hh:=pv_58 _ (rhash_ok _ t8)
 have hr:=pv_59 _ (rread_ok (take 553 (drop 11 (Sp.wds a k))))
 unfold F_26
 rw[(rval_pv a).1,(rval_pv a).2,gd_tt,(ridx_pv k).1,(ridx_pv k).2,gd_tt,(rwd_pv h.v k hk).1,(rwd_pv h.v k hk).2,gd_tt,h.b,bank_nat k hk,show(!(true,()).1)=false from rfl,cond_f,cond_f]
 dsimp only
 rw[gd_inB (by omega) (by omega),gd_inB (by omega) (by omega),gd_sl3 (by omega) (by omega) (by omega),hh.1,hh.2,gd_tt,gd_sl3 (by omega) (by omega) (by omega),hr.1,hr.2,gd_tt,wi64 (n:=((Sp.wds a k).length:Int)-564) (by omega) (by omega)]
 unfold Sp.hx
 dsimp only
 rw[show decide (wrap .i64 ((Sp.wds a k).getD 1 0)>=2147483648)=decide (wrap .i64 ((Sp.wds a k).getD 1 0)>2147483647)from decide_eq_decide.2 (by omega)]
 cases e:Sp.okw (take 553 (drop 11 (Sp.wds a k)))
 ·cases decide (wrap .i64 ((Sp.wds a k).getD 1 0)<1)<;>cases decide (wrap .i64 ((Sp.wds a k).getD 1 0)>2147483647)<;>cases decide (wrap .i64 ((Sp.wds a k).getD 2 0)<1)<;>cases decide (wrap .i64 ((Sp.wds a k).getD 2 0)>((Sp.wds a k).length:Int)-564)<;>rfl
 ·cases decide (wrap .i64 ((Sp.wds a k).getD 1 0)<1)<;>cases decide (wrap .i64 ((Sp.wds a k).getD 1 0)>2147483647)<;>cases decide (wrap .i64 ((Sp.wds a k).getD 2 0)<1)<;>cases decide (wrap .i64 ((Sp.wds a k).getD 2 0)>((Sp.wds a k).length:Int)-564)<;>rfl
set_option maxRecDepth 100000
set_option maxHeartbeats 4000000
namespace Sp
noncomputable def wb1(x:Int)(k:Nat):Int:=wrap .u8 (Int.fdiv x (2^(24-8*k)))
end Sp
theorem w4_eq(x:Int):Sp.w4 x=[Sp.wb1 x 0,Sp.wb1 x 1,Sp.wb1 x 2,Sp.wb1 x 3]:=by
 unfold Sp.w4 Sp.wb1
 simp[fdiv_one]
theorem sh_eq(k:Nat)(hk:k<4):wrap .i64 (24-wrap .i64 (8*(k:Int)))=((24-8*k:Nat):Int):=by
 rw[wi64 (n:=8*(k:Int)) (by omega) (by omega),wi64 (by omega) (by omega)]
 omega
theorem s_in0(m i:Nat)(p2 l o:List Int)(hi:i<l.length)(ho:o.length<1000000):L_49_82_1_0 (m+5) i 0 p2 l o=some (.e0 i p2 l (o++Sp.w4 (l.getD i 0))):=by
 have s:∀(k:Nat)(hk:k<4)(m:Nat)(q:List Int),q.length<1000010->L_49_82_1_0 (m+1) i k p2 l q=L_49_82_1_0 m i ((k+1:Nat):Int) p2 l (q++[Sp.wb1 (l.getD i 0) k]):=fun k hk m q hq=>by
  rw[L_49_82_1_0,S_49_82_1_0,cond_dtt (by omega),gd_inB (by omega) (by omega),Int.toNat_natCast,gd_and,gd_dec (by omega),gd_tt,sh_eq k hk,gd_dec (by omega),gd_room (by omega) (by omega),Int.toNat_natCast,nmin_l (by omega),wi64 (n:=(k:Int)+1) (by omega) (by omega)]
  push_cast
  rfl
 refine(s 0 (by decide) (m+4) _ (by omega)).trans ((s 1 (by decide) (m+3) _ (by simp;omega)).trans ((s 2 (by decide) (m+2) _ (by simp;omega)).trans ((s 3 (by decide) (m+1) _ (by simp;omega)).trans ?_)))
 show L_49_82_1_0 (m+1) i 4 p2 l _=_
 rw[L_49_82_1_0,S_49_82_1_0,cond_dff (by decide),w4_eq]
 simp
theorem s_in2(m:Nat)(l:List Int)(i k:Nat)(p3 p4 o:List Int)(hi:i<l.length)(hk:k<=4)(ho:o.length<1000000):L_49_82_1_2 (m+5) l i k p3 p4 o=some (.e0 l i p3 p4 (o++(Sp.w4 (l.getD i 0)).drop k)):=by
 have s:∀(k:Nat)(hk:k<4)(m:Nat)(q:List Int),q.length<1000010->L_49_82_1_2 (m+1) l i k p3 p4 q=L_49_82_1_2 m l i ((k+1:Nat):Int) p3 p4 (q++[Sp.wb1 (l.getD i 0) k]):=fun k hk m q hq=>by
  rw[L_49_82_1_2,S_49_82_1_2,cond_dtt (by omega),gd_inB (by omega) (by omega),Int.toNat_natCast,sh_eq k hk,gd_dec (by omega),gd_room (by omega) (by omega),Int.toNat_natCast,nmin_l (by omega),wi64 (n:=(k:Int)+1) (by omega) (by omega)]
  push_cast
  rfl
 have e:∀(m:Nat)(q:List Int),L_49_82_1_2 (m+1) l i ((4:Nat):Int) p3 p4 q=some (.e0 l i p3 p4 q):=fun m q=>by
  rw[L_49_82_1_2,S_49_82_1_2,cond_dff (by decide)]
 rw[w4_eq]
 match k,hk with
 |0,_=>rw[s 0 (by decide) (m+4) _ (by omega),s 1 (by decide) (m+3) _ (by simp;omega),s 2 (by decide) (m+2) _ (by simp;omega),s 3 (by decide) (m+1) _ (by simp;omega),e];simp
 |1,_=>rw[s 1 (by decide) (m+4) _ (by omega),s 2 (by decide) (m+3) _ (by simp;omega),s 3 (by decide) (m+2) _ (by simp;omega),e];simp
 |2,_=>rw[s 2 (by decide) (m+4) _ (by omega),s 3 (by decide) (m+3) _ (by simp;omega),e];simp
 |3,_=>rw[s 3 (by decide) (m+4) _ (by omega),e];simp
 |4,_=>rw[e];simp
theorem s_in1(m:Nat)(l:List Int)(i:Nat)(p3 p4 o:List Int)(hi:i<l.length)(ho:o.length<900000):L_49_82_1_1 (m+6) l i 0 p3 p4 o=some (.e1 l i p3 p4 (o++Sp.w4 (l.getD i 0))):=by
 rw[L_49_82_1_1,S_49_82_1_1,cond_dtt (by decide),gd_inB (by omega) (by omega),Int.toNat_natCast,show wrap .i64 (24-wrap .i64 (8*0))=((24-8*0:Nat):Int)from sh_eq 0 (by decide),gd_dec (by omega),gd_room (by omega) (by omega),Int.toNat_natCast,nmin_l (by omega)]
 have:=s_in2 m l i 1 p3 p4 (o++[Sp.wb1 (l.getD i 0) 0]) hi (by decide) (by simp;omega)
 refine(congrArg (fun z=>B_49_82_1_2 z _) this).trans ?_
 rw[w4_eq]
 unfold B_49_82_1_2
 simp
theorem s_out0(m:Nat)(o:List Int)(x y:Int):L_49_82_0_0 (m+3) 0 o [x,y] []=some (.e0 o [x,y] (Sp.w4 x++Sp.w4 y)):=by
 have s:∀(i:Nat)(hi:i<2)(m:Nat)(q:List Int),q.length<1000->L_49_82_0_0 (m+1) i o [x,y] q=L_49_82_0_0 m ((i+1:Nat):Int) o [x,y] (q++Sp.w4 ([x,y].getD i 0)):=fun i hi m q hq=>by
  rw[L_49_82_0_0,S_49_82_0_0,cond_dtt (by show(i:Int)<((2:Nat):Int);omega)]
  refine(congrArg (fun z=>B_49_82_1_0 z _) (s_in0 4611686018427387899 i o [x,y] q hi (by omega))).trans ?_
  unfold B_49_82_1_0
  dsimp only
  rw[wi64 (n:=(i:Int)+1) (by omega) (by omega)]
  push_cast
  rfl
 refine(s 0 (by decide) (m+2) [] (by decide)).trans ((s 1 (by decide) (m+1) _ (by show(4:Nat)<1000;decide)).trans ?_)
 show L_49_82_0_0 (m+1) 2 o [x,y] _=_
 rw[L_49_82_0_0,S_49_82_0_0,cond_dff (by show ¬(2:Int)<((2:Nat):Int);decide)]
 rfl
theorem s_out2(l p2 p3 o:List Int)(hl:l.length<100000)(ho:o.length<1000):∀(d m i:Nat),i+d=l.length->d<m->L_49_82_0_2 m l i p2 p3 (o++Sp.spr (l.take i))=some (.e0 p2 p3 (o++Sp.spr l)):=by
 intro d
 induction d with
 |zero=>
  intro m i hi hm
  obtain⟨m,rfl⟩:∃k,m=k+1:=⟨m-1,by omega⟩
  rw[L_49_82_0_2,S_49_82_0_2,cond_dff (by omega),List.take_of_length_le (by omega)]
 |succ d ih=>
  intro m i hi hm
  obtain⟨m,rfl⟩:∃k,m=k+1:=⟨m-1,by omega⟩
  have hs:=spr_len (l.take i)
  rw[List.length_take]at hs
  rw[L_49_82_0_2,S_49_82_0_2,cond_dtt (by omega)]
  refine(congrArg (fun z=>B_49_82_1_2 z _) (s_in2 4611686018427387899 l i 0 p2 p3 _ (by omega) (by decide) (by rw[List.length_append];omega))).trans ?_
  unfold B_49_82_1_2
  dsimp only
  have:=ih m (i+1) (by omega) (by omega)
  rw[spr_succ l i (by omega),<-List.append_assoc]at this
  rw[wi64 (n:=(i:Int)+1) (by omega) (by omega),List.drop_zero]
  push_cast at this
  exact this
theorem s_out1(l p2 p3 o:List Int)(hl:l.length<100000)(ho:o.length<1000):L_49_82_0_1 4611686018427387904 l 0 p2 p3 o=some (.e0 p2 p3 (o++Sp.spr l))\/L_49_82_0_1 4611686018427387904 l 0 p2 p3 o=some (.e1 p2 p3 (o++Sp.spr l)):=by
 show L_49_82_0_1 (4611686018427387903+1) l 0 p2 p3 o=_\/L_49_82_0_1 (4611686018427387903+1) l 0 p2 p3 o=_
 rw[L_49_82_0_1,S_49_82_0_1]
 by_cases e:l.length=0
 ·left
  rw[cond_dff (by omega),List.eq_nil_of_length_eq_zero e]
  show some (E_49_82_0_1.e0 p2 p3 o)=some (.e0 p2 p3 (o++[]))
  rw[List.append_nil]
 ·right
  rw[cond_dtt (by omega)]
  refine(congrArg (fun z=>B_49_82_1_1 z _ _) (s_in1 4611686018427387898 l 0 p2 p3 o (by omega) (by omega))).trans ?_
  unfold B_49_82_1_1
  dsimp only
  have:=s_out2 l p2 p3 o hl ho (l.length-1) 4611686018427387903 1 (by omega) (by omega)
  rw[spr_succ l 0 (by omega)]at this
  refine(congrArg (fun z=>B_49_82_0_2 z _) this).trans ?_
  rfl
theorem rsum_ok(v:Int)(l:List Int)(hl:l.length<100000):F_49 v l=some (Sp.sha (Sp.spr ([wrap .u32 v,wrap .u32 (l.length:Int)]++l)),()):=by
 have e:Sp.spr ([wrap .u32 v,wrap .u32 (l.length:Int)]++l)=(Sp.w4 (wrap .u32 v)++Sp.w4 (wrap .u32 (l.length:Int)))++Sp.spr l:=by
  unfold Sp.spr
  rw[List.flatMap_append]
  simp[List.flatMap_cons,List.flatMap_nil]
 have hs:=pv_83 _ (r_sum ((Sp.w4 (wrap .u32 v)++Sp.w4 (wrap .u32 (l.length:Int)))++Sp.spr l) (by rw[List.length_append,spr_len];show 8+_<_;omega))
 unfold F_49
 refine(congrArg (fun z=>B_49_82_0_0 z _) (s_out0 4611686018427387901 (replicate 32 0) (wrap .u32 v) (wrap .u32 (l.length:Int)))).trans ?_
 unfold B_49_82_0_0
 dsimp only
 rw[e]
 rcases s_out1 l (replicate 32 0) [wrap .u32 v,wrap .u32 (l.length:Int)] (Sp.w4 (wrap .u32 v)++Sp.w4 (wrap .u32 (l.length:Int))) hl (by show(8:Nat)<1000;decide)with h|h
 ·rw[h]
  unfold B_49_82_0_1
  dsimp only
  rw[hs.1,hs.2,gd_tt]
 ·rw[h]
  unfold B_49_82_0_1
  dsimp only
  rw[hs.1,hs.2,gd_tt]
set_option maxRecDepth 100000
set_option maxHeartbeats 4000000
theorem u32_b{n:Int}(h:(Lit.int .u32 n).wf=true):0<=n/\n<4294967296:=by
 simp[Lit.wf,IntKind.min,IntKind.max,IntKind.signed,IntKind.bits]at h;omega
abbrev W32(a:BayT):Prop:=∀x∈a.1.1,0<=x/\x<4294967296
theorem wds_w{a:BayT}(hw:W32 a)(k i:Nat):0<=(Sp.wds a k).getD i 0/\(Sp.wds a k).getD i 0<4294967296:=by
 rw[List.getD_eq_getElem?_getD]
 cases e:(Sp.wds a k)[i]? with
 |none=>decide
 |some x=>
  have:x∈Sp.wds a k:=List.mem_of_getElem? e
  exact hw x (List.mem_of_mem_drop (List.mem_of_mem_take this))
theorem hx_ok{w:List Int}(h:(Sp.hx w).2.1=true):(Sp.hx w).1.1=wrap .i64 (w.getD 1 0)/\(Sp.hx w).1.2.1=wrap .i64 (w.getD 2 0):=by
 unfold Sp.hx at h⊢
 revert h
 cases Sp.okw (take 553 (drop 11 w))<;>cases decide (wrap .i64 (w.getD 1 0)<1)<;>cases decide (wrap .i64 (w.getD 1 0)>2147483647)<;>cases decide (wrap .i64 (w.getD 2 0)<1)<;>cases decide (wrap .i64 (w.getD 2 0)>(w.length:Int)-564)<;>first|exact fun h=>Bool.noConfusion h|exact fun _=>⟨rfl,rfl⟩
theorem v14_eq{a:BayT}(h:BB a)(k:Nat)(hk:k<2):v_14 a k=Sp.hx (Sp.wds a k):=(pv_14 a k (hdr_eq h k hk)).2
theorem rhdr_pv{a:BayT}(h:BB a)(k:Nat)(hk:k<2):p_26 a k=true/\v_26 a k=v_14 a k:=by
 rw[v14_eq h k hk]
 exact pv_26 a k (rhdr_eq h k hk)
theorem two_eq(w:List Int)(h:3<=w.length):take 2 (drop 1 w)=[w.getD 1 0,w.getD 2 0]:=by
 match w,h with
 |a::b::c::t,_=>rfl
theorem rgood_eq{a:BayT}(h:BB a)(hw:W32 a)(k:Nat)(hk:k<2):F_16 a k=F_13 a k:=by
 have hh:=hdr_pv h.v h.b k hk
 have rh:=rhdr_pv h k hk
 have hl:=wds_len h.v k hk
 have h0:=h.v.h0
 have h1:=h.v.h1
 unfold F_13 F_16
 rw[hh.1,gd_tt,rh.1,rh.2,gd_tt]
 cases e:(v_14 a k).2.1
 ·rfl
 have o:=hh.2 e
 have o1:=o.s0
 have o2:=o.s1
 have o3:=o.v0
 have o4:=o.v1
 have e':=e
 rw[v14_eq h k hk]at e'
 have q:=hx_ok e'
 rw[<-v14_eq h k hk]at q
 have w1:=wds_w hw k 1
 have w2:=wds_w hw k 2
 rw[wi64 (by omega) (by omega),wi64 (by omega) (by omega)]at q
 rw[(words_pv h.v k hk).1,(words_pv h.v k hk).2,gd_tt,(rwd_pv h.v k hk).1,(rwd_pv h.v k hk).2,gd_tt]
 have c:=pv_43 _ (cat_ok (take 2 (drop 1 (Sp.wds a k))) (take (toNat (wrap .i64 (564+(v_14 a k).1.2.1))-564) (drop 564 (Sp.wds a k))) (by rw[List.length_take];omega) (by rw[List.length_take,List.length_drop];omega))
 have ll:(take (toNat (wrap .i64 (564+(v_14 a k).1.2.1))-564) (drop 564 (Sp.wds a k))).length=((v_14 a k).1.2.1).toNat:=by rw[List.length_take,List.length_drop,wi64 (by omega) (by omega)];omega
 have cl:(take 2 (drop 1 (Sp.wds a k))++take (toNat (wrap .i64 (564+(v_14 a k).1.2.1))-564) (drop 564 (Sp.wds a k))).length<=10000:=by rw[List.length_append,List.length_take,ll];omega
 have hq:=pv_44 _ (spr_eq (take 2 (drop 1 (Sp.wds a k))++take (toNat (wrap .i64 (564+(v_14 a k).1.2.1))-564) (drop 564 (Sp.wds a k))) (by omega))
 have hs:=pv_35 _ (i_sum (Sp.spr (take 2 (drop 1 (Sp.wds a k))++take (toNat (wrap .i64 (564+(v_14 a k).1.2.1))-564) (drop 564 (Sp.wds a k)))) (by rw[spr_len];omega))
 have hv:=pv_45 _ _ _ (verify_ok a.2.1 (v_14 a k).1.2.2.1 o.b (v_14 a k).1.2.2.2.1)
 have rv:=pv_50 _ _ _ (rverify_ok a.2.1 (v_14 a k).1.2.2.1 o.b (v_14 a k).1.2.2.2.1)
 have rs:=pv_49 _ _ (rsum_ok (v_14 a k).1.1 (take (toNat (wrap .i64 (564+(v_14 a k).1.2.1))-564) (drop 564 (Sp.wds a k))) (by omega))
 have t:([wrap .u32 (v_14 a k).1.1,wrap .u32 ((take (toNat (wrap .i64 (564+(v_14 a k).1.2.1))-564) (drop 564 (Sp.wds a k))).length:Int)]:List Int)=take 2 (drop 1 (Sp.wds a k)):=by
  rw[ll,two_eq _ (by omega),<-q.1,<-q.2,wu32' (by omega) (by omega),wu32' (by omega) (by omega),Int.toNat_of_nonneg (by omega)]
 rw[t]at rs
 dsimp only
 rw[gd_sl3 (lo:=1) (hi:=3) (by omega) (by omega) (by omega),gd_sl3 (lo:=564) (by omega) (by rw[wi64 (by omega) (by omega)];omega) (by rw[wi64 (by omega) (by omega)];omega),gd_sl3 (lo:=564) (by omega) (by rw[wi64 (by omega) (by omega)];omega) (by rw[wi64 (by omega) (by omega)];omega),c.1,c.2,gd_tt]
 dsimp only
 rw[hq.1,hq.2,gd_tt,hs.1,hs.2,gd_tt,hv.1,hv.2,gd_tt,rs.1,rs.2,gd_tt,rv.1,rv.2,gd_tt]
theorem rgood_pv{a:BayT}(h:BB a)(hw:W32 a)(k:Nat)(hk:k<2):p_16 a k=true/\(v_16 a k).1=Sp.gdb a k:=by
 have e:=rgood_eq h hw k hk
 have g:=good_pv h.v h.b k hk
 unfold p_16 v_16 Sp.gdb v_13
 rw[e]
 exact⟨g.1,rfl⟩
theorem copy_pv{f:FlT}(h0:f.1.length<=1000000)(h1:f.2.1.length<=1000000):p_15 f=true/\v_15 f=(f,()):=by
 refine pv_15 f ?_
 unfold F_15
 have t0:=run0 (fun m i acc=>L_15_0 m i f (0,()) [] [] (f.2.2.1,()) acc []) (n:=f.1.length) (fun j=>f.1.take j) (r:=some (.e0 f (0,()) [] [] (f.2.2.1,()) f.1 [])) (by omega) (fun m j hj=>by
  show L_15_0 (m+1) (j:Int) f (0,()) [] [] (f.2.2.1,()) (f.1.take j) []=L_15_0 m ((j+1:Nat):Int) f (0,()) [] [] (f.2.2.1,()) (f.1.take (j+1)) []
  rw[L_15_0,S_15_0,cond_dtt (by omega),gd_inB (by omega) (by omega),gd_room (by rw[List.length_take];omega) (by rw[List.length_take];omega),Int.toNat_natCast,wi64 (by omega) (by omega),List.take_succ_eq_append_getElem hj,<-getD_at 0 hj]
  push_cast
  rfl) (fun m=>by
  show L_15_0 (m+1) (f.1.length:Int) f (0,()) [] [] (f.2.2.1,()) (f.1.take f.1.length) []=_
  rw[L_15_0,S_15_0,cond_dff (by omega),List.take_length])
 have t0:L_15_0 4611686018427387904 0 f (0,()) [] [] (f.2.2.1,()) [] []=_:=t0
 have t1:=run0 (fun m i acc=>L_15_1 m i f (0,()) [] [] (f.2.2.1,()) f.1 acc) (n:=f.2.1.length) (fun j=>f.2.1.take j) (r:=some (.e0 (0,()) [] [] (f.2.2.1,()) f.1 f.2.1)) (by omega) (fun m j hj=>by
  show L_15_1 (m+1) (j:Int) f (0,()) [] [] (f.2.2.1,()) f.1 (f.2.1.take j)=L_15_1 m ((j+1:Nat):Int) f (0,()) [] [] (f.2.2.1,()) f.1 (f.2.1.take (j+1))
  rw[L_15_1,S_15_1,cond_dtt (by omega),gd_inB (by omega) (by omega),gd_room (by rw[List.length_take];omega) (by rw[List.length_take];omega),Int.toNat_natCast,wi64 (by omega) (by omega),List.take_succ_eq_append_getElem hj,<-getD_at 0 hj]
  push_cast
  rfl) (fun m=>by
  show L_15_1 (m+1) (f.2.1.length:Int) f (0,()) [] [] (f.2.2.1,()) f.1 (f.2.1.take f.2.1.length)=_
  rw[L_15_1,S_15_1,cond_dff (by omega),List.take_length])
 have t1:L_15_1 4611686018427387904 0 f (0,()) [] [] (f.2.2.1,()) f.1 []=_:=t1
 rw[t0]
 unfold B_15_0
 dsimp only
 rw[t1]
 rfl
theorem sub_eq{l l':List Int}(hl:l'.length=l.length){a n:Nat}(h:∀j,a<=j->j<a+n->l'.getD j 0=l.getD j 0):take n (drop a l')=take n (drop a l):=by
 refine list_ext 0 (by simp only[List.length_take,List.length_drop,hl]) (fun i hi=> ?_)
 rw[List.length_take,List.length_drop]at hi
 have e:∀x:List Int,(take n (drop a x)).getD i 0=x.getD (a+i) 0:=fun x=>by
  rw[List.getD_eq_getElem?_getD,List.getElem?_take,if_pos (by omega),List.getElem?_drop,<-List.getD_eq_getElem?_getD]
 rw[e,e]
 exact h _ (by omega) (by omega)
theorem good_same{a x:BayT}(ha:BB a)(hx:BB x){k:Nat}(hk:k<2)(hh:Sp.hlf x=Sp.hlf a)(hy:x.2=a.2)(ok:(Sp.hx (Sp.wds a k)).2.1=true)(ag:∀j,1<=j->j<564+(Sp.hx (Sp.wds a k)).1.2.1.toNat->(Sp.wds x k).getD j 0=(Sp.wds a k).getD j 0):Sp.gdb x k=Sp.gdb a k:=by
 have la:=wds_len ha.v k hk
 have lx:=wds_len hx.v k hk
 have ll:(Sp.wds x k).length=(Sp.wds a k).length:=by rw[la,lx,hh]
 have h0:=ha.v.h0
 have h1:=ha.v.h1
 have pa:=hdr_pv ha.v ha.b k hk
 have o:HdO (Sp.hlf a) (v_14 a k):=pa.2 (by rw[v14_eq ha k hk];exact ok)
 rw[v14_eq ha k hk]at o
 have s0:=o.s0
 have s1:=o.s1
 have e8:take 8 (drop 3 (Sp.wds x k))=take 8 (drop 3 (Sp.wds a k)):=sub_eq ll (fun j z1 z2=>ag j (by omega) (by omega))
 have e553:take 553 (drop 11 (Sp.wds x k))=take 553 (drop 11 (Sp.wds a k)):=sub_eq ll (fun j z1 z2=>ag j (by omega) (by omega))
 have e2:take 2 (drop 1 (Sp.wds x k))=take 2 (drop 1 (Sp.wds a k)):=sub_eq ll (fun j z1 z2=>ag j (by omega) (by omega))
 have eh:Sp.hx (Sp.wds x k)=Sp.hx (Sp.wds a k):=by
  unfold Sp.hx
  rw[e553,e8,ag 1 (by omega) (by omega),ag 2 (by omega) (by omega),ll]
 have en:take (toNat (wrap .i64 (564+(Sp.hx (Sp.wds a k)).1.2.1))-564) (drop 564 (Sp.wds x k))=take (toNat (wrap .i64 (564+(Sp.hx (Sp.wds a k)).1.2.1))-564) (drop 564 (Sp.wds a k)):=by
  rw[wi64 (by omega) (by omega)]
  exact sub_eq ll (fun j z1 z2=>ag j (by omega) (by omega))
 have ex:=pv_14 x k (hdr_eq hx k hk)
 have ea:=pv_14 a k (hdr_eq ha k hk)
 have wx:=words_pv hx.v k hk
 have wa:=words_pv ha.v k hk
 have F:F_13 x k=F_13 a k:=by
  unfold F_13
  rw[ex.1,ex.2,gd_tt,ea.1,ea.2,gd_tt,eh,ok,wx.1,wx.2,wa.1,wa.2]
  dsimp only
  rw[e2,en,ll,hy]
 unfold Sp.gdb v_13
 rw[F]
theorem bvb_set(a:BayT)(n:Nat)(v:Int):Sp.bvb ((a.1.1.set n v,a.1.2),a.2)=Sp.bvb a:=by
 unfold Sp.bvb Sp.fv
 dsimp only
 rw[List.length_set]
 rfl
theorem wds_set{a:BayT}(h:BV a){k:Nat}(hk:k<2){i:Nat}(hi:i<Sp.hlf a)(v:Int){j:Nat}(hj:j<Sp.hlf a):(Sp.wds ((a.1.1.set (k*Sp.hlf a+i) v,a.1.2),a.2) k).getD j 0=if i=j then v else(Sp.wds a k).getD j 0:=by
 have o:=off_lt h k hk
 have e:∀(l:List Int),(take (Sp.hlf a) (drop (k*Sp.hlf a) l)).getD j 0=l.getD (k*Sp.hlf a+j) 0:=fun l=>by
  rw[List.getD_eq_getElem?_getD,List.getElem?_take,if_pos hj,List.getElem?_drop,<-List.getD_eq_getElem?_getD]
 show(take (Sp.hlf a) (drop (k*Sp.hlf a) (a.1.1.set (k*Sp.hlf a+i) v))).getD j 0=_
 rw[e]
 unfold Sp.wds
 rw[e,List.getD_eq_getElem?_getD,List.getElem?_set]
 by_cases c:i=j
 ·subst c
  rw[if_pos rfl,if_pos (by omega),if_pos rfl]
  rfl
 ·rw[if_neg (by omega),if_neg c,<-List.getD_eq_getElem?_getD]
theorem xor_b(x y:Int):0<=Sp.xorI .u32 x y/\Sp.xorI .u32 x y<4294967296:=by
 unfold Sp.xorI
 have:=(BitVec.ofInt 32 x ^^^ BitVec.ofInt 32 y).isLt
 show 0<=wrap .u32 (((BitVec.ofInt 32 x ^^^ BitVec.ofInt 32 y).toNat:Nat):Int)/\wrap .u32 (((BitVec.ofInt 32 x ^^^ BitVec.ofInt 32 y).toNat:Nat):Int)<4294967296
 rw[u32_wrap_nat this]
 omega
theorem plain_3(a:BayT)(bk at_ bt:Int)(w:wfD (.pair (.pair (.slice (.int .u32)) (.pair (.slice (.int .i64)) (.pair (.int .i64) .unit))) (.pair (.arr 32 (.int .u8)) .unit)) a)(wb:wfD (.int .u8) bk)(wa:wfD (.int .u16) at_)(wt:wfD (.int .u8) bt):F_3 a bk at_ bt=some true:=by
 have hw:W32 a:=fun x hx=>u32_b (w.1.1 x hx)
 have hbk:0<=bk/\bk<256:=by
  have wb:(Lit.int .u8 bk).wf=true:=wb
  simp[Lit.wf,IntKind.min,IntKind.max,IntKind.signed,IntKind.bits]at wb;omega
 have hat:0<=at_/\at_<65536:=by
  have wa:(Lit.int .u16 at_).wf=true:=wa
  simp[Lit.wf,IntKind.min,IntKind.max,IntKind.signed,IntKind.bits]at wa;omega
 have hbt:0<=bt/\bt<256:=by
  have wt:(Lit.int .u8 bt).wf=true:=wt
  simp[Lit.wf,IntKind.min,IntKind.max,IntKind.signed,IntKind.bits]at wt;omega
 unfold F_3
 rw[aw_pv.1,aw_pv.2,gd_tt,few_p a,gd_tt]
 dsimp only
 rw[Bool.not_true,cond_f]
 cases (v_11 a).1
 ·rfl
 rw[Bool.not_true,cond_f,(val_pv a).1,(val_pv a).2,gd_tt]
 dsimp only
 cases hb:Sp.bvb a
 ·rfl
 have hv:=bv_of hb
 have BA:BB a:=⟨hv,hb⟩
 have h0:=hv.h0
 have h1:=hv.h1
 obtain⟨k,hk2⟩:∃k:Nat,(k:Int)=bk%2:=⟨(bk%2).toNat,by omega⟩
 have hk:k<2:=by omega
 obtain⟨i,hi2⟩:∃i:Nat,(i:Int)=at_%(Sp.hlf a:Int):=⟨(at_%(Sp.hlf a:Int)).toNat,by have:=Int.emod_nonneg at_ (show(Sp.hlf a:Int)≠0 by omega);omega⟩
 have hi:i<Sp.hlf a:=by have:=Int.emod_lt_of_pos at_ (show(0:Int)<(Sp.hlf a:Int) by omega);omega
 have ek:Int.tmod (wrap .i64 bk) 2=(k:Int):=by rw[wi64 (by omega) (by omega),Int.tmod_eq_emod_of_nonneg (by omega),hk2]
 have ei:Int.tmod (wrap .i64 at_) (Sp.hlf a:Int)=(i:Int):=by rw[wi64 (by omega) (by omega),Int.tmod_eq_emod_of_nonneg (by omega),hi2]
 have gp:=good_pv hv hb k hk
 rw[Bool.not_true,cond_f,ek,gp.1,gd_tt,half_eq hv,ei]
 show(bif !(Sp.gdb a k)then _ else _)=_
 cases hg:Sp.gdb a k
 ·rfl
 have hok:=gp.2 hg
 have hp:=hdr_pv hv hb k hk
 have o:=hp.2 hok
 have s0:=o.s0
 have s1:=o.s1
 have ol:=off_lt hv k hk
 have fl:=fv_iff.1 hv.v
 have cp:=copy_pv (f:=a.1) (by omega) (by omega)
 have oe:=off_eq hv k (by omega)
 have bz:(!((Sp.hlf a:Int)==0))=true:=by rw[beq_eq_false_iff_ne.2 (by omega)];rfl
 have ea:wrap .i64 (((k*Sp.hlf a:Nat):Int)+(i:Int))=((k*Sp.hlf a+i:Nat):Int):=by rw[wi64 (by omega) (by omega)];push_cast;rfl
 rw[Bool.not_true,cond_f,hp.1,gd_tt,bz,gd_tt,cp.1,cp.2,gd_tt,oe,ea]
 dsimp only
 have dt:decide (0<=Int.tmod bt 32)=true:=by rw[Int.tmod_eq_emod_of_nonneg (by omega)];exact decide_eq_true (by omega)
 rw[gd_inB (by omega) (by omega),Int.toNat_natCast,Bool.and_true,Bool.and_true,gd_dec (by omega),dt,gd_tt,gd_inB (by omega) (by omega),gd_dec (by omega),hok,Bool.not_true,cond_f,cond_dff (by omega),wi64 (n:=(Sp.hlf a:Int)-564) (by omega) (by omega),cond_dff (by omega),wi64 (n:=564+(v_14 a k).1.2.1) (by omega) (by omega)]
 have xb:=xor_b (a.1.1.getD (k*Sp.hlf a+i) 0) (wrap .u32 (1*2^Nat.min (toNat (Int.tmod bt 32)) 32))
 generalize Sp.xorI .u32 (a.1.1.getD (k*Sp.hlf a+i) 0) (wrap .u32 (1*2^Nat.min (toNat (Int.tmod bt 32)) 32))=v at xb⊢
 have BX:BB ((a.1.1.set (k*Sp.hlf a+i) v,a.1.2),a.2):=⟨bv_of (by rw[bvb_set];exact hb),by rw[bvb_set];exact hb⟩
 have WX:W32 ((a.1.1.set (k*Sp.hlf a+i) v,a.1.2),a.2):=fun y hy=>by
  rcases List.mem_or_eq_of_mem_set hy with z|rfl
  ·exact hw y z
  ·exact xb
 have gx:=good_pv BX.v BX.b k hk
 have rg:=rgood_pv BX WX k hk
 have sx:=sel_pv BX
 have sm:¬(1<=i/\(i:Int)<564+(v_14 a k).1.2.1)->Sp.gdb ((a.1.1.set (k*Sp.hlf a+i) v,a.1.2),a.2) k=true:=fun z=>by
  rw[good_same BA BX hk rfl rfl (by rw[<-v14_eq BA k hk];exact hok) (fun j z1 z2=>by
   rw[<-v14_eq BA k hk]at z2
   rw[wds_set hv hk hi v (by omega),if_neg (by omega)])]
  exact hg
 have ex:(((a.1.1.set (k*Sp.hlf a+i) v,a.1.2),(a.2.1,())):BayT)=((a.1.1.set (k*Sp.hlf a+i) v,a.1.2),a.2):=rfl
 have out:∀z:Bool,z=false->Sp.gdb ((a.1.1.set (k*Sp.hlf a+i) v,a.1.2),a.2) k=true->∀K:Int->List Int×Int×Unit->List Int×Unit->List Int->Option Bool,B_3_0 (J_3_0 (k:Int) z a.1.2 (a.2.1,()) (a.1.1.set (k*Sp.hlf a+i) v)) (some true) (some false) K=some true:=by
  rintro z rfl hg2 K
  unfold J_3_0 S_3_0
  rw[cond_f]
  unfold J_3_1 S_3_1
  rw[ex,gx.1,gd_tt]
  show B_3_0 (B_3_1 (bif Sp.gdb ((a.1.1.set (k*Sp.hlf a+i) v,a.1.2),a.2) k==false then _ else _) _ _ _) _ _ _=_
  rw[hg2]
  rfl
 by_cases c1:1<=i
 rotate_left
 ·rw[cond_dff (by omega)]
  exact out false rfl (sm (fun z=>c1 z.1)) _
 rw[cond_dtt (by omega)]
 by_cases c2:(i:Int)<564+(v_14 a k).1.2.1
 rotate_left
 ·exact out _ (decide_eq_false c2) (sm (fun z=>c2 z.2)) _
 rw[decide_eq_true c2]
 unfold J_3_0 S_3_0
 rw[cond_t,ex,rg.1,rg.2,gd_tt]
 cases hg2:Sp.gdb ((a.1.1.set (k*Sp.hlf a+i) v,a.1.2),a.2) k
 rotate_left
 ·rfl
 rw[cond_f]
 unfold J_3_1 S_3_1
 rw[ex,gx.1,gd_tt]
 have e13:(v_13 ((a.1.1.set (k*Sp.hlf a+i) v,a.1.2),a.2) k).1=false:=hg2
 rw[e13,sx.1,sx.2,gd_tt,show(false==true)=false from rfl,cond_f,Bool.not_true,cond_f]
 have se:=sel_eq ((a.1.1.set (k*Sp.hlf a+i) v,a.1.2),a.2)
 by_cases e:(Sp.sel ((a.1.1.set (k*Sp.hlf a+i) v,a.1.2),a.2)).2.1=0
 rotate_left
 ·rw[cond_ntt e]
  rfl
 rw[cond_nff e]
 show some ((v_17 ((a.1.1.set (k*Sp.hlf a+i) v,a.1.2),a.2)).1 !=(k:Int))=some true
 rw[sx.2,se.1]
 have hs:Sp.has ((a.1.1.set (k*Sp.hlf a+i) v,a.1.2),a.2)=true:=by rw[<-se.2,e];rfl
 have cn:=cnd_sb hs
 unfold Sp.cnd at cn
 rw[Bool.and_eq_true]at cn
 have ne:Sp.sb ((a.1.1.set (k*Sp.hlf a+i) v,a.1.2),a.2)≠k:=fun z=>by
  rw[z,hg2]at cn
  exact Bool.noConfusion cn.2
 congr 1
 exact bne_iff_ne.2 (by omega)
end Go.Ev
