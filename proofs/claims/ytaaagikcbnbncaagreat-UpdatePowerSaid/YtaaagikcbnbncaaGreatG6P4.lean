/- Helpers: functions of the program as Lean functions, and what they compute. No condition. -/
import Derived.Test.YtaaagikcbnbncaaGreatE6P4
import Derived.Test.YtaaagikcbnbncaaGreatG6P1
import Derived.Test.YtaaagikcbnbncaaGreatG6P2
import Derived.Test.YtaaagikcbnbncaaGreatG6P3
set_option maxRecDepth 10000
set_option linter.unusedVariables false
set_option linter.unusedSimpArgs false
open Go.IntKind (wrap i64 i32 i16 i8 u64 u32 u16 u8)
open List (getD length take drop replicate)
open Int (toNat)
open Go.Ev.Sp
set_option linter.unusedSimpArgs false
set_option linter.unusedVariables false
namespace Go.Ev
open Go
set_option maxRecDepth 100000
set_option maxHeartbeats 4000000
abbrev FlT:=List Int×List Int×Int×Unit
abbrev PwT:=Int×Int×Unit
abbrev OpT:=Bool×Int×Int×Unit
abbrev RsT:=FlT×PwT×Int×Unit
namespace Sp
noncomputable def wb(f:FlT)(j:Nat):Bool:=decide (f.2.1.getD j 0<0)||decide (f.2.1.getD j 0>f.2.2.1)
noncomputable def fv(f:FlT):Bool:=decide (1<=f.2.1.length)&&(decide (f.2.1.length<=64)&&(decide (f.1.length=f.2.1.length*64)&&(decide (1<=f.2.2.1)&&(decide (f.2.2.1<=1000000)&&(fnd (wb f) f.2.1.length 0).isNone))))
noncomputable def pw(f:FlT)(k:Nat)(w bits:Int):FlT:=(f.1.set k (andnI .u32 (f.1.getD k 0) (andnI .u32 bits w)),f.2.1,f.2.2.1,())
noncomputable def prg(f:FlT)(k:Nat)(w:Int)(p:PwT):RsT:=if p.1=0 then(f,p,18,())else if p.1=1 then(pw f k w p.2.1,(0,p.2),18,())else(pw f k w 4294967295,(p.1-1,p.2),0,())
noncomputable def orW(ws:List Int)(o:Nat)(bits:Int)(n:Nat):List Int:=ws.mapIdx (fun i x=>if o<=i/\i<o+n then orI .u32 x bits else x)
noncomputable def ew(f:FlT)(s:Nat)(bits:Int):FlT:=(orW f.1 (s*64) bits 64,f.2.1.set s (f.2.1.getD s 0+1),f.2.2.1,())
noncomputable def ers(f:FlT)(s:Nat)(p:PwT):RsT:=if f.2.1.getD s 0=f.2.2.1 then(([],[],0,()),(0,0,()),19,())else if p.1=0 then(f,p,18,())else if p.1=1 then(ew f s p.2.1,(0,p.2),18,())else(ew f s 4294967295,(p.1-1,p.2),0,())
end Sp
theorem full_pv:p_36=true/\v_36=((1099511627776,0,()),()):=pv_36 rfl
theorem fv_iff{f:FlT}:Sp.fv f=true↔1<=f.2.1.length/\f.2.1.length<=64/\f.1.length=f.2.1.length*64/\1<=f.2.2.1/\f.2.2.1<=1000000/\∀j,j<f.2.1.length->0<=f.2.1.getD j 0/\f.2.1.getD j 0<=f.2.2.1:=by
 simp only[Sp.fv,Bool.and_eq_true,decide_eq_true_eq,Option.isNone_iff_eq_none,fnd_none,Sp.wb,Bool.or_eq_false_iff,decide_eq_false_iff_not]
 constructor
 ·rintro⟨a,b,c,d,e,g⟩
  refine⟨a,b,c,d,e,fun j hj=> ?_⟩
  have:=g j (by omega) (by omega)
  omega
 ·rintro⟨a,b,c,d,e,g⟩
  refine⟨a,b,c,d,e,fun j _ hj=> ?_⟩
  have:=g j (by omega)
  omega
theorem fv_ok(f:FlT):F_74 f=some (Sp.fv f,()):=by
 unfold F_74 Sp.fv
 by_cases h1:(f.2.1.length:Int)<1
 ·rw[cond_dtt h1,decide_eq_false (by omega)];rfl
 rw[cond_dff h1,decide_eq_true (p:=1<=f.2.1.length) (by omega),Bool.true_and]
 by_cases h2:(f.2.1.length:Int)>64
 ·rw[cond_dtt h2,decide_eq_false (by omega)];rfl
 rw[cond_dff h2,decide_eq_true (p:=f.2.1.length<=64) (by omega),Bool.true_and,wi64 (by omega) (by omega)]
 by_cases h3:(f.1.length:Int)=(f.2.1.length:Int)*64
 rotate_left
 ·rw[cond_ntt h3,decide_eq_false (p:=f.1.length=_) (by omega)];rfl
 rw[cond_nff h3,decide_eq_true (p:=f.1.length=_) (by omega),Bool.true_and]
 by_cases h4:f.2.2.1<1
 ·rw[cond_dtt h4,decide_eq_false (by omega)];rfl
 rw[cond_dff h4,decide_eq_true (p:=1<=f.2.2.1) (by omega),Bool.true_and]
 by_cases h5:f.2.2.1>1000000
 ·rw[cond_dtt h5,decide_eq_false (by omega)];rfl
 rw[cond_dff h5,decide_eq_true (p:=f.2.2.1<=1000000) (by omega),Bool.true_and]
 have hf:=find0 (fun m i=>L_74_130_0_0 m f.2.1 f.2.1.length i f) (n:=f.2.1.length) (Sp.wb f) (ex:=fun j=>some (.e0 (j:Int) f)) (e1:=some (.e1 f)) (by omega) (fun m j hj=>by
  show L_74_130_0_0 (m+1) f.2.1 f.2.1.length j f=bif Sp.wb f j then some (.e0 (j:Int) f)else L_74_130_0_0 m f.2.1 f.2.1.length ((j+1:Nat):Int) f
  rw[L_74_130_0_0,S_74_130_0_0,cond_dtt (by omega),gd_inB (by omega) (by omega),Int.toNat_natCast,wi64 (by omega) (by omega)]
  unfold Sp.wb
  push_cast
  grind) (fun m=>by
  show L_74_130_0_0 (m+1) f.2.1 f.2.1.length f.2.1.length f=_
  rw[L_74_130_0_0,S_74_130_0_0,cond_dff (by omega)])
 rw[hf]
 cases fnd (Sp.wb f) f.2.1.length 0 with
 |none=>rfl
 |some k=>
  simp only[B_74_130_0_0,Option.isNone]
  rw[decide_eq_true (by omega)]
  rfl
theorem fv_pv(f:FlT):p_74 f=true/\v_74 f=(Sp.fv f,()):=pv_74 f (fv_ok f)
theorem chk_pv{f:FlT}{p:PwT}{a n:Int}(h:Sp.fv f=true)(h0:0<=p.1)(h1:p.1<=1099511627776)(h2:0<=a)(h3:a<n):p_124 f p a n=true/\v_124 f p a n=(0,()):=by
 refine pv_124 f p a n ?_
 unfold F_124
 rw[(fv_pv f).1,(fv_pv f).2,gd_tt,h,Bool.not_true,cond_f,cond_dff (by omega),cond_dff (by omega),cond_dff (by omega),cond_dff (by omega)]
theorem prg_ok{f:FlT}{p:PwT}{k:Nat}{w:Int}(h:Sp.fv f=true)(h0:0<=p.1)(h1:p.1<=1099511627776)(h2:k<f.1.length):F_93 f k w p=some (Sp.prg f k w p):=by
 have hv:=fv_iff.1 h
 unfold F_93 Sp.prg Sp.pw
 rw[(chk_pv h h0 h1 (by omega) (by omega)).1,(chk_pv h h0 h1 (by omega) (by omega)).2,gd_tt,cond_nff rfl,gd_room (by omega) (by omega),gd_room (by omega) (by omega)]
 simp only[gd_inB (show(0:Int)<=(k:Int) by omega) (show(k:Int)<((f.1.length:Nat):Int) by omega),Int.toNat_natCast,Bool.and_true,gd_dec h2]
 by_cases e0:p.1=0
 ·rw[cond_ett e0,if_pos e0]
 rw[cond_eff e0,if_neg e0]
 by_cases e1:p.1=1
 ·rw[cond_ett e1,if_pos e1]
 rw[cond_eff e1,if_neg e1,wi64 (by omega) (by omega)]
theorem prg_pv{f:FlT}{p:PwT}{k:Nat}{w:Int}(h:Sp.fv f=true)(h0:0<=p.1)(h1:p.1<=1099511627776)(h2:k<f.1.length):p_93 f k w p=true/\v_93 f k w p=Sp.prg f k w p:=pv_93 f k w p (prg_ok h h0 h1 h2)
theorem getD_set{α:Type}(l:List α)(i j:Nat)(x d:α)(h:i<l.length):(l.set i x).getD j d=if i=j then x else l.getD j d:=by
 simp only[List.getD_eq_getElem?_getD,List.getElem?_set]
 split
 ·simp[h]
 ·rfl
set_option maxRecDepth 100000
set_option maxHeartbeats 4000000
namespace Sp
noncomputable def rotr(x:Int)(n:Nat):Int:=orI .u32 (x.fdiv (2^n)) (wrap .u32 (x*2^(32-n)))
noncomputable def wat(b:List Int)(i:Nat):Int:=orI .u32 (orI .u32 (orI .u32 (wrap .u32 (wrap .u32 (b.getD i 0)*16777216)) (wrap .u32 (wrap .u32 (b.getD (i+1) 0)*65536))) (wrap .u32 (wrap .u32 (b.getD (i+2) 0)*256))) (wrap .u32 (b.getD (i+3) 0))
end Sp
theorem orI_comm(k:IntKind)(a b:Int):Sp.orI k a b=Sp.orI k b a:=by unfold Sp.orI;rw[BitVec.or_comm]
theorem word_ok(b:List Int)(h:4<=b.length):F_119 b=some (Sp.wat b 0,()):=by
 unfold F_119
 simp (disch:=first|omega|(simp only[List.length_drop,List.length_take,List.length_set,List.length_append,List.length_replicate,List.length_cons,List.length_nil];omega)) only[gd_and,gd_tt,gd_dec,gd_beq,gd_inB,gd_sl3,gd_room,cond_dtt,cond_dff,cond_ett,cond_eff,cond_ntt,cond_nff,cond_t,cond_f,wi64,Int.toNat_natCast]
 rfl
theorem word_pv(b:List Int)(h:4<=b.length):p_119 b=true/\v_119 b=(Sp.wat b 0,()):=pv_119 b (word_ok b h)
theorem p_word(b:List Int)(h:4<=b.length):p_119 b=true:=(word_pv b h).1
theorem v_word(b:List Int)(h:4<=b.length):v_119 b=(Sp.wat b 0,()):=(word_pv b h).2
theorem wat_drop(b:List Int)(i j:Nat):Sp.wat (b.drop i) j=Sp.wat b (i+j):=by
 unfold Sp.wat
 simp only[List.getD_eq_getElem?_getD,List.getElem?_drop,Nat.add_assoc]
theorem wat_take(b:List Int)(n j:Nat)(h:j+4<=n):Sp.wat (b.take n) j=Sp.wat b j:=by
 unfold Sp.wat
 simp only[List.getD_eq_getElem?_getD,List.getElem?_take]
 simp only[show j<n by omega,show j+1<n by omega,show j+2<n by omega,show j+3<n by omega,if_true]
theorem turn_pv(x:Int)(n:Nat)(h0:n<=32):p_141 x n=true/\v_141 x n=(Sp.rotr x n,()):=by
 refine pv_141 x n ?_
 unfold F_141 Sp.rotr
 rw[wu64 (by omega) (by omega)]
 simp (disch:=first|omega|(simp only[List.length_drop,List.length_take,List.length_set,List.length_append,List.length_replicate,List.length_cons,List.length_nil];omega)) only[gd_and,gd_tt,gd_dec,gd_beq,gd_inB,gd_sl3,gd_room,cond_dtt,cond_dff,cond_ett,cond_eff,cond_ntt,cond_nff,cond_t,cond_f,wi64,Int.toNat_natCast]
 rw[show(32-(n:Int)).toNat=32-n by omega,nmin_l (by omega),nmin_l (by omega)]
theorem rot_aux(x n:Int)(m:Nat)(h:(Sp.andI .u64 (wrap .u64 (wrap .i64 (0-n))) 31)=((32-m:Nat):Int))(h1:m<=32):p_146 x n=true/\v_146 x n=(Sp.rotr x m,()):=by
 have h2:p_148 x (wrap .i64 (0-n))=true/\v_148 x (wrap .i64 (0-n))=(Sp.rotr x m,()):=by
  refine pv_148 _ _ ?_
  unfold F_148 Sp.rotr
  rw[h,wu64 (by omega) (by omega)]
  simp (disch:=first|omega|(simp only[List.length_drop,List.length_take,List.length_set,List.length_append,List.length_replicate,List.length_cons,List.length_nil];omega)) only[gd_and,gd_tt,gd_dec,gd_beq,gd_inB,gd_sl3,gd_room,cond_dtt,cond_dff,cond_ett,cond_eff,cond_ntt,cond_nff,cond_t,cond_f,wi64,Int.toNat_natCast]
  rw[show(32-(((32-m:Nat)):Int)).toNat=m by omega,nmin_l (by omega),nmin_l (by omega),orI_comm]
 refine pv_146 x n ?_
 unfold F_146
 rw[h2.1,h2.2];rfl
theorem right7(x:Int):p_146 x 7=true/\v_146 x 7=(Sp.rotr x 7,()):=rot_aux x 7 7 (by kernel_rfl) (by decide)
theorem right18(x:Int):p_146 x 18=true/\v_146 x 18=(Sp.rotr x 18,()):=rot_aux x 18 18 (by kernel_rfl) (by decide)
theorem right17(x:Int):p_146 x 17=true/\v_146 x 17=(Sp.rotr x 17,()):=rot_aux x 17 17 (by kernel_rfl) (by decide)
theorem right19(x:Int):p_146 x 19=true/\v_146 x 19=(Sp.rotr x 19,()):=rot_aux x 19 19 (by kernel_rfl) (by decide)
theorem right6(x:Int):p_146 x 6=true/\v_146 x 6=(Sp.rotr x 6,()):=rot_aux x 6 6 (by kernel_rfl) (by decide)
theorem right11(x:Int):p_146 x 11=true/\v_146 x 11=(Sp.rotr x 11,()):=rot_aux x 11 11 (by kernel_rfl) (by decide)
theorem right25(x:Int):p_146 x 25=true/\v_146 x 25=(Sp.rotr x 25,()):=rot_aux x 25 25 (by kernel_rfl) (by decide)
theorem right2(x:Int):p_146 x 2=true/\v_146 x 2=(Sp.rotr x 2,()):=rot_aux x 2 2 (by kernel_rfl) (by decide)
theorem right13(x:Int):p_146 x 13=true/\v_146 x 13=(Sp.rotr x 13,()):=rot_aux x 13 13 (by kernel_rfl) (by decide)
theorem right22(x:Int):p_146 x 22=true/\v_146 x 22=(Sp.rotr x 22,()):=rot_aux x 22 22 (by kernel_rfl) (by decide)
theorem turn7(x:Int):p_141 x 7=true/\v_141 x 7=(Sp.rotr x 7,()):=turn_pv x 7 (by decide)
theorem turn18(x:Int):p_141 x 18=true/\v_141 x 18=(Sp.rotr x 18,()):=turn_pv x 18 (by decide)
theorem turn17(x:Int):p_141 x 17=true/\v_141 x 17=(Sp.rotr x 17,()):=turn_pv x 17 (by decide)
theorem turn19(x:Int):p_141 x 19=true/\v_141 x 19=(Sp.rotr x 19,()):=turn_pv x 19 (by decide)
theorem turn6(x:Int):p_141 x 6=true/\v_141 x 6=(Sp.rotr x 6,()):=turn_pv x 6 (by decide)
theorem turn11(x:Int):p_141 x 11=true/\v_141 x 11=(Sp.rotr x 11,()):=turn_pv x 11 (by decide)
theorem turn25(x:Int):p_141 x 25=true/\v_141 x 25=(Sp.rotr x 25,()):=turn_pv x 25 (by decide)
theorem turn2(x:Int):p_141 x 2=true/\v_141 x 2=(Sp.rotr x 2,()):=turn_pv x 2 (by decide)
theorem turn13(x:Int):p_141 x 13=true/\v_141 x 13=(Sp.rotr x 13,()):=turn_pv x 13 (by decide)
theorem turn22(x:Int):p_141 x 22=true/\v_141 x 22=(Sp.rotr x 22,()):=turn_pv x 22 (by decide)
set_option maxRecDepth 100000
set_option maxHeartbeats 4000000
namespace Sp
noncomputable def w0(b:List Int):List Int:=foldB (fun j a=>a.set j (wat b (4*j))) 0 16 (replicate 64 0)
noncomputable def stW(j:Nat)(a:List Int):List Int:=a.set j (wrap .u32 (wrap .u32 (wrap .u32 (xorI .u32 (xorI .u32 (rotr (a.getD (j-2) 0) 17) (rotr (a.getD (j-2) 0) 19)) (Int.fdiv (a.getD (j-2) 0) 1024)+a.getD (j-7) 0)+xorI .u32 (xorI .u32 (rotr (a.getD (j-15) 0) 7) (rotr (a.getD (j-15) 0) 18)) (Int.fdiv (a.getD (j-15) 0) 8))+a.getD (j-16) 0))
noncomputable def w1(b:List Int):List Int:=foldB stW 16 48 (w0 b)
noncomputable def t1(k w:List Int)(j:Nat)(s:List Int):Int:=wrap .u32 (wrap .u32 (wrap .u32 (wrap .u32 (s.getD 7 0+xorI .u32 (xorI .u32 (rotr (s.getD 4 0) 6) (rotr (s.getD 4 0) 11)) (rotr (s.getD 4 0) 25))+xorI .u32 (andI .u32 (s.getD 4 0) (s.getD 5 0)) (andI .u32 (xorI .u32 4294967295 (s.getD 4 0)) (s.getD 6 0)))+k.getD j 0)+w.getD j 0)
noncomputable def t2(s:List Int):Int:=wrap .u32 (xorI .u32 (xorI .u32 (rotr (s.getD 0 0) 2) (rotr (s.getD 0 0) 13)) (rotr (s.getD 0 0) 22)+xorI .u32 (xorI .u32 (andI .u32 (s.getD 0 0) (s.getD 1 0)) (andI .u32 (s.getD 0 0) (s.getD 2 0))) (andI .u32 (s.getD 1 0) (s.getD 2 0)))
noncomputable def stR(k w:List Int)(j:Nat)(s:List Int):List Int:=[wrap .u32 (t1 k w j s+t2 s),s.getD 0 0,s.getD 1 0,s.getD 2 0,wrap .u32 (s.getD 3 0+t1 k w j s),s.getD 4 0,s.getD 5 0,s.getD 6 0]
noncomputable def rnds(k w s:List Int):List Int:=foldB (stR k w) 0 64 s
noncomputable def addS(s v:List Int):List Int:=foldB (fun j s=>s.set j (wrap .u32 (s.getD j 0+v.getD j 0))) 0 8 s
noncomputable def blk(k s b:List Int):List Int:=addS s (rnds k (w1 b) s)
end Sp
theorem foldB_len{f:Nat->List Int->List Int}(h:∀j a,(f j a).length=a.length):∀d j a,(foldB f j d a).length=a.length
 |0,_,_=>rfl
 |d+1,j,a=>by rw[foldB,foldB_len h d,h]
theorem w0_len(b:List Int):(Sp.w0 b).length=64:=by unfold Sp.w0;rw[foldB_len (fun j a=>by simp)];simp
theorem i_w0(m:Nat)(hm:16<m)(b p2 p3 p4:List Int)(hb:b.length=64):L_122_138_0_0 m b 0 p2 p3 p4 (replicate 64 0)=some (.e0 p2 p3 p4 (Sp.w0 b)):=by
 refine(cnt0 (fun m j a=>L_122_138_0_0 m b j p2 p3 p4 a) (n:=16) (inv:=fun _ a=>a.length=64) (step:=fun j a=>a.set j (Sp.wat b (4*j))) (ex:=fun a=>some (.e0 p2 p3 p4 a)) (m:=m) (by simp) hm ?_ ?_ ?_)
 ·intro m j a hj ha
  show L_122_138_0_0 (m+1) b j p2 p3 p4 a=_
  rw[L_122_138_0_0,S_122_138_0_0]
  have h1:(4*(j:Int)).toNat=4*j:=by omega
  simp (disch:=first|omega|(simp only[List.length_drop,List.length_take,List.length_set,List.length_append,List.length_replicate,List.length_cons,List.length_nil];omega)) only[gd_and,gd_tt,gd_dec,gd_beq,gd_inB,gd_sl3,gd_room,cond_dtt,cond_dff,cond_ett,cond_eff,cond_ntt,cond_nff,cond_t,cond_f,wi64,Int.toNat_natCast,h1,p_word,v_word,wat_drop,Nat.add_zero]
  rfl
 ·intro j a hj ha;simpa using ha
 ·intro m a ha
  show L_122_138_0_0 (m+1) b 16 p2 p3 p4 a=_
  rw[L_122_138_0_0,S_122_138_0_0,cond_dff (by decide)]
theorem i_w1(m:Nat)(hm:48<m)(b p1 p2 p3:List Int):L_122_138_1_0 m 16 p1 p2 p3 (Sp.w0 b)=some (.e0 p1 p2 p3 (Sp.w1 b)):=by
 refine(cnt_loop (fun m j a=>L_122_138_1_0 m j p1 p2 p3 a) (n:=64) (inv:=fun j a=>a.length=64/\16<=j) (step:=Sp.stW) (ex:=fun a=>some (.e0 p1 p2 p3 a)) ?_ ?_ ?_ 48 m 16 (Sp.w0 b) (by omega) ⟨w0_len b,by omega⟩ hm)
 ·intro m j a hj ⟨ha,hj16⟩
  show L_122_138_1_0 (m+1) j p1 p2 p3 a=_
  rw[L_122_138_1_0,S_122_138_1_0]
  have h1:((j:Int)-15).toNat=j-15:=by omega
  have h2:((j:Int)-2).toNat=j-2:=by omega
  have h3:((j:Int)-7).toNat=j-7:=by omega
  have h4:((j:Int)-16).toNat=j-16:=by omega
  simp (disch:=first|omega|(simp only[List.length_drop,List.length_take,List.length_set,List.length_append,List.length_replicate,List.length_cons,List.length_nil];omega)) only[gd_and,gd_tt,gd_dec,gd_beq,gd_inB,gd_sl3,gd_room,cond_dtt,cond_dff,cond_ett,cond_eff,cond_ntt,cond_nff,cond_t,cond_f,wi64,Int.toNat_natCast,h1,h2,h3,h4,right7,right18,right17,right19]
  rfl
 ·intro j a hj ⟨ha,hj16⟩;exact⟨by simpa[Sp.stW]using ha,by omega⟩
 ·intro m a ⟨ha,_⟩
  show L_122_138_1_0 (m+1) 64 p1 p2 p3 a=_
  rw[L_122_138_1_0,S_122_138_1_0,cond_dff (by decide)]
theorem i_rn(m:Nat)(hm:64<m)(p1 p2 k w s:List Int):L_122_138_2_0 m 0 p1 p2 k w s=some (.e0 p1 p2 k (Sp.rnds k w s)):=by
 refine(cnt0 (fun m j a=>L_122_138_2_0 m j p1 p2 k w a) (n:=64) (inv:=fun _ _=>True) (step:=Sp.stR k w) (ex:=fun a=>some (.e0 p1 p2 k a)) (m:=m) trivial hm ?_ ?_ ?_)
 ·intro m j a hj _
  show L_122_138_2_0 (m+1) j p1 p2 k w a=_
  rw[L_122_138_2_0,S_122_138_2_0]
  simp (disch:=first|omega|(simp only[List.length_drop,List.length_take,List.length_set,List.length_append,List.length_replicate,List.length_cons,List.length_nil];omega)) only[gd_and,gd_tt,gd_dec,gd_beq,gd_inB,gd_sl3,gd_room,cond_dtt,cond_dff,cond_ett,cond_eff,cond_ntt,cond_nff,cond_t,cond_f,wi64,Int.toNat_natCast,right6,right11,right25,right2,right13,right22]
  rfl
 ·intro j a hj _;trivial
 ·intro m a _
  show L_122_138_2_0 (m+1) 64 p1 p2 k w a=_
  rw[L_122_138_2_0,S_122_138_2_0,cond_dff (by decide)]
theorem i_ad(m:Nat)(hm:8<m)(p1 s k v:List Int):L_122_138_3_0 m 0 p1 s k v=some (.e0 p1 (Sp.addS s v) k):=by
 refine(cnt0 (fun m j a=>L_122_138_3_0 m j p1 a k v) (n:=8) (inv:=fun _ _=>True) (step:=fun j s=>s.set j (wrap .u32 (s.getD j 0+v.getD j 0))) (ex:=fun a=>some (.e0 p1 a k)) (m:=m) trivial hm ?_ ?_ ?_)
 ·intro m j a hj _
  show L_122_138_3_0 (m+1) j p1 a k v=_
  rw[L_122_138_3_0,S_122_138_3_0]
  simp (disch:=first|omega|(simp only[List.length_drop,List.length_take,List.length_set,List.length_append,List.length_replicate,List.length_cons,List.length_nil];omega)) only[gd_and,gd_tt,gd_dec,gd_beq,gd_inB,gd_sl3,gd_room,cond_dtt,cond_dff,cond_ett,cond_eff,cond_ntt,cond_nff,cond_t,cond_f,wi64,Int.toNat_natCast]
  rfl
 ·intro j a hj _;trivial
 ·intro m a _
  show L_122_138_3_0 (m+1) 8 p1 a k v=_
  rw[L_122_138_3_0,S_122_138_3_0,cond_dff (by decide)]
set_option maxRecDepth 100000
set_option maxHeartbeats 4000000
theorem j_w0(m:Nat)(hm:16<m)(o z:Nat)(p4 p5 p6 l:List Int)(ho:o+64<=128)(hl:l.length=128):L_122_138_0_1 m o 64 z 0 p4 p5 p6 l (replicate 64 0)=some (.e0 p4 p5 p6 l (Sp.w0 ((l.drop o).take 64))):=by
 refine(cnt0 (fun m j a=>L_122_138_0_1 m o 64 z j p4 p5 p6 l a) (n:=16) (inv:=fun _ a=>a.length=64) (step:=fun j a=>a.set j (Sp.wat ((l.drop o).take 64) (4*j))) (ex:=fun a=>some (.e0 p4 p5 p6 l a)) (m:=m) (by simp) hm ?_ ?_ ?_)
 ·intro m j a hj ha
  show L_122_138_0_1 (m+1) o 64 z j p4 p5 p6 l a=_
  rw[L_122_138_0_1,S_122_138_0_1]
  have h1:(4*(j:Int)).toNat=4*j:=by omega
  have h2:((64:Nat):Int).toNat=64:=rfl
  simp (disch:=first|omega|(simp only[List.length_drop,List.length_take,List.length_set,List.length_append,List.length_replicate,List.length_cons,List.length_nil];omega)) only[gd_and,gd_tt,gd_dec,gd_beq,gd_inB,gd_sl3,gd_room,cond_dtt,cond_dff,cond_ett,cond_eff,cond_ntt,cond_nff,cond_t,cond_f,wi64,Int.toNat_natCast,h1,h2,p_word,v_word,wat_take,wat_drop,Nat.add_zero]
  rfl
 ·intro j a hj ha;simpa using ha
 ·intro m a ha
  show L_122_138_0_1 (m+1) o 64 z 16 p4 p5 p6 l a=_
  rw[L_122_138_0_1,S_122_138_0_1,cond_dff (by decide)]
theorem j_w1(m:Nat)(hm:48<m)(b p1 p2 p3 l:List Int):L_122_138_1_1 m 16 p1 p2 p3 l (Sp.w0 b)=some (.e0 p1 p2 p3 l (Sp.w1 b)):=by
 refine(cnt_loop (fun m j a=>L_122_138_1_1 m j p1 p2 p3 l a) (n:=64) (inv:=fun j a=>a.length=64/\16<=j) (step:=Sp.stW) (ex:=fun a=>some (.e0 p1 p2 p3 l a)) ?_ ?_ ?_ 48 m 16 (Sp.w0 b) (by omega) ⟨w0_len b,by omega⟩ hm)
 ·intro m j a hj ⟨ha,hj16⟩
  show L_122_138_1_1 (m+1) j p1 p2 p3 l a=_
  rw[L_122_138_1_1,S_122_138_1_1]
  have h1:((j:Int)-15).toNat=j-15:=by omega
  have h2:((j:Int)-2).toNat=j-2:=by omega
  have h3:((j:Int)-7).toNat=j-7:=by omega
  have h4:((j:Int)-16).toNat=j-16:=by omega
  simp (disch:=first|omega|(simp only[List.length_drop,List.length_take,List.length_set,List.length_append,List.length_replicate,List.length_cons,List.length_nil];omega)) only[gd_and,gd_tt,gd_dec,gd_beq,gd_inB,gd_sl3,gd_room,cond_dtt,cond_dff,cond_ett,cond_eff,cond_ntt,cond_nff,cond_t,cond_f,wi64,Int.toNat_natCast,h1,h2,h3,h4,right7,right18,right17,right19]
  rfl
 ·intro j a hj ⟨ha,hj16⟩;exact⟨by simpa[Sp.stW]using ha,by omega⟩
 ·intro m a ⟨ha,_⟩
  show L_122_138_1_1 (m+1) 64 p1 p2 p3 l a=_
  rw[L_122_138_1_1,S_122_138_1_1,cond_dff (by decide)]
theorem j_rn(m:Nat)(hm:64<m)(p1 p2 k l w s:List Int):L_122_138_2_1 m 0 p1 p2 k l w s=some (.e0 p1 p2 k l (Sp.rnds k w s)):=by
 refine(cnt0 (fun m j a=>L_122_138_2_1 m j p1 p2 k l w a) (n:=64) (inv:=fun _ _=>True) (step:=Sp.stR k w) (ex:=fun a=>some (.e0 p1 p2 k l a)) (m:=m) trivial hm ?_ ?_ ?_)
 ·intro m j a hj _
  show L_122_138_2_1 (m+1) j p1 p2 k l w a=_
  rw[L_122_138_2_1,S_122_138_2_1]
  simp (disch:=first|omega|(simp only[List.length_drop,List.length_take,List.length_set,List.length_append,List.length_replicate,List.length_cons,List.length_nil];omega)) only[gd_and,gd_tt,gd_dec,gd_beq,gd_inB,gd_sl3,gd_room,cond_dtt,cond_dff,cond_ett,cond_eff,cond_ntt,cond_nff,cond_t,cond_f,wi64,Int.toNat_natCast,right6,right11,right25,right2,right13,right22]
  rfl
 ·intro j a hj _;trivial
 ·intro m a _
  show L_122_138_2_1 (m+1) 64 p1 p2 k l w a=_
  rw[L_122_138_2_1,S_122_138_2_1,cond_dff (by decide)]
theorem j_ad(m:Nat)(hm:8<m)(p1 s k l v:List Int):L_122_138_3_1 m 0 p1 s k l v=some (.e0 p1 (Sp.addS s v) k l):=by
 refine(cnt0 (fun m j a=>L_122_138_3_1 m j p1 a k l v) (n:=8) (inv:=fun _ _=>True) (step:=fun j s=>s.set j (wrap .u32 (s.getD j 0+v.getD j 0))) (ex:=fun a=>some (.e0 p1 a k l)) (m:=m) trivial hm ?_ ?_ ?_)
 ·intro m j a hj _
  show L_122_138_3_1 (m+1) j p1 a k l v=_
  rw[L_122_138_3_1,S_122_138_3_1]
  simp (disch:=first|omega|(simp only[List.length_drop,List.length_take,List.length_set,List.length_append,List.length_replicate,List.length_cons,List.length_nil];omega)) only[gd_and,gd_tt,gd_dec,gd_beq,gd_inB,gd_sl3,gd_room,cond_dtt,cond_dff,cond_ett,cond_eff,cond_ntt,cond_nff,cond_t,cond_f,wi64,Int.toNat_natCast]
  rfl
 ·intro j a hj _;trivial
 ·intro m a _
  show L_122_138_3_1 (m+1) 8 p1 a k l v=_
  rw[L_122_138_3_1,S_122_138_3_1,cond_dff (by decide)]
theorem r_w0(m:Nat)(hm:16<m)(b p2 p3:List Int)(hb:b.length=64):L_132_0 m b 0 p2 p3 (replicate 64 0)=some (.e0 p2 p3 (Sp.w0 b)):=by
 refine(cnt0 (fun m j a=>L_132_0 m b j p2 p3 a) (n:=16) (inv:=fun _ a=>a.length=64) (step:=fun j a=>a.set j (Sp.wat b (4*j))) (ex:=fun a=>some (.e0 p2 p3 a)) (m:=m) (by simp) hm ?_ ?_ ?_)
 ·intro m j a hj ha
  show L_132_0 (m+1) b j p2 p3 a=_
  rw[L_132_0,S_132_0]
  have h1:(4*(j:Int)).toNat=4*j:=by omega
  have h2:(4*(j:Int)+1).toNat=4*j+1:=by omega
  have h3:(4*(j:Int)+2).toNat=4*j+2:=by omega
  have h4:(4*(j:Int)+3).toNat=4*j+3:=by omega
  simp (disch:=first|omega|(simp only[List.length_drop,List.length_take,List.length_set,List.length_append,List.length_replicate,List.length_cons,List.length_nil];omega)) only[gd_and,gd_tt,gd_dec,gd_beq,gd_inB,gd_sl3,gd_room,cond_dtt,cond_dff,cond_ett,cond_eff,cond_ntt,cond_nff,cond_t,cond_f,wi64,Int.toNat_natCast,h1,h2,h3,h4]
  rfl
 ·intro j a hj ha;simpa using ha
 ·intro m a ha
  show L_132_0 (m+1) b 16 p2 p3 a=_
  rw[L_132_0,S_132_0,cond_dff (by decide)]
theorem r_w1(m:Nat)(hm:48<m)(b p1 p2:List Int):L_132_1 m 16 p1 p2 (Sp.w0 b)=some (.e0 p1 p2 (Sp.w1 b)):=by
 refine(cnt_loop (fun m j a=>L_132_1 m j p1 p2 a) (n:=64) (inv:=fun j a=>a.length=64/\16<=j) (step:=Sp.stW) (ex:=fun a=>some (.e0 p1 p2 a)) ?_ ?_ ?_ 48 m 16 (Sp.w0 b) (by omega) ⟨w0_len b,by omega⟩ hm)
 ·intro m j a hj ⟨ha,hj16⟩
  show L_132_1 (m+1) j p1 p2 a=_
  rw[L_132_1,S_132_1]
  have h1:((j:Int)-15).toNat=j-15:=by omega
  have h2:((j:Int)-2).toNat=j-2:=by omega
  have h3:((j:Int)-7).toNat=j-7:=by omega
  have h4:((j:Int)-16).toNat=j-16:=by omega
  simp (disch:=first|omega|(simp only[List.length_drop,List.length_take,List.length_set,List.length_append,List.length_replicate,List.length_cons,List.length_nil];omega)) only[gd_and,gd_tt,gd_dec,gd_beq,gd_inB,gd_sl3,gd_room,cond_dtt,cond_dff,cond_ett,cond_eff,cond_ntt,cond_nff,cond_t,cond_f,wi64,Int.toNat_natCast,h1,h2,h3,h4,turn7,turn18,turn17,turn19]
  rfl
 ·intro j a hj ⟨ha,hj16⟩;exact⟨by simpa[Sp.stW]using ha,by omega⟩
 ·intro m a ⟨ha,_⟩
  show L_132_1 (m+1) 64 p1 p2 a=_
  rw[L_132_1,S_132_1,cond_dff (by decide)]
theorem r_rn(m:Nat)(hm:64<m)(p1 p2 w k s:List Int):L_132_2 m 0 p1 p2 w k s=some (.e0 p1 p2 (Sp.rnds k w s)):=by
 refine(cnt0 (fun m j a=>L_132_2 m j p1 p2 w k a) (n:=64) (inv:=fun _ _=>True) (step:=Sp.stR k w) (ex:=fun a=>some (.e0 p1 p2 a)) (m:=m) trivial hm ?_ ?_ ?_)
 ·intro m j a hj _
  show L_132_2 (m+1) j p1 p2 w k a=_
  rw[L_132_2,S_132_2]
  simp (disch:=first|omega|(simp only[List.length_drop,List.length_take,List.length_set,List.length_append,List.length_replicate,List.length_cons,List.length_nil];omega)) only[gd_and,gd_tt,gd_dec,gd_beq,gd_inB,gd_sl3,gd_room,cond_dtt,cond_dff,cond_ett,cond_eff,cond_ntt,cond_nff,cond_t,cond_f,wi64,Int.toNat_natCast,turn6,turn11,turn25,turn2,turn13,turn22]
  rfl
 ·intro j a hj _;trivial
 ·intro m a _
  show L_132_2 (m+1) 64 p1 p2 w k a=_
  rw[L_132_2,S_132_2,cond_dff (by decide)]
theorem r_ad(m:Nat)(hm:8<m)(s p2 v:List Int):L_132_3 m 0 s p2 v=some (.e0 (Sp.addS s v) p2):=by
 refine(cnt0 (fun m j a=>L_132_3 m j a p2 v) (n:=8) (inv:=fun _ _=>True) (step:=fun j s=>s.set j (wrap .u32 (s.getD j 0+v.getD j 0))) (ex:=fun a=>some (.e0 a p2)) (m:=m) trivial hm ?_ ?_ ?_)
 ·intro m j a hj _
  show L_132_3 (m+1) j a p2 v=_
  rw[L_132_3,S_132_3]
  simp (disch:=first|omega|(simp only[List.length_drop,List.length_take,List.length_set,List.length_append,List.length_replicate,List.length_cons,List.length_nil];omega)) only[gd_and,gd_tt,gd_dec,gd_beq,gd_inB,gd_sl3,gd_room,cond_dtt,cond_dff,cond_ett,cond_eff,cond_ntt,cond_nff,cond_t,cond_f,wi64,Int.toNat_natCast]
  rfl
 ·intro j a hj _;trivial
 ·intro m a _
  show L_132_3 (m+1) 8 a p2 v=_
  rw[L_132_3,S_132_3,cond_dff (by decide)]
noncomputable def Sp.K64:List Int:=(v_137).1
theorem pq_32:p_137=true:=by kernel_rfl
theorem pq_51:p_142=true:=by kernel_rfl
theorem vq_51:(v_142).1=Sp.K64:=by kernel_rfl
theorem r_block(s b:List Int)(hb:b.length=64):F_132 s b=some (Sp.blk Sp.K64 s b,()):=by
 unfold F_132
 rw[r_w0 _ (by omega) b s _ hb]
 simp only[B_132_0]
 rw[r_w1 _ (by omega)]
 simp only[B_132_1]
 rw[pq_51,gd_tt,vq_51,r_rn _ (by omega)]
 simp only[B_132_2]
 rw[r_ad _ (by omega)]
 rfl
namespace Sp
noncomputable def shaS:Nat->List Int->List Int->List Int
 |0,_,s=>s
 |n+1,l,s=>shaS n (l.drop 64) (blk K64 s (l.take 64))
end Sp
theorem shaS_app:∀(n m:Nat)(l s:List Int),Sp.shaS (n+m) l s=Sp.shaS m (l.drop (64*n)) (Sp.shaS n l s)
 |0,m,l,s=>by simp[Sp.shaS]
 |n+1,m,l,s=>by
  rw[show n+1+m=(n+m)+1 by omega,Sp.shaS,Sp.shaS,shaS_app n m,List.drop_drop]
  rw[show 64+64*n=64*(n+1) by omega]
theorem shaS_congr:∀(n:Nat)(l l' s:List Int),l.take (64*n)=l'.take (64*n)->Sp.shaS n l s=Sp.shaS n l' s
 |0,_,_,_,_=>rfl
 |n+1,l,l',s,h=>by
  have h1:l.take 64=l'.take 64:=by
   have:=congrArg (take 64) h
   simpa[List.take_take,show min 64 (64*(n+1))=64 by omega]using this
  have h2:(l.drop 64).take (64*n)=(l'.drop 64).take (64*n):=by
   have:=congrArg (drop 64) h
   simpa[List.drop_take,show 64*(n+1)-64=64*n by omega]using this
  rw[Sp.shaS,Sp.shaS,h1,shaS_congr n _ _ _ h2]
theorem i_main:∀(q m:Nat)(b l o s:List Int),64*q<=l.length->l.length<64*q+64->q<m->l.length<4611686018427387904->L_122_0 m b l o s Sp.K64=some (.e0 b (l.drop (64*q)) o (Sp.shaS q l s) Sp.K64)
 |0,m+1,b,l,o,s,h1,h2,_,h4=>by
  rw[L_122_0,S_122_0,cond_dff (by omega)]
  simp[Sp.shaS]
 |q+1,m+1,b,l,o,s,h1,h2,h3,h4=>by
  rw[L_122_0,S_122_0,cond_dtt (by omega),gd_sl3 (by omega) (by omega) (by omega),List.drop_zero,i_w0 _ (by omega) _ _ _ _ (by simp;omega)]
  simp only[B_122_138_0_0]
  rw[i_w1 _ (by omega)]
  simp only[B_122_138_1_0]
  rw[i_rn _ (by omega)]
  simp only[B_122_138_2_0]
  rw[i_ad _ (by omega)]
  simp only[B_122_138_3_0]
  rw[gd_sl3 (by omega) (by omega) (by omega),i_main q m b (l.drop 64) o _ (by simp;omega) (by simp;omega) (by omega) (by simp;omega),List.drop_drop,Sp.shaS]
  rw[show 64+64*q=64*(q+1) by omega]
  rfl
theorem r_main:∀(q m j:Nat)(l o s:List Int),l.length=64*(j+q)->q<m->l.length<4611686018427387904->L_116_0 m l ((64*j:Nat):Int) o s=some (.e0 o (Sp.shaS q (l.drop (64*j)) s))
 |0,m+1,j,l,o,s,h1,_,h4=>by
  rw[L_116_0,S_116_0,cond_dff (by omega)]
  rfl
 |q+1,m+1,j,l,o,s,h1,h3,h4=>by
  have e1:(((64*j:Nat):Int)+64)=((64*(j+1):Nat):Int):=by omega
  have e2:64*(j+1)-64*j=64:=by omega
  rw[L_116_0,S_116_0,cond_dtt (by omega),wi64 (by omega) (by omega),gd_sl3 (by omega) (by omega) (by omega),e1,Int.toNat_natCast,Int.toNat_natCast,e2]
  have hb:=pv_132 _ _ (r_block s ((l.drop (64*j)).take 64) (by simp;omega))
  rw[hb.1,hb.2,gd_tt,r_main q m (j+1) l o _ (by omega) (by omega) h4,Sp.shaS,List.drop_drop]
  rfl
set_option maxRecDepth 100000
set_option maxHeartbeats 4000000
theorem j_main:∀(q m j:Nat)(o s l:List Int),j+q<=2->l.length=128->q<m->L_122_2 m ((64*(j+q):Nat):Int) ((64*j:Nat):Int) o s Sp.K64 l=some (.e0 o (Sp.shaS q (l.drop (64*j)) s))
 |0,m+1,j,o,s,l,h1,h2,_=>by
  rw[L_122_2,S_122_2,cond_dff (by omega)]
  rfl
 |q+1,m+1,j,o,s,l,h1,h2,h3=>by
  have e1:(((64*j:Nat):Int)+64)=((64*(j+1):Nat):Int):=by omega
  have e2:64*(j+1)-64*j=64:=by omega
  rw[L_122_2,S_122_2,cond_dtt (by omega),wi64 (by omega) (by omega),gd_sl3 (by omega) (by omega) (by omega),e1,Int.toNat_natCast,Int.toNat_natCast,e2,j_w0 _ (by omega) _ _ _ _ _ _ (by omega) h2]
  simp only[B_122_138_0_1]
  rw[j_w1 _ (by omega)]
  simp only[B_122_138_1_1]
  rw[j_rn _ (by omega)]
  simp only[B_122_138_2_1]
  rw[j_ad _ (by omega)]
  simp only[B_122_138_3_1]
  have:=j_main q m (j+1) o (Sp.addS s (Sp.rnds Sp.K64 (Sp.w1 ((l.drop (64*j)).take 64)) s)) l (by omega) h2 (by omega)
  rw[show j+1+q=j+(q+1) by omega]at this
  rw[this,Sp.shaS,List.drop_drop]
  rfl
theorem pad0:∀(c m:Nat)(b p:List Int),(p.length+c)%64=56->c<64->c<m->p.length+c<140737488300000->L_131_0 m b p=some (.e0 b (p++replicate c 0))
 |0,m+1,b,p,h1,_,_,_=>by
  have e:Int.tmod (p.length:Int) 64=((p.length%64:Nat):Int):=(Int.ofNat_tmod p.length 64).symm
  rw[L_131_0,S_131_0,e,cond_nff (by omega)]
  simp
 |c+1,m+1,b,p,h1,h2,h3,h4=>by
  have e:Int.tmod (p.length:Int) 64=((p.length%64:Nat):Int):=(Int.ofNat_tmod p.length 64).symm
  rw[L_131_0,S_131_0,e,cond_ntt (by omega),gd_room (by omega) (by omega),pad0 c m b (p++[0]) (by simp;omega) (by omega) (by omega) (by simp;omega),List.append_assoc]
  rfl
namespace Sp
noncomputable def szB(n:Int):List Int:=[wrap .u8 (Int.fdiv n (2^56)),wrap .u8 (Int.fdiv n (2^48)),wrap .u8 (Int.fdiv n (2^40)),wrap .u8 (Int.fdiv n (2^32)),wrap .u8 (Int.fdiv n (2^24)),wrap .u8 (Int.fdiv n (2^16)),wrap .u8 (Int.fdiv n (2^8)),wrap .u8 (Int.fdiv n (2^0))]
noncomputable def padB(b:List Int)(c:Nat):List Int:=b++[128]++replicate c 0++szB (b.length*8)
end Sp
theorem pad_step(m:Nat)(n:Int)(i:Nat)(hi:i<=56)(p:List Int)(hp:p.length<140737488300000):L_131_1 (m+1) n (i:Nat) p=L_131_1 m n ((i:Int)-8) (p++[wrap .u8 (Int.fdiv n (2^i))]):=by
 rw[L_131_1,S_131_1,cond_dtt (by omega),wu64 (by omega) (by omega),gd_dec (by omega),gd_room (by omega) (by omega),wi64 (by omega) (by omega),Int.toNat_natCast,nmin_l (by omega)]
theorem pad1(m:Nat)(hm:9<m)(n:Int)(p:List Int)(hp:p.length<140737488200000):L_131_1 m n 56 p=some (.e0 (p++Sp.szB n)):=by
 obtain⟨m,rfl⟩:∃k,m=k+9:=⟨m-9,by omega⟩
 have h:=pad_step (m+8) n 56 (by omega) p (by omega)
 have h2:=pad_step (m+7) n 48 (by omega) (p++[wrap .u8 (Int.fdiv n (2^56))]) (by simp;omega)
 have h3:=pad_step (m+6) n 40 (by omega) (p++[wrap .u8 (Int.fdiv n (2^56))]++[wrap .u8 (Int.fdiv n (2^48))]) (by simp;omega)
 have h4:=pad_step (m+5) n 32 (by omega) (p++[wrap .u8 (Int.fdiv n (2^56))]++[wrap .u8 (Int.fdiv n (2^48))]++[wrap .u8 (Int.fdiv n (2^40))]) (by simp;omega)
 have h5:=pad_step (m+4) n 24 (by omega) (p++[wrap .u8 (Int.fdiv n (2^56))]++[wrap .u8 (Int.fdiv n (2^48))]++[wrap .u8 (Int.fdiv n (2^40))]++[wrap .u8 (Int.fdiv n (2^32))]) (by simp;omega)
 have h6:=pad_step (m+3) n 16 (by omega) (p++[wrap .u8 (Int.fdiv n (2^56))]++[wrap .u8 (Int.fdiv n (2^48))]++[wrap .u8 (Int.fdiv n (2^40))]++[wrap .u8 (Int.fdiv n (2^32))]++[wrap .u8 (Int.fdiv n (2^24))]) (by simp;omega)
 have h7:=pad_step (m+2) n 8 (by omega) (p++[wrap .u8 (Int.fdiv n (2^56))]++[wrap .u8 (Int.fdiv n (2^48))]++[wrap .u8 (Int.fdiv n (2^40))]++[wrap .u8 (Int.fdiv n (2^32))]++[wrap .u8 (Int.fdiv n (2^24))]++[wrap .u8 (Int.fdiv n (2^16))]) (by simp;omega)
 have h8:=pad_step (m+1) n 0 (by omega) (p++[wrap .u8 (Int.fdiv n (2^56))]++[wrap .u8 (Int.fdiv n (2^48))]++[wrap .u8 (Int.fdiv n (2^40))]++[wrap .u8 (Int.fdiv n (2^32))]++[wrap .u8 (Int.fdiv n (2^24))]++[wrap .u8 (Int.fdiv n (2^16))]++[wrap .u8 (Int.fdiv n (2^8))]) (by simp;omega)
 refine h.trans (h2.trans (h3.trans (h4.trans (h5.trans (h6.trans (h7.trans (h8.trans ?_)))))))
 show L_131_1 (m+1) n (-8) _=_
 rw[L_131_1,S_131_1,cond_dff (by decide)]
 simp[Sp.szB]
theorem pad_ok(b:List Int)(c:Nat)(h1:(b.length+1+c)%64=56)(h2:c<64)(h3:b.length<100000000000):F_131 b=some (Sp.padB b c,()):=by
 unfold F_131
 rw[gd_room (by omega) (by omega),List.nil_append,gd_room (by omega) (by omega),pad0 c _ b (b++[128]) (by simp;omega) h2 (by omega) (by simp;omega)]
 simp only[B_131_0]
 rw[wu64 (n:=(b.length:Int)) (by omega) (by omega),wu64 (n:=(b.length:Int)*8) (by omega) (by omega),pad1 _ (by omega) _ _ (by simp;omega)]
 rfl
set_option maxRecDepth 100000
set_option maxHeartbeats 4000000
namespace Sp
noncomputable def H0:List Int:=[1779033703,3144134277,1013904242,2773480762,1359893119,2600822924,528734635,1541459225]
noncomputable def outB(s:List Int):List Int:=foldB (fun i o=>(((o.set (4*i) (wrap .u8 (Int.fdiv (s.getD i 0) 16777216))).set (4*i+1) (wrap .u8 (Int.fdiv (s.getD i 0) 65536))).set (4*i+2) (wrap .u8 (Int.fdiv (s.getD i 0) 256))).set (4*i+3) (wrap .u8 (s.getD i 0))) 0 8 (replicate 32 0)
noncomputable def sha(b:List Int):List Int:=outB (shaS ((b.length+72)/64) (padB b ((119-b.length%64)%64)) H0)
end Sp
theorem i_out(m:Nat)(hm:8<m)(s p2:List Int):L_122_3 m s 0 p2 (replicate 32 0)=some (.e0 p2 (Sp.outB s)):=by
 refine(cnt0 (fun m j a=>L_122_3 m s j p2 a) (n:=8) (inv:=fun _ a=>True) (step:=fun i o=>(((o.set (4*i) (wrap .u8 (Int.fdiv (s.getD i 0) 16777216))).set (4*i+1) (wrap .u8 (Int.fdiv (s.getD i 0) 65536))).set (4*i+2) (wrap .u8 (Int.fdiv (s.getD i 0) 256))).set (4*i+3) (wrap .u8 (s.getD i 0))) (ex:=fun a=>some (.e0 p2 a)) (m:=m) trivial hm ?_ ?_ ?_)
 ·intro m j a hj _
  show L_122_3 (m+1) s j p2 a=_
  rw[L_122_3,S_122_3]
  have h1:(4*(j:Int)).toNat=4*j:=by omega
  simp (disch:=first|omega|(simp only[List.length_drop,List.length_take,List.length_set,List.length_append,List.length_replicate,List.length_cons,List.length_nil];omega)) only[gd_and,gd_tt,gd_dec,gd_beq,gd_inB,gd_sl3,gd_room,cond_dtt,cond_dff,cond_ett,cond_eff,cond_ntt,cond_nff,cond_t,cond_f,wi64,Int.toNat_natCast,h1,Nat.add_zero]
  rfl
 ·intro j a hj _;trivial
 ·intro m a _
  show L_122_3 (m+1) s 8 p2 a=_
  rw[L_122_3,S_122_3,cond_dff (by decide)]
namespace Sp
noncomputable def stO(s:List Int)(j:Nat)(o:List Int):List Int:=o.set j (wrap .u8 (Int.fdiv (s.getD (j/4) 0) (2^(24-j%4*8))))
end Sp
theorem r_out(m:Nat)(hm:32<m)(s p1:List Int):L_116_1 m 0 p1 s (replicate 32 0)=some (.e0 p1 (foldB (Sp.stO s) 0 32 (replicate 32 0))):=by
 refine(cnt0 (fun m j a=>L_116_1 m j p1 s a) (n:=32) (inv:=fun _ a=>True) (step:=Sp.stO s) (ex:=fun a=>some (.e0 p1 a)) (m:=m) trivial hm ?_ ?_ ?_)
 ·intro m j a hj _
  show L_116_1 (m+1) j p1 s a=_
  have e:Int.tmod (j:Int) 4=((j%4:Nat):Int):=(Int.ofNat_tmod j 4).symm
  have e2:Int.tdiv (j:Int) 4=((j/4:Nat):Int):=(Int.ofNat_tdiv j 4).symm
  have e3:((24:Int)-((j%4:Nat):Int)*8)=((24-j%4*8:Nat):Int):=by omega
  rw[L_116_1,S_116_1,e,e2]
  simp (disch:=first|omega|(simp only[List.length_drop,List.length_take,List.length_set,List.length_append,List.length_replicate,List.length_cons,List.length_nil];omega)) only[gd_and,gd_tt,gd_dec,gd_beq,gd_inB,gd_sl3,gd_room,cond_dtt,cond_dff,cond_ett,cond_eff,cond_ntt,cond_nff,cond_t,cond_f,wi64,Int.toNat_natCast]
  rw[e3,wu64 (by omega) (by omega),gd_dec (by omega),Int.toNat_natCast,nmin_l (by omega)]
  rfl
 ·intro j a hj _;trivial
 ·intro m a _
  show L_116_1 (m+1) 32 p1 s a=_
  rw[L_116_1,S_116_1,cond_dff (by decide)]
theorem fdiv1(x:Int):Int.fdiv x (2^0)=x:=by simp
theorem out_eq(s:List Int):foldB (Sp.stO s) 0 32 (replicate 32 0)=Sp.outB s:=by
 simp only[foldB,Sp.outB,Sp.stO,fdiv1,Nat.reduceMul,Nat.reduceAdd,Nat.reduceDiv,Nat.reduceMod,Nat.reduceSub]
 rfl
set_option maxRecDepth 100000
set_option maxHeartbeats 4000000
theorem r_sum(b:List Int)(h3:b.length<100000000000):F_116 b=some (Sp.sha b,()):=by
 have hp:=pv_131 _ (pad_ok b ((119-b.length%64)%64) (by omega) (by omega) h3)
 have hl:(Sp.padB b ((119-b.length%64)%64)).length=64*(0+(b.length+72)/64):=by
  simp[Sp.padB,Sp.szB];omega
 unfold F_116
 rw[hp.1,hp.2,gd_tt]
 have:=r_main ((b.length+72)/64) 4611686018427387904 0 _ (replicate 32 0) Sp.H0 hl (by omega) (by omega)
 rw[show((64*0:Nat):Int)=0 from rfl]at this
 show B_116_0 (L_116_0 _ _ 0 (replicate 32 0) Sp.H0) _=_
 rw[this]
 simp only[B_116_0]
 rw[r_out _ (by omega),out_eq]
 rfl
theorem set8(A C:List Int)(c0 c1 c2 c3 c4 c5 c6 c7 x0 x1 x2 x3 x4 x5 x6 x7:Int)(n:Nat)(hn:A.length=n) :
 ((((((((A++c0::c1::c2::c3::c4::c5::c6::c7::C).set (n+0) x0).set (n+1) x1).set (n+2) x2).set (n+3) x3).set (n+4) x4).set (n+5) x5).set (n+6) x6).set (n+7) x7=A++x0::x1::x2::x3::x4::x5::x6::x7::C:=by
 subst hn
 simp only[List.set_append,Nat.lt_irrefl,Nat.add_sub_cancel_left,if_false,show ∀k,¬(A.length+k<A.length)from fun k=>by omega,List.set_cons_zero,List.set_cons_succ]
theorem size_eq(n:Int)(h0:0<=n)(h1:n<18446744073709551616):[wrap .u8 (Int.fdiv (wrap .u32 (Int.fdiv n 4294967296)) 16777216),wrap .u8 (Int.fdiv (wrap .u32 (Int.fdiv n 4294967296)) 65536),wrap .u8 (Int.fdiv (wrap .u32 (Int.fdiv n 4294967296)) 256),wrap .u8 (wrap .u32 (Int.fdiv n 4294967296)),wrap .u8 (Int.fdiv (wrap .u32 n) 16777216),wrap .u8 (Int.fdiv (wrap .u32 n) 65536),wrap .u8 (Int.fdiv (wrap .u32 n) 256),wrap .u8 (wrap .u32 n)]=Sp.szB n:=by
 unfold Sp.szB
 simp only[u8_mod,u32_mod,Int.fdiv_eq_ediv_of_nonneg _ (show(0:Int)<=4294967296 by decide),Int.fdiv_eq_ediv_of_nonneg _ (show(0:Int)<=16777216 by decide),Int.fdiv_eq_ediv_of_nonneg _ (show(0:Int)<=65536 by decide),Int.fdiv_eq_ediv_of_nonneg _ (show(0:Int)<=256 by decide),
  Int.fdiv_eq_ediv_of_nonneg _ (show(0:Int)<=2^56 by decide),Int.fdiv_eq_ediv_of_nonneg _ (show(0:Int)<=2^48 by decide),Int.fdiv_eq_ediv_of_nonneg _ (show(0:Int)<=2^40 by decide),Int.fdiv_eq_ediv_of_nonneg _ (show(0:Int)<=2^32 by decide),Int.fdiv_eq_ediv_of_nonneg _ (show(0:Int)<=2^24 by decide),Int.fdiv_eq_ediv_of_nonneg _ (show(0:Int)<=2^16 by decide),Int.fdiv_eq_ediv_of_nonneg _ (show(0:Int)<=2^8 by decide),fdiv1]
 simp only[List.cons.injEq,and_true]
 refine⟨?_,?_,?_,?_,?_,?_,?_,?_⟩<;>omega
theorem last_eq(rest:List Int)(e:Nat)(he:e=64\/e=128)(hn:rest.length+9<=e):(over (replicate 128 0) 0 (rest.take 128)).set rest.length 128=(rest++[128]++replicate (e-9-rest.length) 0)++(0:Int)::0::0::0::0::0::0::0::replicate (128-e) 0:=by
 have h1:rest.take 128=rest:=List.take_of_length_le (by omega)
 have h2:over (replicate 128 (0:Int)) 0 rest=rest++0::replicate (127-rest.length) 0:=by
  unfold over
  simp only[List.take_zero,List.nil_append,List.drop_replicate]
  rw[show 128-(0+rest.length)=(127-rest.length)+1 by omega,List.replicate_succ]
 rw[h1,h2,List.set_append,if_neg (by omega),Nat.sub_self,List.set_cons_zero]
 rw[show 127-rest.length=(e-9-rest.length)+(8+(128-e)) by omega,<-List.replicate_append_replicate,<-List.replicate_append_replicate]
 simp[replicate]
theorem J_ok(b o st rest:List Int)(e:Nat)(he:e=64\/e=128)(hn:rest.length+9<=e)(hb:b.length<100000000000) :
 J_122_1 b e (replicate 32 0) st Sp.K64 ((over (replicate 128 0) 0 (rest.take 128)).set rest.length 128)=some (.e0 (Sp.outB (Sp.shaS (e/64) (rest++[128]++replicate (e-9-rest.length) 0++Sp.szB (b.length*8)) st))):=by
 have e8:((e:Int)-8).toNat=e-8:=by omega
 have e4:((e:Int)-4).toNat=e-4:=by omega
 rw[last_eq rest e he hn]
 unfold J_122_1 S_122_1
 simp (disch:=first|omega|(simp only[List.length_drop,List.length_take,List.length_set,List.length_append,List.length_replicate,List.length_cons,List.length_nil];omega)) only[gd_and,gd_tt,gd_dec,gd_beq,gd_inB,gd_sl3,gd_room,cond_dtt,cond_dff,cond_ett,cond_eff,cond_ntt,cond_nff,cond_t,cond_f,wi64,Int.toNat_natCast,e8,e4]
 rw[wu64 (n:=(b.length:Int)) (by omega) (by omega),wu64 (n:=(b.length:Int)*8) (by omega) (by omega)]
 rw[show e-4+0=e-8+4 by omega,show e-4+1=e-8+5 by omega,show e-4+2=e-8+6 by omega,show e-4+3=e-8+7 by omega]
 rw[set8 _ _ _ _ _ _ _ _ _ _ _ _ _ _ _ _ _ _ (e-8) (by simp;omega)]
 have hsz:=size_eq ((b.length:Int)*8) (by omega) (by omega)
 generalize hA:rest++[128]++replicate (e-9-rest.length) (0:Int)=A
 have hAl:A.length=e-8:=by rw[<-hA];simp;omega
 generalize hx:(wrap .u8 (Int.fdiv (wrap .u32 (Int.fdiv ((b.length:Int)*8) 4294967296)) 16777216))=x0 at hsz⊢
 generalize (wrap .u8 (Int.fdiv (wrap .u32 (Int.fdiv ((b.length:Int)*8) 4294967296)) 65536))=x1 at hsz⊢
 generalize (wrap .u8 (Int.fdiv (wrap .u32 (Int.fdiv ((b.length:Int)*8) 4294967296)) 256))=x2 at hsz⊢
 generalize (wrap .u8 (wrap .u32 (Int.fdiv ((b.length:Int)*8) 4294967296)))=x3 at hsz⊢
 generalize (wrap .u8 (Int.fdiv (wrap .u32 ((b.length:Int)*8)) 16777216))=x4 at hsz⊢
 generalize (wrap .u8 (Int.fdiv (wrap .u32 ((b.length:Int)*8)) 65536))=x5 at hsz⊢
 generalize (wrap .u8 (Int.fdiv (wrap .u32 ((b.length:Int)*8)) 256))=x6 at hsz⊢
 generalize (wrap .u8 (wrap .u32 ((b.length:Int)*8)))=x7 at hsz⊢
 have hl:(A++x0::x1::x2::x3::x4::x5::x6::x7::replicate (128-e) 0).length=128:=by simp[hAl];omega
 have hm:=j_main (e/64) 4611686018427387904 0 (replicate 32 0) st _ (by omega) hl (by omega)
 rw[show 64*(0+e/64)=e by omega,show((64*0:Nat):Int)=0 from rfl]at hm
 rw[hm]
 simp only[B_122_2]
 rw[List.drop_zero,i_out _ (by omega)]
 simp only[B_122_3]
 rw[<-hsz,shaS_congr (e/64) _ (A++[x0,x1,x2,x3,x4,x5,x6,x7])]
 rw[show 64*(e/64)=(A++[x0,x1,x2,x3,x4,x5,x6,x7]).length by simp[hAl];omega,List.take_length,
  show A++x0::x1::x2::x3::x4::x5::x6::x7::replicate (128-e) 0=(A++[x0,x1,x2,x3,x4,x5,x6,x7])++replicate (128-e) 0 by simp,List.take_left]
theorem i_sum(b:List Int)(h3:b.length<100000000000):F_122 b=some (Sp.sha b,()):=by
 unfold F_122
 rw[pq_32,gd_tt]
 have hq:=i_main (b.length/64) 4611686018427387904 b b (replicate 32 0) Sp.H0 (by omega) (by omega) (by omega) (by omega)
 show B_122_0 (L_122_0 _ b b (replicate 32 0) Sp.H0 Sp.K64) _=_
 rw[hq]
 simp only[B_122_0]
 have hrl:(b.drop (64*(b.length/64))).length=b.length%64:=by simp;omega
 generalize hr:b.drop (64*(b.length/64))=rest at hrl⊢
 rw[nmin_l (by omega),gd_inB (by omega) (by omega),Int.toNat_natCast,gd_and,gd_dec (by omega),gd_tt,wi64 (by omega) (by omega)]
 have hN:(b.length+72)/64=b.length/64+((if rest.length<=55 then 64 else 128)/64):=by split<;>omega
 have hfin:∀e:Nat,e=(if rest.length<=55 then 64 else 128)->Sp.outB (Sp.shaS (e/64) (rest++[128]++replicate (e-9-rest.length) 0++Sp.szB (b.length*8)) (Sp.shaS (b.length/64) b Sp.H0))=Sp.sha b:=by
  intro e he
  unfold Sp.sha
  rw[hN,<-he,shaS_app]
  have hc:(119-b.length%64)%64=e-9-rest.length:=by rw[hrl]at he⊢;split at he<;>omega
  have e1:(Sp.padB b ((119-b.length%64)%64)).drop (64*(b.length/64))=rest++[128]++replicate (e-9-rest.length) 0++Sp.szB (b.length*8):=by
   rw[hc,Sp.padB]
   simp only[List.append_assoc]
   rw[List.drop_append_of_le_length (by omega),hr]
  have e2:Sp.shaS (b.length/64) (Sp.padB b ((119-b.length%64)%64)) Sp.H0=Sp.shaS (b.length/64) b Sp.H0:=by
   refine shaS_congr _ _ _ _ ?_
   rw[Sp.padB]
   simp only[List.append_assoc]
   rw[List.take_append_of_le_length (by omega)]
  rw[e1,e2]
 by_cases h:rest.length<=55
 ·rw[cond_dff (by omega)]
  have:=J_ok b (replicate 32 0) (Sp.shaS (b.length/64) b Sp.H0) rest 64 (.inl rfl) (by omega) h3
  rw[show((64:Nat):Int)=64 from rfl]at this
  rw[this]
  simp only[B_122_1]
  rw[hfin 64 (by rw[if_pos h])]
 ·rw[cond_dtt (by omega)]
  have:=J_ok b (replicate 32 0) (Sp.shaS (b.length/64) b Sp.H0) rest 128 (.inr rfl) (by omega) h3
  rw[show((128:Nat):Int)=128 from rfl]at this
  rw[this]
  simp only[B_122_1]
  rw[hfin 128 (by rw[if_neg h])]
namespace Sp
noncomputable def hi4(x:Int):Int:=wrap .i64 (Int.fdiv x 16)
noncomputable def lo4(x:Int):Int:=wrap .i64 (andI .u8 x 15)
noncomputable def dig(h:List Int)(j:Nat):Int:=if j%2=0 then hi4 (h.getD (j/2) 0)else lo4 (h.getD (j/2) 0)
noncomputable def digs(h:List Int)(n:Nat):List Int:=(List.range n).map (dig h)
noncomputable def dsum(h:List Int):Nat->Int
 |0=>0
 |n+1=>dsum h n+(15-dig h n)
end Sp
theorem and15(x:Int):Sp.andI .u8 x 15=x%16:=by
 unfold Sp.andI
 rw[u8_mod]
 have h:(BitVec.ofInt 8 x&&&BitVec.ofInt 8 15).toNat=(BitVec.ofInt 8 x).toNat%16:=by
  rw[BitVec.toNat_and]
  show(BitVec.ofInt 8 x).toNat&&&15=_
  exact Nat.and_two_pow_sub_one_eq_mod _ 4
 show(((BitVec.ofInt 8 x&&&BitVec.ofInt 8 15).toNat:Nat):Int)%256=x%16
 rw[h,BitVec.toNat_ofInt]
 omega
theorem hi_b(x:Int)(h0:0<=x)(h1:x<=255):0<=Sp.hi4 x/\Sp.hi4 x<=15:=by
 unfold Sp.hi4
 rw[Int.fdiv_eq_ediv_of_nonneg _ (by decide),wi64 (by omega) (by omega)]
 omega
theorem lo_b(x:Int):0<=Sp.lo4 x/\Sp.lo4 x<=15:=by
 unfold Sp.lo4
 rw[and15,wi64 (by omega) (by omega)]
 omega
abbrev bytes(h:List Int):Prop:=∀x∈h,0<=x/\x<=255
theorem bytes_get{h:List Int}(hb:bytes h)(i:Nat):0<=h.getD i 0/\h.getD i 0<=255:=by
 rcases Nat.lt_or_ge i h.length with hi|hi
 ·rw[List.getD_eq_getElem?_getD,List.getElem?_eq_getElem hi];exact hb _ (List.getElem_mem hi)
 ·rw[List.getD_eq_getElem?_getD,List.getElem?_eq_none hi];simp
theorem dig_b{h:List Int}(hb:bytes h)(j:Nat):0<=Sp.dig h j/\Sp.dig h j<=15:=by
 unfold Sp.dig
 split
 ·exact hi_b _ (bytes_get hb _).1 (bytes_get hb _).2
 ·exact lo_b _
theorem dsum_b{h:List Int}(hb:bytes h):∀n,0<=Sp.dsum h n/\Sp.dsum h n<=15*n
 |0=>by simp[Sp.dsum]
 |n+1=>by
  have h1:=dsum_b hb n
  have h2:=dig_b hb n
  simp only[Sp.dsum];omega
theorem digs_len(h:List Int)(n:Nat):(Sp.digs h n).length=n:=by simp[Sp.digs]
theorem digs_succ(h:List Int)(n:Nat):Sp.digs h (n+1)=Sp.digs h n++[Sp.dig h n]:=by simp[Sp.digs,List.range_succ]
theorem i_dig1(m:Nat)(hm:2<m)(s:Int)(h:List Int)(hb:bytes h)(q:Nat)(x y:Int)(hx:x=Sp.dig h (2*q))(hy:y=Sp.dig h (2*q+1))(i:Int)(hs:s=Sp.dsum h (2*q))(hq:q<32):L_84_1 m s h i [x,y] 0 (Sp.digs h (2*q))=some (.e0 (Sp.dsum h (2*q+2)) h i (Sp.digs h (2*q+2))):=by
 obtain⟨m,rfl⟩:∃k,m=k+3:=⟨m-3,by omega⟩
 have b0:=dsum_b hb (2*q)
 have b1:=dig_b hb (2*q)
 have b2:=dig_b hb (2*q+1)
 subst hs hx hy
 rw[L_84_1,S_84_1,cond_dtt (by decide),gd_inB (by decide) (by decide),gd_room (by rw[digs_len];omega) (by rw[digs_len];omega)]
 show L_84_1 (m+2) (wrap .i64 (Sp.dsum h (2*q)+wrap .i64 (15-Sp.dig h (2*q)))) h i _ 1 (Sp.digs h (2*q)++[Sp.dig h (2*q)])=_
 rw[wi64 (n:=15-Sp.dig h (2*q)) (by omega) (by omega),wi64 (by omega) (by omega),<-digs_succ,L_84_1,S_84_1,cond_dtt (by decide),gd_inB (by decide) (by decide),gd_room (by rw[digs_len];omega) (by rw[digs_len];omega)]
 show L_84_1 (m+1) (wrap .i64 (Sp.dsum h (2*q)+(15-Sp.dig h (2*q))+wrap .i64 (15-Sp.dig h (2*q+1)))) h i _ 2 (Sp.digs h (2*q+1)++[Sp.dig h (2*q+1)])=_
 rw[wi64 (n:=15-Sp.dig h (2*q+1)) (by omega) (by omega),wi64 (by omega) (by omega),<-digs_succ,L_84_1,S_84_1,cond_dff (by decide)]
 rfl
theorem i_dig0:∀(d m q:Nat)(h:List Int),bytes h->q+d=32->d<m->L_84_0 m (Sp.dsum h (2*q)) h (q:Nat) (Sp.digs h (2*q))=some (.e0 (Sp.dsum h 64) (Sp.digs h 64))
 |0,m+1,q,h,hb,hq,_=>by
  rw[L_84_0,S_84_0,cond_dff (by omega),show 2*q=64 by omega]
 |d+1,m+1,q,h,hb,hq,hm=>by
  rw[L_84_0,S_84_0,cond_dtt (by omega),gd_inB (by omega) (by omega),Int.toNat_natCast]
  rw[i_dig1 _ (by omega) _ h hb q _ _ (by simp[Sp.dig,Sp.hi4]) (by simp[Sp.dig,Sp.lo4,show(2*q+1)/2=q by omega,show(2*q+1)%2=1 by omega]) _ rfl (by omega)]
  simp only[B_84_1]
  rw[wi64 (by omega) (by omega)]
  exact i_dig0 d m (q+1) h hb (by omega) (by omega)
theorem r_dig0:∀(d m j:Nat)(h:List Int),bytes h->j+d=64->d<m->L_97_0 m (Sp.dsum h j) (j:Nat) h (Sp.digs h j)=some (.e0 (Sp.dsum h 64) (Sp.digs h 64))
 |0,m+1,j,h,hb,hq,_=>by
  rw[L_97_0,S_97_0,cond_dff (by omega),show j=64 by omega]
 |d+1,m+1,j,h,hb,hq,hm=>by
  have e:Int.tmod (j:Int) 2=((j%2:Nat):Int):=(Int.ofNat_tmod j 2).symm
  have e2:Int.tdiv (j:Int) 2=((j/2:Nat):Int):=(Int.ofNat_tdiv j 2).symm
  have b0:=dsum_b hb j
  have b1:=dig_b hb j
  have ih:=r_dig0 d m (j+1) h hb (by omega) (by omega)
  rw[L_97_0,S_97_0,cond_dtt (by omega),e,e2,wi64 (n:=((j/2:Nat):Int)) (by omega) (by omega),gd_inB (by omega) (by omega),gd_and,Int.toNat_natCast,gd_dec (by omega),gd_tt]
  rw[wi64 (n:=Sp.dsum h j+15) (by omega) (by omega),wi64 (n:=(j:Int)+1) (by omega) (by omega)]
  by_cases h2:j%2=0
  ·have ed:Sp.dig h j=wrap .i64 (Int.fdiv (h.getD (j/2) 0) 16):=by simp[Sp.dig,h2,Sp.hi4]
   rw[cond_eff (by omega),gd_room (by rw[digs_len];omega) (by rw[digs_len];omega),<-ed,wi64 (n:=Sp.dsum h j+15-Sp.dig h j) (by omega) (by omega),<-digs_succ,
    show Sp.dsum h j+15-Sp.dig h j=Sp.dsum h (j+1) by simp only[Sp.dsum];omega]
   exact ih
  ·have ed:Sp.dig h j=wrap .i64 (Sp.andI .u8 (h.getD (j/2) 0) 15):=by simp[Sp.dig,h2,Sp.lo4]
   rw[cond_ett (by omega),gd_inB (by omega) (by omega),gd_and,gd_dec (by omega),gd_tt,gd_room (by rw[digs_len];omega) (by rw[digs_len];omega),<-ed,wi64 (n:=Sp.dsum h j+15-Sp.dig h j) (by omega) (by omega),<-digs_succ,
    show Sp.dsum h j+15-Sp.dig h j=Sp.dsum h (j+1) by simp only[Sp.dsum];omega]
   exact ih
theorem and15'(x:Int):Sp.andI .i64 x 15=x%16:=by
 unfold Sp.andI
 have h:(BitVec.ofInt 64 x&&&BitVec.ofInt 64 15).toNat=(BitVec.ofInt 64 x).toNat%16:=by
  rw[BitVec.toNat_and]
  show(BitVec.ofInt 64 x).toNat&&&15=_
  exact Nat.and_two_pow_sub_one_eq_mod _ 4
 show wrap .i64 (((BitVec.ofInt 64 x&&&BitVec.ofInt 64 15).toNat:Nat):Int)=x%16
 rw[h,BitVec.toNat_ofInt,wi64 (by omega) (by omega)]
 omega
namespace Sp
noncomputable def digL(h:List Int):List Int:=digs h 64++[dsum h 64/256,dsum h 64/16%16,dsum h 64%16]
end Sp
theorem i_digits(h:List Int)(hb:bytes h):F_84 h=some (Sp.digL h,()):=by
 have b0:=dsum_b hb 64
 unfold F_84
 have:=i_dig0 32 4611686018427387904 0 h hb (by omega) (by omega)
 rw[show L_84_0 4611686018427387904 0 h 0 []=some (.e0 (Sp.dsum h 64) (Sp.digs h 64))from this]
 simp only[B_84_0]
 rw[gd_room (by rw[digs_len];omega) (by rw[digs_len];omega),Int.fdiv_eq_ediv_of_nonneg _ (by decide),Int.fdiv_eq_ediv_of_nonneg _ (by decide),and15',and15']
 rfl
theorem r_digits(h:List Int)(hb:bytes h):F_97 h=some (Sp.digL h,()):=by
 have b0:=dsum_b hb 64
 unfold F_97
 have:=r_dig0 64 4611686018427387904 0 h hb (by omega) (by omega)
 rw[show L_97_0 4611686018427387904 0 0 h []=some (.e0 (Sp.dsum h 64) (Sp.digs h 64))from this]
 simp only[B_97_0]
 rw[gd_room (by rw[digs_len];omega) (by rw[digs_len];omega),Int.tdiv_eq_ediv_of_nonneg b0.1,Int.tdiv_eq_ediv_of_nonneg b0.1,Int.tmod_eq_emod_of_nonneg b0.1,wi64 (by omega) (by omega),wi64 (by omega) (by omega),Int.tmod_eq_emod_of_nonneg (by omega)]
 rfl
set_option maxRecDepth 100000
set_option maxHeartbeats 4000000
abbrev BayT:=FlT×List Int×Unit
namespace Sp
noncomputable def cntB(n:Nat):Bool:=decide (n%2=0)&&(decide (18<=n)&&decide (n<=64))
noncomputable def bvb(a:BayT):Bool:=fv a.1&&cntB a.1.2.1.length
noncomputable def hlf(a:BayT):Nat:=a.1.2.1.length*32
noncomputable def wds(a:BayT)(k:Nat):List Int:=(a.1.1.drop (k*hlf a)).take (hlf a)
end Sp
theorem cnt_ok(n:Nat)(hn:n<1000000):F_75 n=some (Sp.cntB n,()):=by
 unfold F_75 Sp.cntB
 rw[Int.tmod_eq_emod_of_nonneg (by omega)]
 by_cases h:n%2=0
 ·rw[cond_ett (by omega),decide_eq_true h,Bool.true_and]
  by_cases h:18<=n
  ·rw[cond_dtt (by omega),decide_eq_true h,Bool.true_and,show decide ((n:Int)<=64)=decide (n<=64)from decide_eq_decide.2 (by omega)]
  ·rw[cond_dff (by omega),decide_eq_false h,Bool.false_and]
 ·rw[cond_eff (by omega),decide_eq_false h,Bool.false_and]
theorem val_ok(a:BayT):F_29 a=some (Sp.bvb a,()):=by
 unfold F_29 Sp.bvb
 rw[(fv_pv a.1).1,(fv_pv a.1).2,gd_tt]
 cases h:Sp.fv a.1
 ·rfl
 ·have hv:=fv_iff.1 h
  have hc:=pv_75 _ (cnt_ok a.1.2.1.length (by omega))
  rw[cond_t,hc.1,hc.2,gd_tt,Bool.true_and]
theorem val_pv(a:BayT):p_29 a=true/\v_29 a=(Sp.bvb a,()):=pv_29 a (val_ok a)
theorem bank_ok(k:Int):F_120 k=some (k==0||k==1,()):=by
 unfold F_120
 cases k==0<;>rfl
theorem bank_pv(k:Int):p_120 k=true/\v_120 k=(k==0||k==1,()):=pv_120 k (bank_ok k)
theorem bank_nat(k:Nat)(h:k<2):(((k:Nat):Int)==0||((k:Nat):Int)==1)=true:=by
 match k,h with
 |0,_=>rfl
 |1,_=>rfl
structure BV(a:BayT):Prop where
 v:Sp.fv a.1=true
 e:a.1.2.1.length%2=0
 lo:18<=a.1.2.1.length
 hi:a.1.2.1.length<=64
 l:a.1.1.length=2*Sp.hlf a
 h0:576<=Sp.hlf a
 h1:Sp.hlf a<=2048
theorem bv_of{a:BayT}(h:Sp.bvb a=true):BV a:=by
 unfold Sp.bvb Sp.cntB at h
 simp only[Bool.and_eq_true,decide_eq_true_eq]at h
 obtain⟨h,e,lo,hi⟩:=h
 have hv:=fv_iff.1 h
 refine⟨h,e,lo,hi,?_,?_,?_⟩<;>unfold Sp.hlf<;>omega
theorem half_eq{a:BayT}(h:BV a):wrap .i64 (Int.tdiv (a.1.1.length:Int) 2)=Sp.hlf a:=by
 rw[h.l,show Int.tdiv ((2*Sp.hlf a:Nat):Int) 2=Sp.hlf a by rw[Int.tdiv_eq_ediv_of_nonneg (by omega)];omega]
 exact wi64 (by omega) (by have:=h.h1;omega)
theorem off_eq{a:BayT}(h:BV a)(k:Nat)(hk:k<3):wrap .i64 ((k:Int)*(Sp.hlf a:Int))=((k*Sp.hlf a:Nat):Int):=by
 have:=h.h1
 have:k*Sp.hlf a<=2*Sp.hlf a:=Nat.mul_le_mul_right _ (by omega)
 rw[<-Int.natCast_mul,wi64 (by omega) (by omega)]
theorem off_lt{a:BayT}(h:BV a)(k:Nat)(hk:k<2):k*Sp.hlf a+Sp.hlf a<=a.1.1.length:=by
 have:=h.l
 match k,hk with
 |0,_=>omega
 |1,_=>omega
theorem wds_len{a:BayT}(h:BV a)(k:Nat)(hk:k<2):(Sp.wds a k).length=Sp.hlf a:=by
 have:=off_lt h k hk
 unfold Sp.wds
 rw[List.length_take,List.length_drop]
 omega
theorem words_ok{a:BayT}(h:BV a)(k:Nat)(hk:k<2):F_109 a k=some (Sp.wds a k,()):=by
 have hl:=off_lt h k hk
 have e:wrap .i64 ((k:Int)+1)=((k+1:Nat):Int):=by rw[wi64 (by omega) (by omega)];push_cast;rfl
 unfold F_109 Sp.wds
 rw[half_eq h,e,off_eq h k (by omega),off_eq h (k+1) (by omega),gd_sl3 (by omega) (by rw[Nat.add_mul];omega) (by rw[Nat.add_mul];omega),Int.toNat_natCast,Int.toNat_natCast,show(k+1)*Sp.hlf a-k*Sp.hlf a=Sp.hlf a by rw[Nat.add_mul];omega]
theorem words_pv{a:BayT}(h:BV a)(k:Nat)(hk:k<2):p_109 a k=true/\v_109 a k=(Sp.wds a k,()):=pv_109 a k (words_ok h k hk)
theorem wds_get{a:BayT}(h:BV a)(k:Nat)(hk:k<2):(Sp.wds a k).getD 0 0=a.1.1.getD (k*Sp.hlf a) 0:=by
 have:=off_lt h k hk
 have:=h.h0
 unfold Sp.wds
 simp only[List.getD_eq_getElem?_getD,List.getElem?_take,List.getElem?_drop]
 rw[if_pos (by omega),Nat.add_zero]
theorem act_pv{a:BayT}(h:BV a)(k:Nat)(hk:k<2):p_106 a k=true/\v_106 a k=(a.1.1.getD (k*Sp.hlf a) 0==0,()):=by
 refine pv_106 a k ?_
 have:=h.h0
 unfold F_106
 rw[(words_pv h k hk).1,(words_pv h k hk).2,gd_tt,gd_inB (by decide) (by show(0:Int)<((Sp.wds a k).length:Int);rw[wds_len h k hk];omega)]
 show some ((Sp.wds a k).getD 0 0==0,())=_
 rw[wds_get h k hk]
theorem cat_l0(m:Nat)(x y:List Int)(hx:x.length<1000000)(hy:y.length<1000000):L_140_0 (m+3) [x,y] 0 [x,y] 2 0=some (.e0 [x,y] ((x.length:Int)+(y.length:Int))):=by
 rw[L_140_0,S_140_0,cond_dtt (by decide),gd_inB (by decide) (by show(0:Int)<((2:Nat):Int);decide)]
 show(bif decide (wrap .i64 (0+(x.length:Int))<0)then none else L_140_0 (m+2) [x,y] (wrap .i64 (0+(x.length:Int))) [x,y] 2 1)=_
 rw[wi64 (n:=0+(x.length:Int)) (by omega) (by omega),cond_dff (by omega),L_140_0,S_140_0,cond_dtt (by decide),gd_inB (by decide) (by show(1:Int)<((2:Nat):Int);decide)]
 show(bif decide (wrap .i64 (0+(x.length:Int)+(y.length:Int))<0)then none else L_140_0 (m+1) [x,y] (wrap .i64 (0+(x.length:Int)+(y.length:Int))) [x,y] 2 2)=_
 rw[wi64 (n:=0+(x.length:Int)+(y.length:Int)) (by omega) (by omega),cond_dff (by omega),L_140_0,S_140_0,cond_dff (by decide),Int.zero_add]
theorem cat_l1(m:Nat)(x y:List Int)(hx:x.length<1000000)(hy:y.length<1000000):L_140_1 (m+3) [x,y] 2 0 []=some (.e0 (x++y)):=by
 rw[L_140_1,S_140_1,cond_dtt (by decide),gd_inB (by decide) (by show(0:Int)<((2:Nat):Int);decide),gd_room (by show(0+x.length)*4<=_;omega) (by show 0+x.length<=_;omega)]
 show L_140_1 (m+2) [x,y] 2 1 x=_
 rw[L_140_1,S_140_1,cond_dtt (by decide),gd_inB (by decide) (by show(1:Int)<((2:Nat):Int);decide),gd_room (by show(x.length+y.length)*4<=_;omega) (by show x.length+y.length<=_;omega)]
 show L_140_1 (m+1) [x,y] 2 2 (x++y)=_
 rw[L_140_1,S_140_1,cond_dff (by decide)]
theorem cat_ok(x y:List Int)(hx:x.length<1000000)(hy:y.length<1000000):F_140 [x,y]=some (x++y,()):=by
 unfold F_140
 refine(congrArg (fun z=>B_140_0 z _) (cat_l0 4611686018427387901 x y hx hy)).trans ?_
 refine Eq.trans (b:=gd (decide ((0:Int)<=(x.length:Int)+(y.length:Int))&&room (toNat ((x.length:Int)+(y.length:Int))) 4) (B_140_1 (L_140_1 4611686018427387904 [x,y] 2 0 []) fun y5=>some (y5,()))) rfl ?_
 rw[gd_and,gd_dec (by omega),gd_room (by omega) (by omega)]
 exact(congrArg (fun z=>B_140_1 z _) (cat_l1 4611686018427387901 x y hx hy)).trans rfl
namespace Sp
noncomputable def w4(x:Int):List Int:=[wrap .u8 (Int.fdiv x 16777216),wrap .u8 (Int.fdiv x 65536),wrap .u8 (Int.fdiv x 256),wrap .u8 x]
noncomputable def spr(l:List Int):List Int:=l.flatMap w4
end Sp
theorem spr_len(l:List Int):(Sp.spr l).length=4*l.length:=by
 induction l with
 |nil=>rfl
 |cons x l ih=>show(Sp.w4 x++Sp.spr l).length=_;rw[List.length_append,ih,List.length_cons];show 4+_=_;omega
theorem spr_succ(l:List Int)(j:Nat)(hj:j<l.length):Sp.spr (l.take (j+1))=Sp.spr (l.take j)++Sp.w4 (l.getD j 0):=by
 have e:l.getD j 0=l[j]:=by simp[List.getD_eq_getElem?_getD,List.getElem?_eq_getElem hj]
 unfold Sp.spr
 rw[e,List.take_succ_eq_append_getElem hj,List.flatMap_append,List.flatMap_cons,List.flatMap_nil,List.append_nil]
theorem spr_b(l:List Int):bytes (Sp.spr l):=by
 intro x hx
 unfold Sp.spr at hx
 rw[List.mem_flatMap]at hx
 obtain⟨y,_,hx⟩:=hx
 simp only[Sp.w4,List.mem_cons,List.not_mem_nil,or_false]at hx
 rcases hx with rfl|rfl|rfl|rfl<;>rw[u8_mod]<;>omega
theorem spr_loop(l:List Int)(hl:l.length<1000000):∀(d m j:Nat),j+d=l.length->d<m->L_135_0 m l l.length (j:Nat) (Sp.spr (l.take j))=some (.e0 (Sp.spr l)):=by
 intro d
 induction d with
 |zero=>
  intro m j hj hm
  obtain⟨m,rfl⟩:∃k,m=k+1:=⟨m-1,by omega⟩
  rw[L_135_0,S_135_0,cond_dff (by omega),List.take_of_length_le (by omega)]
 |succ d ih=>
  intro m j hj hm
  obtain⟨m,rfl⟩:∃k,m=k+1:=⟨m-1,by omega⟩
  have hs:=spr_len (l.take j)
  rw[List.length_take]at hs
  rw[L_135_0,S_135_0,cond_dtt (by omega),gd_inB (by omega) (by omega),gd_room (by omega) (by omega),wi64 (by omega) (by omega),Int.toNat_natCast]
  have:=ih m (j+1) (by omega) (by omega)
  rw[spr_succ l j (by omega)]at this
  push_cast at this
  exact this
theorem spr_eq(l:List Int)(hl:l.length<1000000):F_135 l=some (Sp.spr l,()):=by
 unfold F_135
 exact(congrArg (fun z=>B_135_0 z _) (spr_loop l hl l.length 4611686018427387904 0 (by omega) (by omega))).trans rfl
theorem spr_ok(l:List Int)(hl:l.length<1000000):∃o,F_135 l=some (o,())/\o.length=4*l.length/\bytes o:=⟨_,spr_eq l hl,spr_len l,spr_b l⟩
set_option maxRecDepth 100000
set_option maxHeartbeats 4000000
theorem u8_b{n:Int}(h:(Lit.int .u8 n).wf=true):0<=n/\n<=255:=by
 simp[Lit.wf,IntKind.min,IntKind.max,IntKind.signed,IntKind.bits]at h;omega
theorem wf_bytes{n:Nat}{h:List Int}(w:wfD (.arr n (.int .u8)) h):h.length=n/\bytes h:=⟨w.1,fun x hx=>u8_b (w.2 x hx)⟩
namespace Sp
noncomputable def link(j:Int)(h:List Int):List Int:=sha ([wrap .u8 j]++h.take 32)
noncomputable def chn:Nat->Int->List Int->List Int
 |0,_,h=>h
 |n+1,j,h=>chn n (j+1) (link j h)
end Sp
theorem i_chain:∀(d m:Nat)(j e:Int)(h o:List Int),e=j+d-> -1000<=j->e<=1000->d<m->L_85_0 m e j h o=some (.e0 (Sp.chn d j h) o)
 |0,m+1,j,e,h,o,h1,h2,h3,_=>by
  rw[L_85_0,S_85_0,cond_dff (by omega)]
  rfl
 |d+1,m+1,j,e,h,o,h1,h2,h3,h4=>by
  have hl:(h.take 32).length<=32:=by simp;omega
  have hs:p_122 ([wrap .u8 j]++h.take 32)=true/\v_122 ([wrap .u8 j]++h.take 32)=(Sp.link j h,()):=pv_122 _ (i_sum _ (by rw[List.length_append,List.length_singleton];omega))
  rw[L_85_0,S_85_0,cond_dtt (by omega),List.drop_zero,gd_room (by omega) (by omega),hs.1,hs.2,gd_tt,wi64 (by omega) (by omega)]
  rw[Sp.chn]
  dsimp only
  exact i_chain d m (j+1) e (Sp.link j h) o (by omega) (by omega) h3 (by omega)
theorem r_chain:∀(d m:Nat)(j e:Int)(h o:List Int),e=j+d-> -1000<=j->e<=1000->d<m->L_98_0 m e j h o=some (.e0 (Sp.chn d j h) o)
 |0,m+1,j,e,h,o,h1,h2,h3,_=>by
  rw[L_98_0,S_98_0,cond_dff (by omega)]
  rfl
 |d+1,m+1,j,e,h,o,h1,h2,h3,h4=>by
  have hl:(h.take 32).length<=32:=by simp;omega
  have hs:p_116 ([wrap .u8 j]++h.take 32)=true/\v_116 ([wrap .u8 j]++h.take 32)=(Sp.link j h,()):=pv_116 _ (r_sum _ (by rw[List.length_append,List.length_singleton];omega))
  rw[L_98_0,S_98_0,cond_dtt (by omega),List.drop_zero,gd_room (by omega) (by omega),hs.1,hs.2,gd_tt,wi64 (by omega) (by omega)]
  rw[Sp.chn]
  dsimp only
  exact r_chain d m (j+1) e (Sp.link j h) o (by omega) (by omega) h3 (by omega)
theorem chain_ok(h:List Int)(j e:Int)(h0:0<=j)(h1:j<=e)(h2:e<=15):F_85 h j e=some (Sp.chn (e-j).toNat j h,()):=by
 unfold F_85
 rw[i_chain (e-j).toNat _ j e h _ (by omega) (by omega) (by omega) (by omega)]
 rfl
theorem rchain_ok(h:List Int)(j e:Int)(h0:0<=j)(h1:j<=e)(h2:e<=15):F_98 h j e=some (Sp.chn (e-j).toNat j h,()):=by
 unfold F_98
 rw[r_chain (e-j).toNat _ j e h _ (by omega) (by omega) (by omega) (by omega)]
 rfl
set_option maxRecDepth 100000
set_option maxHeartbeats 4000000
namespace Sp
noncomputable def node(a b:List Int):List Int:=sha ([255]++a.take 32++b.take 32)
noncomputable def sec(s:List Int)(k j:Int):List Int:=sha (s.take 32++[wrap .u8 k,wrap .u8 j])
noncomputable def cat(l:List (List Int)):List Int:=l.flatMap fun h=>h.take 32
noncomputable def leafE(l:List (List Int)):List Int:=sha (cat l)
noncomputable def ends(s:List Int)(k:Int)(n:Nat):List (List Int):=(List.range n).map fun j:Nat=>chn 15 0 (sec s k (j:Int))
noncomputable def leafS(s:List Int)(k:Int):List Int:=leafE (ends s k 67)
noncomputable def pubK(s:List Int):List Int:=node (node (leafS s 0) (leafS s 1)) (node (leafS s 2) (leafS s 3))
end Sp
theorem tk32(a:List Int):(a.take 32).length<=32:=by rw[List.length_take];omega
theorem above_ok(a b:List Int):F_87 a b=some (Sp.node a b,()):=by
 have h1:=tk32 a
 have h2:=tk32 b
 have hs:p_122 ([255]++a.take 32++b.take 32)=true/\v_122 ([255]++a.take 32++b.take 32)=(Sp.node a b,()):=pv_122 _ (i_sum _ (by rw[List.length_append,List.length_append,List.length_singleton];omega))
 unfold F_87
 rw[List.drop_zero,List.drop_zero,gd_room (by omega) (by omega),gd_room (by rw[List.length_append,List.length_singleton];omega) (by rw[List.length_append,List.length_singleton];omega),hs.1,hs.2,gd_tt]
theorem node_ok(a b:List Int):F_100 a b=some (Sp.node a b,()):=by
 have h1:=tk32 a
 have h2:=tk32 b
 have hs:p_116 ([255]++a.take 32++b.take 32)=true/\v_116 ([255]++a.take 32++b.take 32)=(Sp.node a b,()):=pv_116 _ (r_sum _ (by rw[List.length_append,List.length_append,List.length_singleton];omega))
 unfold F_100
 rw[List.drop_zero,List.drop_zero,gd_room (by omega) (by omega),gd_room (by rw[List.length_append,List.length_singleton];omega) (by rw[List.length_append,List.length_singleton];omega),hs.1,hs.2,gd_tt]
theorem cat_len:∀l:List (List Int),(Sp.cat l).length<=32*l.length
 |[]=>by simp[Sp.cat]
 |h::l=>by
  have h1:=cat_len l
  have h2:=tk32 h
  simp only[Sp.cat,List.flatMap_cons,List.length_append,List.length_cons]at h1⊢
  omega
theorem cat_succ(l:List (List Int))(j:Nat)(hj:j<l.length):Sp.cat (l.take (j+1))=Sp.cat (l.take j)++(l.getD j (Ty.dflt (.arr 32 (.int .u8)))).take 32:=by
 have e:l.getD j (Ty.dflt (.arr 32 (.int .u8)))=l[j]:=by simp[List.getD_eq_getElem?_getD,hj]
 rw[List.take_succ_eq_append_getElem hj,e]
 simp only[Sp.cat,List.flatMap_append,List.flatMap_cons,List.flatMap_nil,List.append_nil]
theorem leafE_loop(o:List Int)(l:List (List Int))(hl:l.length<1000000):∀(d m j:Nat),j+d=l.length->d<m->L_86_0 m l l.length (j:Nat) o (Sp.cat (l.take j))=some (.e0 o (Sp.cat l))
 |0,m+1,j,hj,_=>by
  rw[L_86_0,S_86_0,cond_dff (by omega),List.take_of_length_le (by omega)]
 |d+1,m+1,j,hj,hm=>by
  have h1:=cat_len (l.take j)
  have h2:=tk32 (l.getD j (Ty.dflt (.arr 32 (.int .u8))))
  have h3:(l.take j).length<=1000000:=by rw[List.length_take];omega
  rw[L_86_0,S_86_0,cond_dtt (by omega),gd_inB (by omega) (by omega),Int.toNat_natCast,List.drop_zero,gd_room (by omega) (by omega),wi64 (by omega) (by omega),<-cat_succ l j (by omega)]
  exact leafE_loop o l hl d m (j+1) (by omega) (by omega)
theorem rleafE_loop(o:List Int)(l:List (List Int))(hl:l.length<1000000):∀(d m j:Nat),j+d=l.length->d<m->L_99_0 m l (j:Nat) o (Sp.cat (l.take j))=some (.e0 o (Sp.cat l))
 |0,m+1,j,hj,_=>by
  rw[L_99_0,S_99_0,cond_dff (by omega),List.take_of_length_le (by omega)]
 |d+1,m+1,j,hj,hm=>by
  have h1:=cat_len (l.take j)
  have h2:=tk32 (l.getD j (Ty.dflt (.arr 32 (.int .u8))))
  have h3:(l.take j).length<=1000000:=by rw[List.length_take];omega
  rw[L_99_0,S_99_0,cond_dtt (by omega),gd_inB (by omega) (by omega),Int.toNat_natCast,List.drop_zero,gd_room (by omega) (by omega),wi64 (by omega) (by omega),<-cat_succ l j (by omega)]
  exact rleafE_loop o l hl d m (j+1) (by omega) (by omega)
theorem leafE_ok(l:List (List Int))(hl:l.length<1000000):F_86 l=some (Sp.leafE l,()):=by
 have h1:=cat_len l
 have hs:p_122 (Sp.cat l)=true/\v_122 (Sp.cat l)=(Sp.leafE l,()):=pv_122 _ (i_sum _ (by omega))
 unfold F_86
 rw[show L_86_0 4611686018427387904 l l.length 0 (replicate 32 0) []=_ from leafE_loop (replicate 32 0) l hl l.length 4611686018427387904 0 (by omega) (by omega)]
 simp only[B_86_0]
 rw[hs.1,hs.2,gd_tt]
theorem rleafE_ok(l:List (List Int))(hl:l.length<1000000):F_99 l=some (Sp.leafE l,()):=by
 have h1:=cat_len l
 have hs:p_116 (Sp.cat l)=true/\v_116 (Sp.cat l)=(Sp.leafE l,()):=pv_116 _ (r_sum _ (by omega))
 unfold F_99
 rw[show L_99_0 4611686018427387904 l 0 (replicate 32 0) []=_ from rleafE_loop (replicate 32 0) l hl l.length 4611686018427387904 0 (by omega) (by omega)]
 simp only[B_99_0]
 rw[hs.1,hs.2,gd_tt]
theorem above_pv(a b:List Int):p_87 a b=true/\v_87 a b=(Sp.node a b,()):=pv_87 a b (above_ok a b)
theorem node_pv(a b:List Int):p_100 a b=true/\v_100 a b=(Sp.node a b,()):=pv_100 a b (node_ok a b)
theorem digL_len(h:List Int):(Sp.digL h).length=67:=by simp[Sp.digL,digs_len]
theorem dig_get(h:List Int)(n j:Nat)(hj:j<n):(Sp.digs h n).getD j 0=Sp.dig h j:=by
 simp[Sp.digs,List.getD_eq_getElem?_getD,hj]
theorem digL_get(h:List Int)(j:Nat)(hj:j<64):(Sp.digL h).getD j 0=Sp.dig h j:=by
 unfold Sp.digL
 rw[List.getD_eq_getElem?_getD,List.getElem?_append_left (by rw[digs_len];exact hj),<-List.getD_eq_getElem?_getD,dig_get h 64 j hj]
theorem digL_top(h:List Int):(Sp.digL h).getD 64 0=Sp.dsum h 64/256/\(Sp.digL h).getD 65 0=Sp.dsum h 64/16%16/\(Sp.digL h).getD 66 0=Sp.dsum h 64%16:=by
 unfold Sp.digL
 refine⟨?_,?_,?_⟩<;>(rw[List.getD_eq_getElem?_getD,List.getElem?_append_right (by rw[digs_len];omega),digs_len];rfl)
theorem digL_b{h:List Int}(hb:bytes h)(j:Nat)(hj:j<67):0<=(Sp.digL h).getD j 0/\(Sp.digL h).getD j 0<=15:=by
 have b0:=dsum_b hb 64
 have t:=digL_top h
 rcases Nat.lt_or_ge j 64 with h1|h1
 ·rw[digL_get h j h1];exact dig_b hb j
 ·rcases(show j=64\/j=65\/j=66 by omega)with rfl|rfl|rfl
  ·rw[t.1];omega
  ·rw[t.2.1];omega
  ·rw[t.2.2];omega
noncomputable def anyB(p:Nat->Bool):Nat->Bool
 |0=>false
 |n+1=>anyB p n||p n
set_option maxRecDepth 100000
set_option maxHeartbeats 4000000
abbrev SigT:=Int×List (List Int)×List (List Int)×PUnit
abbrev h0:List Int:=Ty.dflt (.arr 32 (.int .u8))
namespace Sp
noncomputable def shp(s:SigT):Bool:=decide (0<=s.1)&&(decide (s.1<4)&&((s.2.1.length:Int)==67&&(s.2.2.1.length:Int)==2))
noncomputable def vend(d:List Int)(c:List (List Int))(n:Nat):List (List Int):=(List.range n).map fun j:Nat=>chn (15-d.getD j 0).toNat (d.getD j 0) (c.getD j h0)
noncomputable def up(i:Int)(p e:List Int):List Int:=if i=1 then node p e else node e p
noncomputable def verF(key dg:List Int)(s:SigT):Bool:=shp s&&(up (s.1/2) (s.2.2.1.getD 1 h0) (up (s.1%2) (s.2.2.1.getD 0 h0) (leafE (vend (digL dg) s.2.1 67)))==key)
end Sp
theorem shp_ok(s:SigT):F_83 s=some (Sp.shp s,()):=by
 unfold F_83 Sp.shp
 by_cases h1:s.1>=0
 ·by_cases h2:s.1<4
  ·rw[cond_dtt h1,cond_dtt h2,decide_eq_true (show 0<=s.1 from h1),decide_eq_true h2]
   cases ((s.2.1.length:Int)==67)<;>rfl
  ·rw[cond_dtt h1,cond_dff h2,decide_eq_false h2];simp
 ·rw[cond_dff h1,decide_eq_false (show ¬0<=s.1 from h1)];rfl
theorem rshp_ok(s:SigT):F_95 s=some (Sp.shp s,()):=by
 unfold F_95 Sp.shp
 by_cases h1:s.1>=0
 ·by_cases h2:s.1<4
  ·rw[cond_dtt h1,cond_dtt (show s.1<=3 by omega),decide_eq_true (show 0<=s.1 from h1),decide_eq_true h2]
   cases ((s.2.1.length:Int)==67)<;>rfl
  ·rw[cond_dtt h1,cond_dff (show ¬s.1<=3 by omega),decide_eq_false h2];simp
 ·rw[cond_dff h1,decide_eq_false (show ¬0<=s.1 from h1)];rfl
theorem vend_len(d:List Int)(c:List (List Int))(n:Nat):(Sp.vend d c n).length=n:=by simp[Sp.vend]
theorem vend_succ(d:List Int)(c:List (List Int))(n:Nat):Sp.vend d c (n+1)=Sp.vend d c n++[Sp.chn (15-d.getD n 0).toNat (d.getD n 0) (c.getD n h0)]:=by simp[Sp.vend,List.range_succ]
theorem ver_loop(key dg:List Int)(hb:bytes dg)(s:SigT)(hs:s.2.1.length=67):∀(d m j:Nat),j+d=67->d<m->L_45_0 m (Sp.digL dg) 67 (j:Nat) key s (Sp.vend (Sp.digL dg) s.2.1 j)=some (.e0 key s (Sp.vend (Sp.digL dg) s.2.1 67))
 |0,m+1,j,hj,_=>by
  rw[L_45_0,S_45_0,cond_dff (by omega),show j=67 by omega]
 |d+1,m+1,j,hj,hm=>by
  have hl:=digL_len dg
  have hd:=digL_b hb j (by omega)
  have h2:=pv_85 _ _ _ (chain_ok (s.2.1.getD j h0) ((Sp.digL dg).getD j 0) 15 hd.1 hd.2 (by decide))
  rw[L_45_0,S_45_0,cond_dtt (by omega),gd_inB (by omega) (by omega),gd_inB (by omega) (by omega),Int.toNat_natCast,h2.1,h2.2,gd_tt,gd_room (by rw[vend_len];omega) (by rw[vend_len];omega),wi64 (by omega) (by omega)]
  dsimp only
  rw[<-vend_succ]
  exact ver_loop key dg hb s hs d m (j+1) (by omega) (by omega)
theorem rver_loop(key dg:List Int)(hb:bytes dg)(s:SigT)(hs:s.2.1.length=67):∀(d m j:Nat),j+d=67->d<m->L_57_0 m (Sp.digL dg) (j:Nat) key s (Sp.vend (Sp.digL dg) s.2.1 j)=some (.e0 key s (Sp.vend (Sp.digL dg) s.2.1 67))
 |0,m+1,j,hj,_=>by
  rw[L_57_0,S_57_0,cond_dff (by omega),show j=67 by omega]
 |d+1,m+1,j,hj,hm=>by
  have hl:=digL_len dg
  have hd:=digL_b hb j (by omega)
  have h2:=pv_98 _ _ _ (rchain_ok (s.2.1.getD j h0) ((Sp.digL dg).getD j 0) 15 hd.1 hd.2 (by decide))
  rw[L_57_0,S_57_0,cond_dtt (by omega),gd_inB (by omega) (by omega),gd_inB (by omega) (by omega),Int.toNat_natCast,h2.1,h2.2,gd_tt,gd_room (by rw[vend_len];omega) (by rw[vend_len];omega),wi64 (by omega) (by omega)]
  dsimp only
  rw[<-vend_succ]
  exact rver_loop key dg hb s hs d m (j+1) (by omega) (by omega)
set_option maxRecDepth 100000
set_option maxHeartbeats 4000000
theorem bit_of(i:Int)(h0:0<=i)(h1:i<4):(Sp.andI .i64 (Int.fdiv i (2^Nat.min 0 64)) 1=i%2)/\(Sp.andI .i64 (Int.fdiv i (2^Nat.min 1 64)) 1=i/2):=by
 rcases(show i=0\/i=1\/i=2\/i=3 by omega)with rfl|rfl|rfl|rfl<;>exact⟨by kernel_rfl,by kernel_rfl⟩
theorem up_step(m:Nat)(p:List (List Int))(hp:p.length=2)(j:Nat)(hj:j<2)(key:List Int)(s:SigT)(e:List Int)(b:Int)(hb:Sp.andI .i64 (Int.fdiv s.1 (2^Nat.min j 64)) 1=b):L_45_1 (m+1) p 2 (j:Nat) key s e=L_45_1 m p 2 ((j:Int)+1) key s (Sp.up b (p.getD j h0) e):=by
 have a1:=above_pv (p.getD j h0) e
 have a2:=above_pv e (p.getD j h0)
 rw[L_45_1,S_45_1,cond_dtt (by omega),gd_inB (by omega) (by omega),gd_dec (by omega),Int.toNat_natCast,hb,wi64 (by omega) (by omega)]
 by_cases h:b=1
 ·rw[cond_ett h,a1.1,a1.2,gd_tt,Sp.up,if_pos h]
 ·rw[cond_eff h,a2.1,a2.2,gd_tt,Sp.up,if_neg h]
theorem up_loop(m:Nat)(hm:3<=m)(p:List (List Int))(hp:p.length=2)(key:List Int)(s:SigT)(e:List Int)(h0':0<=s.1)(h1':s.1<4):L_45_1 m p 2 0 key s e=some (.e0 key (Sp.up (s.1/2) (p.getD 1 h0) (Sp.up (s.1%2) (p.getD 0 h0) e))):=by
 obtain⟨m,rfl⟩:∃k,m=k+3:=⟨m-3,by omega⟩
 have hb:=bit_of s.1 h0' h1'
 have s1:=up_step (m+2) p hp 0 (by omega) key s e _ hb.1
 have s2:=up_step (m+1) p hp 1 (by omega) key s (Sp.up (s.1%2) (p.getD 0 h0) e) _ hb.2
 refine s1.trans (s2.trans ?_)
 show L_45_1 (m+1) p 2 2 key s _=_
 rw[L_45_1,S_45_1,cond_dff (by decide)]
theorem shp_spec{s:SigT}(h:Sp.shp s=true):0<=s.1/\s.1<4/\s.2.1.length=67/\s.2.2.1.length=2:=by
 simp only[Sp.shp,Bool.and_eq_true,decide_eq_true_eq,beq_iff_eq]at h
 omega
theorem verify_ok(key dg:List Int)(hb:bytes dg)(s:SigT):F_45 key dg s=some (Sp.verF key dg s,()):=by
 have a:=pv_83 _ (shp_ok s)
 unfold F_45 Sp.verF
 rw[a.1,a.2,gd_tt]
 cases hs:Sp.shp s
 ·rfl
 ·obtain⟨h1,h2,h3,h4⟩:=shp_spec hs
  have d:=pv_84 _ (i_digits dg hb)
  have l:=pv_86 _ (leafE_ok (Sp.vend (Sp.digL dg) s.2.1 67) (by rw[vend_len];omega))
  rw[d.1,d.2,gd_tt]
  dsimp only
  rw[digL_len]
  simp only[Bool.not_true,cond_f]
  rw[show L_45_0 4611686018427387904 (Sp.digL dg) ((67:Nat):Int) 0 key s []=_ from ver_loop key dg hb s h3 67 4611686018427387904 0 (by omega) (by omega)]
  simp only[B_45_0]
  rw[l.1,l.2,gd_tt]
  dsimp only
  rw[h4]
  rw[show L_45_1 4611686018427387904 s.2.2.1 ((2:Nat):Int) 0 key s (Sp.leafE (Sp.vend (Sp.digL dg) s.2.1 67))=_ from up_loop _ (by omega) s.2.2.1 h4 key s _ h1 h2]
  simp only[B_45_1,arr_beq,Bool.true_and]
theorem J_ver(key:List Int)(s:SigT)(h1:0<=s.1)(h2:s.1<4)(h4:s.2.2.1.length=2)(e:List Int) :
 B_57_1 (J_57_1 key s e) (fun k y z=>some (Ty.beq (.arr 32 (.int .u8)) (v_100 (y.2.2.1.getD 1 h0) z).1 k,PUnit.unit)) (fun k y z=>some (Ty.beq (.arr 32 (.int .u8)) (v_100 z (y.2.2.1.getD 1 h0)).1 k,PUnit.unit))=some ((Sp.up (s.1/2) (s.2.2.1.getD 1 h0) e==key),PUnit.unit):=by
 have n1:=node_pv (s.2.2.1.getD 1 h0) e
 have n2:=node_pv e (s.2.2.1.getD 1 h0)
 have ed:wrap .i64 (Int.tdiv s.1 2)=s.1/2:=by rw[Int.tdiv_eq_ediv_of_nonneg h1,wi64 (by omega) (by omega)]
 unfold J_57_1 S_57_1
 rw[ed]
 by_cases h:s.1/2=1
 ·rw[cond_ett h,gd_inB (by omega) (by omega),n1.1,gd_tt]
  simp only[B_57_1,n1.2,arr_beq,Sp.up,if_pos h]
 ·rw[cond_eff h,gd_inB (by omega) (by omega),n2.1,gd_tt]
  simp only[B_57_1,n2.2,arr_beq,Sp.up,if_neg h]
theorem rverify_ok(key dg:List Int)(hb:bytes dg)(s:SigT):F_57 key dg s=some (Sp.verF key dg s,()):=by
 have a:=pv_95 _ (rshp_ok s)
 unfold F_57 Sp.verF
 rw[a.1,a.2,gd_tt]
 cases hs:Sp.shp s
 ·rfl
 ·obtain⟨h1,h2,h3,h4⟩:=shp_spec hs
  have d:=pv_97 _ (r_digits dg hb)
  have l:=pv_99 _ (rleafE_ok (Sp.vend (Sp.digL dg) s.2.1 67) (by rw[vend_len];omega))
  have em:Int.tmod s.1 2=s.1%2:=Int.tmod_eq_emod_of_nonneg h1
  rw[d.1,d.2,gd_tt]
  dsimp only
  simp only[Bool.not_true,cond_f]
  rw[show L_57_0 4611686018427387904 (Sp.digL dg) 0 key s []=_ from rver_loop key dg hb s h3 67 4611686018427387904 0 (by omega) (by omega)]
  simp only[B_57_0]
  rw[l.1,l.2,gd_tt]
  dsimp only
  have n1:=node_pv (s.2.2.1.getD 0 h0) (Sp.leafE (Sp.vend (Sp.digL dg) s.2.1 67))
  have n2:=node_pv (Sp.leafE (Sp.vend (Sp.digL dg) s.2.1 67)) (s.2.2.1.getD 0 h0)
  rw[em]
  by_cases h:s.1%2=1
  ·rw[cond_ett h,gd_inB (by omega) (by omega),n1.1,n1.2,gd_tt]
   dsimp only
   rw[J_ver key s h1 h2 h4,Bool.true_and,show Sp.up (s.1%2) (s.2.2.1.getD 0 h0) (Sp.leafE (Sp.vend (Sp.digL dg) s.2.1 67))=_ from if_pos h]
  ·rw[cond_eff h,gd_inB (by omega) (by omega),n2.1,n2.2,gd_tt]
   dsimp only
   rw[J_ver key s h1 h2 h4,Bool.true_and,show Sp.up (s.1%2) (s.2.2.1.getD 0 h0) (Sp.leafE (Sp.vend (Sp.digL dg) s.2.1 67))=_ from if_neg h]
namespace Sp
noncomputable def wd(a b c d:Int):Int:=orI .u32 (orI .u32 (orI .u32 (wrap .u32 (wrap .u32 a*16777216)) (wrap .u32 (wrap .u32 b*65536))) (wrap .u32 (wrap .u32 c*256))) (wrap .u32 d)
noncomputable def hwd(h:List Int)(i:Nat):Int:=wd (h.getD (4*i) 0) (h.getD (4*i+1) 0) (h.getD (4*i+2) 0) (h.getD (4*i+3) 0)
noncomputable def hws(h:List Int)(n:Nat):List Int:=(List.range n).map (hwd h)
noncomputable def cws(l:List (List Int)):List Int:=l.flatMap fun h=>hws h 8
noncomputable def wordsF(s:SigT):List Int:=[wrap .u32 s.1]++cws s.2.1++cws s.2.2.1
end Sp
theorem hws_len(h:List Int)(n:Nat):(Sp.hws h n).length=n:=by simp[Sp.hws]
theorem hws_succ(h:List Int)(n:Nat):Sp.hws h (n+1)=Sp.hws h n++[Sp.hwd h n]:=by simp[Sp.hws,List.range_succ]
theorem cws_len:∀l:List (List Int),(Sp.cws l).length=8*l.length
 |[]=>rfl
 |h::l=>by
  have:=cws_len l
  simp only[Sp.cws,List.flatMap_cons,List.length_append,List.length_cons,hws_len]at this⊢
  omega
theorem cws_succ(l:List (List Int))(j:Nat)(hj:j<l.length):Sp.cws (l.take (j+1))=Sp.cws (l.take j)++Sp.hws (l.getD j h0) 8:=by
 rw[List.take_succ_eq_append_getElem hj,getD_at _ hj]
 simp only[Sp.cws,List.flatMap_append,List.flatMap_cons,List.flatMap_nil,List.append_nil]
theorem seg_get(h:List Int)(hl:h.length=32)(i k:Nat)(hi:i<8)(hk:k<4):(take (32-4*i) (drop (4*i) h)).getD k 0=h.getD (4*i+k) 0:=by
 rw[List.getD_eq_getElem?_getD,List.getD_eq_getElem?_getD,List.getElem?_take,if_pos (by omega),List.getElem?_drop]
theorem sword_ok(h:List Int)(hl:h.length=32)(i:Nat)(hi:i<8):F_119 (take (32-4*i) (drop (4*i) h))=some (Sp.hwd h i,()):=by
 have hlen:(take (32-4*i) (drop (4*i) h)).length=32-4*i:=by simp;omega
 unfold F_119
 rw[hlen,gd_inB (by omega) (by omega),gd_inB (by omega) (by omega),gd_inB (by omega) (by omega),gd_inB (by omega) (by omega),seg_get h hl i 0 hi (by omega),seg_get h hl i 1 hi (by omega),seg_get h hl i 2 hi (by omega),seg_get h hl i 3 hi (by omega)]
 rfl
set_option maxRecDepth 100000
set_option maxHeartbeats 4000000
namespace Sp
noncomputable def byt(w:List Int)(k i:Nat):Int:=wrap .u8 (Int.fdiv (w.getD (1+8*k+i/4) 0) (2^(24-8*(i%4))))
noncomputable def rdp(w:List Int)(k n:Nat):List Int:=(List.range 32).map fun i=>if i<n then byt w k i else 0
noncomputable def rdh(w:List Int)(k:Nat):List Int:=(List.range 32).map (byt w k)
noncomputable def rdC(w:List Int)(n:Nat):List (List Int):=(List.range (min n 67)).map (rdh w)
noncomputable def rdP(w:List Int)(n:Nat):List (List Int):=(List.range (n-67)).map fun j=>rdh w (67+j)
noncomputable def rd(w:List Int):SigT:=(wrap .i64 (w.getD 0 0),rdC w 69,rdP w 69,())
noncomputable def okw(w:List Int):Bool:=decide (w.length=553)&&decide (w.getD 0 0<4)
end Sp
theorem rdp_zero(w:List Int)(k:Nat):Sp.rdp w k 0=replicate 32 0:=by
 unfold Sp.rdp
 apply List.ext_getElem
 ·simp
 ·intro i h1 h2;rw[List.getElem_replicate,List.getElem_map,List.getElem_range,if_neg (by omega)]
theorem rdp_full(w:List Int)(k:Nat):Sp.rdp w k 32=Sp.rdh w k:=by
 unfold Sp.rdp Sp.rdh
 refine List.map_congr_left fun i hi=> ?_
 rw[if_pos (by simpa using hi)]
theorem set_map(f:Nat->Int)(n a:Nat)(v:Int):((List.range n).map f).set a v=(List.range n).map fun i=>if i=a then v else f i:=by
 apply List.ext_getElem
 ·simp
 ·intro i h1 h2
  simp only[List.getElem_set,List.getElem_map,List.getElem_range]
  by_cases h:a=i
  ·subst h;simp
  ·rw[if_neg h,if_neg (fun e=>h e.symm)]
theorem rdp_set(w:List Int)(k n:Nat):(Sp.rdp w k n).set n (Sp.byt w k n)=Sp.rdp w k (n+1):=by
 unfold Sp.rdp
 rw[set_map]
 refine List.map_congr_left fun i _=> ?_
 by_cases h:i=n
 ·subst h;rw[if_pos rfl,if_pos (by omega)]
 ·rw[if_neg h]
  by_cases h2:i<n
  ·rw[if_pos h2,if_pos (by omega)]
  ·rw[if_neg h2,if_neg (by omega)]
theorem byt_at(w:List Int)(k j r:Nat)(hr:r<4):Sp.byt w k (4*j+r)=wrap .u8 (Int.fdiv (w.getD (1+8*k+j) 0) (2^(24-8*r))):=by
 unfold Sp.byt
 rw[show(4*j+r)/4=j by omega,show(4*j+r)%4=r by omega]
theorem fdiv_one(x:Int):Int.fdiv x (2^0)=x:=by simp
theorem rd_inner(w:List Int)(hw:w.length=553)(k:Nat)(hk:k<69)(p2 p4:Int)(p5 p6:List (List Int))(p7:Int)(p8 p9:List (List Int)):L_136_1 4611686018427387904 w k p2 0 p4 p5 p6 p7 p8 p9 (replicate 32 0)=some (.e0 w k p2 p4 p5 p6 p7 p8 p9 (Sp.rdh w k)):=by
 have:=run0 (fun m i s=>L_136_1 m w k p2 i p4 p5 p6 p7 p8 p9 s) (n:=8) (fun j=>Sp.rdp w k (4*j)) (r:=some (.e0 w k p2 p4 p5 p6 p7 p8 p9 (Sp.rdh w k))) (by decide) (fun m j hj=>by
  show L_136_1 (m+1) w k p2 (j:Int) p4 p5 p6 p7 p8 p9 (Sp.rdp w k (4*j))=_
  have e0:wrap .i64 (4*(j:Int))=4*(j:Int):=wi64 (by omega) (by omega)
  have e1:wrap .i64 (wrap .i64 (1+wrap .i64 (8*(k:Int)))+(j:Int))=((1+8*k+j:Nat):Int):=by
   rw[wi64 (n:=8*(k:Int)) (by omega) (by omega),wi64 (n:=1+8*(k:Int)) (by omega) (by omega),wi64 (by omega) (by omega)];omega
  have e2:toNat (4*(j:Int))=4*j:=by omega
  rw[L_136_1,S_136_1,cond_dtt (by omega),e0,e1,e2,Int.toNat_natCast,gd_sl3 (by omega) (by omega) (by omega),gd_inB (by omega) (by omega),gd_inB (by omega) (by omega),gd_inB (by omega) (by omega),gd_inB (by omega) (by omega),gd_inB (by omega) (by omega),Bool.and_true,Bool.and_true,Bool.and_true,Bool.and_true,gd_dec (by omega),gd_dec (by omega),gd_dec (by omega),gd_dec (by omega),wi64 (n:=(j:Int)+1) (by omega) (by omega)]
  have b0:=byt_at w k j 0 (by decide)
  have b1:=byt_at w k j 1 (by decide)
  have b2:=byt_at w k j 2 (by decide)
  have b3:=byt_at w k j 3 (by decide)
  rw[show(24-8*3:Nat)=0 from rfl,fdiv_one]at b3
  have f0:(16777216:Int)=2^(24-8*0):=by decide
  have f1:(65536:Int)=2^(24-8*1):=by decide
  have f2:(256:Int)=2^(24-8*2):=by decide
  have s0:(Sp.rdp w k (4*j)).set (4*j+0) (Sp.byt w k (4*j+0))=Sp.rdp w k (4*j+1):=rdp_set w k (4*j)
  have s1:(Sp.rdp w k (4*j+1)).set (4*j+1) (Sp.byt w k (4*j+1))=Sp.rdp w k (4*j+2):=rdp_set w k (4*j+1)
  have s2:(Sp.rdp w k (4*j+2)).set (4*j+2) (Sp.byt w k (4*j+2))=Sp.rdp w k (4*j+3):=rdp_set w k (4*j+2)
  have s3:(Sp.rdp w k (4*j+3)).set (4*j+3) (Sp.byt w k (4*j+3))=Sp.rdp w k (4*(j+1)):=rdp_set w k (4*j+3)
  rw[f0,f1,f2,<-b0,<-b1,<-b2,<-b3,s0,s1,s2,s3]
  rfl) (fun m=>by
  show L_136_1 (m+1) w k p2 8 p4 p5 p6 p7 p8 p9 (Sp.rdp w k 32)=_
  rw[L_136_1,S_136_1,cond_dff (by decide),rdp_full])
 rw[<-rdp_zero w k]
 exact this
theorem rrd_inner(w:List Int)(hw:w.length=553)(k:Nat)(hk:k<69)(p3:Int)(p4 p5:List (List Int))(p6:Int)(p7 p8:List (List Int)):L_114_1 4611686018427387904 w k 0 p3 p4 p5 p6 p7 p8 (replicate 32 0)=some (.e0 w k p3 p4 p5 p6 p7 p8 (Sp.rdh w k)):=by
 have:=run0 (fun m i s=>L_114_1 m w k i p3 p4 p5 p6 p7 p8 s) (n:=32) (fun j=>Sp.rdp w k j) (r:=some (.e0 w k p3 p4 p5 p6 p7 p8 (Sp.rdh w k))) (by decide) (fun m j hj=>by
  show L_114_1 (m+1) w k (j:Int) p3 p4 p5 p6 p7 p8 (Sp.rdp w k j)=_
  have d0:Int.tdiv (j:Int) 4=((j/4:Nat):Int):=(Int.ofNat_tdiv j 4).symm
  have d1:Int.tmod (j:Int) 4=((j%4:Nat):Int):=(Int.ofNat_tmod j 4).symm
  have e1:wrap .i64 (wrap .i64 (1+wrap .i64 (8*(k:Int)))+wrap .i64 ((j/4:Nat):Int))=((1+8*k+j/4:Nat):Int):=by
   rw[wi64 (n:=8*(k:Int)) (by omega) (by omega),wi64 (n:=1+8*(k:Int)) (by omega) (by omega),wi64 (n:=((j/4:Nat):Int)) (by omega) (by omega),wi64 (by omega) (by omega)];omega
  have e2:wrap .u64 (wrap .i64 (24-wrap .i64 (((j%4:Nat):Int)*8)))=((24-8*(j%4):Nat):Int):=by
   rw[wi64 (n:=((j%4:Nat):Int)*8) (by omega) (by omega),wi64 (by omega) (by omega),wu64 (by omega) (by omega)];omega
  rw[L_114_1,S_114_1,cond_dtt (by omega),d0,d1,e1,e2,Int.toNat_natCast,Int.toNat_natCast,Int.toNat_natCast,gd_inB (by omega) (by omega),gd_dec (by omega),gd_inB (by omega) (by omega),Bool.and_true,gd_dec (by omega),wi64 (n:=(j:Int)+1) (by omega) (by omega),nmin_l (by omega)]
  rw[show wrap .u8 (Int.fdiv (w.getD (1+8*k+j/4) 0) (2^(24-8*(j%4))))=Sp.byt w k j from rfl,rdp_set]
  rfl) (fun m=>by
  show L_114_1 (m+1) w k 32 p3 p4 p5 p6 p7 p8 (Sp.rdp w k 32)=_
  rw[L_114_1,S_114_1,cond_dff (by decide),rdp_full])
 rw[<-rdp_zero w k]
 exact this
theorem rdC_len(w:List Int)(n:Nat):(Sp.rdC w n).length=min n 67:=by simp[Sp.rdC]
theorem rdP_len(w:List Int)(n:Nat):(Sp.rdP w n).length=n-67:=by simp[Sp.rdP]
theorem rd_succ(w:List Int)(k:Nat):(k<67->Sp.rdC w (k+1)=Sp.rdC w k++[Sp.rdh w k]/\Sp.rdP w (k+1)=Sp.rdP w k)/\(67<=k->Sp.rdC w (k+1)=Sp.rdC w k/\Sp.rdP w (k+1)=Sp.rdP w k++[Sp.rdh w k]):=by
 refine⟨fun h=> ?_,fun h=> ?_⟩
 ·unfold Sp.rdC Sp.rdP
  rw[Nat.min_eq_left (by omega),Nat.min_eq_left (by omega),show k+1-67=0 by omega,show k-67=0 by omega,List.range_succ,List.map_append]
  exact⟨rfl,rfl⟩
 ·unfold Sp.rdC Sp.rdP
  rw[Nat.min_eq_right (by omega),Nat.min_eq_right (by omega),show k+1-67=(k-67)+1 by omega,List.range_succ (n:=k-67),List.map_append]
  refine⟨rfl,?_⟩
  simp only[List.map_cons,List.map_nil,show 67+(k-67)=k by omega]
theorem rd_outer(w:List Int)(hw:w.length=553)(x:Int):L_136_0 4611686018427387904 w 0 0 [] [] x [] []=some (.e0 0 [] [] x (Sp.rdC w 69) (Sp.rdP w 69)):=by
 have:=run0 (fun m i(s:List (List Int)×List (List Int))=>L_136_0 m w i 0 [] [] x s.1 s.2) (n:=69) (fun j=>(Sp.rdC w j,Sp.rdP w j)) (r:=some (.e0 0 [] [] x (Sp.rdC w 69) (Sp.rdP w 69))) (by decide) (fun m j hj=>by
  show L_136_0 (m+1) w (j:Int) 0 [] [] x (Sp.rdC w j) (Sp.rdP w j)=L_136_0 m w ((j+1:Nat):Int) 0 [] [] x (Sp.rdC w (j+1)) (Sp.rdP w (j+1))
  have l1:=rdC_len w j
  have l2:=rdP_len w j
  rw[L_136_0,S_136_0,cond_dtt (by omega),rd_inner w hw j hj]
  simp only[B_136_1]
  rw[wi64 (by omega) (by omega)]
  by_cases h:j<67
  ·rw[cond_dtt (by omega),gd_room (by omega) (by omega),((rd_succ w j).1 h).1,((rd_succ w j).1 h).2];rfl
  ·rw[cond_dff (by omega),gd_room (by omega) (by omega),((rd_succ w j).2 (by omega)).1,((rd_succ w j).2 (by omega)).2];rfl) (fun m=>by
  show L_136_0 (m+1) w 69 0 [] [] x (Sp.rdC w 69) (Sp.rdP w 69)=_
  rw[L_136_0,S_136_0,cond_dff (by decide)])
 exact this
theorem rrd_outer(w:List Int)(hw:w.length=553)(x:Int):L_114_0 4611686018427387904 w 0 0 [] [] x [] []=some (.e0 0 [] [] x (Sp.rdC w 69) (Sp.rdP w 69)):=by
 have:=run0 (fun m i(s:List (List Int)×List (List Int))=>L_114_0 m w i 0 [] [] x s.1 s.2) (n:=69) (fun j=>(Sp.rdC w j,Sp.rdP w j)) (r:=some (.e0 0 [] [] x (Sp.rdC w 69) (Sp.rdP w 69))) (by decide) (fun m j hj=>by
  show L_114_0 (m+1) w (j:Int) 0 [] [] x (Sp.rdC w j) (Sp.rdP w j)=L_114_0 m w ((j+1:Nat):Int) 0 [] [] x (Sp.rdC w (j+1)) (Sp.rdP w (j+1))
  have l1:=rdC_len w j
  have l2:=rdP_len w j
  rw[L_114_0,S_114_0,cond_dtt (by omega),rrd_inner w hw j hj]
  simp only[B_114_1]
  rw[wi64 (by omega) (by omega)]
  by_cases h:j<67
  ·rw[cond_dtt (by omega),gd_room (by omega) (by omega),((rd_succ w j).1 h).1,((rd_succ w j).1 h).2];rfl
  ·rw[cond_dff (by omega),gd_room (by omega) (by omega),((rd_succ w j).2 (by omega)).1,((rd_succ w j).2 (by omega)).2];rfl) (fun m=>by
  show L_114_0 (m+1) w 69 0 [] [] x (Sp.rdC w 69) (Sp.rdP w 69)=_
  rw[L_114_0,S_114_0,cond_dff (by decide)])
 exact this
theorem read_ok(w:List Int):F_136 w=some (if Sp.okw w=true then(Sp.rd w,0,())else((0,[],[],()),3,())):=by
 unfold F_136 Sp.okw
 by_cases h1:w.length=553
 ·rw[cond_nff (by omega),decide_eq_true h1,gd_inB (by omega) (by omega)]
  by_cases h2:w.getD 0 0<4
  ·rw[cond_dff (by omega),decide_eq_true h2,gd_inB (by omega) (by omega),rd_outer w h1]
   rfl
  ·rw[cond_dtt (by omega),decide_eq_false h2];rfl
 ·rw[cond_ntt (by omega),decide_eq_false h1];rfl
theorem rread_ok(w:List Int):F_114 w=some (if Sp.okw w=true then(Sp.rd w,true,())else((0,[],[],()),false,())):=by
 unfold F_114 Sp.okw
 by_cases h1:w.length=553
 ·rw[cond_nff (by omega),decide_eq_true h1,gd_inB (by omega) (by omega)]
  by_cases h2:w.getD 0 0<4
  ·rw[cond_dff (by omega),decide_eq_true h2,gd_inB (by omega) (by omega),rrd_outer w h1]
   rfl
  ·rw[cond_dtt (by omega),decide_eq_false h2];rfl
 ·rw[cond_ntt (by omega),decide_eq_false h1];rfl
set_option maxRecDepth 100000
set_option maxHeartbeats 4000000
abbrev HdT:=(Int×Int×List Int×(Int×List (List Int)×List (List Int)×Unit)×Unit)×Bool×Unit
structure HdO(n:Nat)(v:HdT):Prop where
 v0:1<=v.1.1
 v1:v.1.1<=2147483647
 s0:1<=v.1.2.1
 s1:v.1.2.1<=(n:Int)-564
 b:bytes v.1.2.2.1
abbrev hdF:HdT:=((0,0,replicate 32 0,(0,[],[],()),()),false,())
theorem hdF_o{n:Nat}(h:hdF.2.1=true):HdO n hdF:=Bool.noConfusion h
theorem over_b{x y:List Int}{n:Nat}(hx:bytes x)(hy:bytes y):bytes (over x n y):=by
 intro z hz
 unfold over at hz
 rcases List.mem_append.1 hz with h|h
 ·rcases List.mem_append.1 h with h|h
  ·exact hx z (List.mem_of_mem_take h)
  ·exact hy z h
 ·exact hx z (List.mem_of_mem_drop h)
theorem head_ok(w:List Int)(h0:576<=w.length)(h1:w.length<=2048):∃v,F_121 w=some v/\(v.2.1=true->HdO w.length v):=by
 have t1:(take 1 (drop 1 w)).length=1:=by rw[List.length_take,List.length_drop];omega
 have t2:(take 1 (drop 2 w)).length=1:=by rw[List.length_take,List.length_drop];omega
 obtain⟨o,hs,hl,hb⟩:=spr_ok (take 8 (drop 3 w)) (by rw[List.length_take];omega)
 have hs:=pv_135 _ hs
 have hr:=pv_136 _ (read_ok (take 553 (drop 11 w)))
 unfold F_121
 rw[gd_sl3 (by omega) (by omega) (by omega),gd_dec (by omega),gd_inB (by omega) (by rw[t1];decide),gd_dec (by omega),gd_inB (by omega) (by rw[t2];decide),gd_dec (by omega),hs.1,hs.2,gd_tt,gd_sl3 (by omega) (by omega) (by omega),hr.1,gd_tt,wi64 (n:=(w.length:Int)-564) (by omega) (by omega)]
 generalize v_136 (take 553 (drop 11 w))=r
 generalize wrap .i64 (getD (take 1 (drop 1 w)) 0 0)=ver
 generalize wrap .i64 (getD (take 1 (drop 2 w)) 0 0)=sz
 by_cases e:r.2.1=0
 rotate_left
 ·exact⟨hdF,by rw[cond_ntt e],hdF_o⟩
 rw[cond_nff e]
 by_cases e1:ver<1
 ·exact⟨hdF,by rw[cond_dtt e1],hdF_o⟩
 rw[cond_dff e1]
 by_cases e2:ver>2147483647
 ·exact⟨hdF,by rw[cond_dtt e2],hdF_o⟩
 rw[cond_dff e2]
 by_cases e3:sz<1
 ·exact⟨hdF,by rw[cond_dtt e3],hdF_o⟩
 rw[cond_dff e3]
 by_cases e4:sz>(w.length:Int)-564
 ·exact⟨hdF,by rw[cond_dtt e4],hdF_o⟩
 rw[cond_dff e4]
 refine⟨_,rfl,fun _=>⟨by show 1<=ver;omega,by show ver<=2147483647;omega,by show 1<=sz;omega,by show sz<=_;omega,?_⟩⟩
 refine over_b ?_ ?_
 ·intro x hx;rw[List.eq_of_mem_replicate hx];decide
 ·exact fun x hx=>hb x (List.mem_of_mem_take hx)
theorem hdr_ok{a:BayT}(h:BV a)(hb:Sp.bvb a=true)(k:Nat)(hk:k<2):∃v,F_82 a k=some v/\(v.2.1=true->HdO (Sp.hlf a) v):=by
 obtain⟨v,hv,ho⟩:=head_ok (Sp.wds a k) (by rw[wds_len h k hk];exact h.h0) (by rw[wds_len h k hk];exact h.h1)
 rw[wds_len h k hk]at ho
 have hv:=pv_121 _ hv
 refine⟨v,?_,ho⟩
 unfold F_82
 rw[(val_pv a).1,(val_pv a).2,gd_tt,(bank_pv k).1,(bank_pv k).2,gd_tt,(words_pv h k hk).1,(words_pv h k hk).2,gd_tt,hv.1,hv.2,gd_tt,hb,bank_nat k hk]
 rfl
theorem hdr_pv{a:BayT}(h:BV a)(hb:Sp.bvb a=true)(k:Nat)(hk:k<2):p_82 a k=true/\((v_82 a k).2.1=true->HdO (Sp.hlf a) (v_82 a k)):=by
 obtain⟨v,hv,ho⟩:=hdr_ok h hb k hk
 have:=pv_82 a k hv
 exact⟨this.1,by rw[this.2];exact ho⟩
theorem good_ok{a:BayT}(h:BV a)(hb:Sp.bvb a=true)(k:Nat)(hk:k<2):∃g:Bool,F_123 a k=some (g,())/\(g=true->(v_82 a k).2.1=true):=by
 have hh:=hdr_pv h hb k hk
 have hl:=wds_len h k hk
 have h0:=h.h0
 have h1:=h.h1
 unfold F_123
 rw[hh.1,gd_tt]
 cases e:(v_82 a k).2.1
 ·exact⟨false,rfl,id⟩
 have o:=hh.2 e
 have o1:=o.s0
 have o2:=o.s1
 rw[(words_pv h k hk).1,(words_pv h k hk).2,gd_tt]
 have c:=pv_140 _ (cat_ok (take 2 (drop 1 (Sp.wds a k))) (take (toNat (wrap .i64 (564+(v_82 a k).1.2.1))-564) (drop 564 (Sp.wds a k))) (by rw[List.length_take];omega) (by rw[List.length_take,List.length_drop];omega))
 have cl:(take 2 (drop 1 (Sp.wds a k))++take (toNat (wrap .i64 (564+(v_82 a k).1.2.1))-564) (drop 564 (Sp.wds a k))).length<=10000:=by rw[List.length_append,List.length_take,List.length_take,List.length_drop,List.length_drop];omega
 obtain⟨q,hq,ql,qb⟩:=spr_ok (take 2 (drop 1 (Sp.wds a k))++take (toNat (wrap .i64 (564+(v_82 a k).1.2.1))-564) (drop 564 (Sp.wds a k))) (by omega)
 have hq:=pv_135 _ hq
 have hs:=pv_122 _ (i_sum q (by omega))
 have hv:=pv_45 _ _ _ (verify_ok a.2.1 (v_82 a k).1.2.2.1 o.b (v_82 a k).1.2.2.2.1)
 dsimp only
 rw[gd_sl3 (by omega) (by omega) (by omega),gd_sl3 (lo:=564) (by omega) (by rw[wi64 (by omega) (by omega)];omega) (by rw[wi64 (by omega) (by omega)];omega),c.1,c.2,gd_tt,show((take 2 (drop 1 (Sp.wds a k))++take (toNat (wrap .i64 (564+(v_82 a k).1.2.1))-564) (drop 564 (Sp.wds a k))),()).1=(take 2 (drop 1 (Sp.wds a k))++take (toNat (wrap .i64 (564+(v_82 a k).1.2.1))-564) (drop 564 (Sp.wds a k)))from rfl,hq.1,hq.2,gd_tt,hs.1,hs.2,gd_tt,hv.1,hv.2,gd_tt]
 cases Ty.beq (.arr 32 (.int .u8)) (Sp.sha q) (v_82 a k).1.2.2.1
 ·exact⟨false,rfl,fun _=>rfl⟩
 ·exact⟨_,rfl,fun _=>rfl⟩
theorem good_pv{a:BayT}(h:BV a)(hb:Sp.bvb a=true)(k:Nat)(hk:k<2):p_123 a k=true/\((v_123 a k).1=true->(v_82 a k).2.1=true):=by
 obtain⟨g,hg,ho⟩:=good_ok h hb k hk
 have:=pv_123 a k hg
 exact⟨this.1,by rw[this.2];exact ho⟩
namespace Sp
noncomputable def acb(a:BayT)(k:Nat):Bool:=a.1.1.getD (k*hlf a) 0==0
noncomputable def gdb(a:BayT)(k:Nat):Bool:=(v_123 a k).1
noncomputable def vr(a:BayT)(k:Nat):Int:=(v_82 a k).1.1
noncomputable def cnd(a:BayT)(k:Nat):Bool:=acb a k&&gdb a k
noncomputable def sel(a:BayT):Int×Int×Unit:=bif cnd a 0 then(bif cnd a 1&&decide (vr a 1>vr a 0)then(1,0,())else(0,0,()))else bif cnd a 1 then(1,0,())else(0,7,())
end Sp
structure BB(a:BayT):Prop where
 v:BV a
 b:Sp.bvb a=true
theorem BB.vr1{a:BayT}(h:BB a)(k:Nat)(hk:k<2)(hg:Sp.gdb a k=true):(v_82 a k).2.1=true/\1<=Sp.vr a k:=by
 have o:=(good_pv h.v h.b k hk).2 hg
 exact⟨o,((hdr_pv h.v h.b k hk).2 o).v0⟩
theorem sel_step{a:BayT}(h:BB a)(k:Nat)(hk:k<2)(m:Nat)(b v:Int):L_88_0 (m+1) b v k a=bif decide (Sp.vr a k>v)&&Sp.cnd a k then L_88_0 m k (Sp.vr a k) ((k+1:Nat):Int) a else L_88_0 m b v ((k+1:Nat):Int) a:=by
 have e:wrap .i64 ((k:Int)+1)=((k+1:Nat):Int):=by rw[wi64 (by omega) (by omega)];push_cast;rfl
 have hg:=h.vr1 k hk
 rw[L_88_0,S_88_0,cond_dtt (by omega),(hdr_pv h.v h.b k hk).1,gd_tt,(act_pv h.v k hk).1,(act_pv h.v k hk).2,gd_tt,(good_pv h.v h.b k hk).1,gd_tt,e]
 show(bif(v_82 a k).2.1 then bif decide (Sp.vr a k>v)then bif Sp.acb a k then bif Sp.gdb a k then _ else _ else _ else _ else _)=_
 unfold Sp.cnd
 cases e1:Sp.gdb a k
 ·cases (v_82 a k).2.1<;>cases decide (Sp.vr a k>v)<;>cases Sp.acb a k<;>rfl
 ·rw[(hg e1).1]
  cases decide (Sp.vr a k>v)<;>cases Sp.acb a k<;>rfl
theorem sel_ok{a:BayT}(h:BB a):F_88 a=some (Sp.sel a):=by
 have l:∃b v,L_88_0 4611686018427387904 0 0 0 a=some (.e0 b v)/\(bif v==0 then(0,7,())else(b,0,()))=Sp.sel a:=by
  have s0:=sel_step h 0 (by decide) 4611686018427387903 0 0
  have s1:=fun b v=>sel_step h 1 (by decide) 4611686018427387902 b v
  have s2:∀b v,L_88_0 4611686018427387902 b v ((2:Nat):Int) a=some (.e0 b v):=fun b v=>by
   show L_88_0 (4611686018427387901+1) b v 2 a=_
   rw[L_88_0,S_88_0,cond_dff (by decide)]
  have g0:=h.vr1 0 (by decide)
  have g1:=h.vr1 1 (by decide)
  have k0:Sp.cnd a 0=true->1<=Sp.vr a 0:=fun e=>(g0 ((Bool.and_eq_true_iff.1 e).2)).2
  have k1:Sp.cnd a 1=true->1<=Sp.vr a 1:=fun e=>(g1 ((Bool.and_eq_true_iff.1 e).2)).2
  unfold Sp.sel
  cases c0:Sp.cnd a 0<;>cases c1:Sp.cnd a 1
  ·rw[c0,Bool.and_false,cond_f]at s0
   have s1:=s1 0 0
   rw[c1,Bool.and_false,cond_f]at s1
   exact⟨0,0,s0.trans (s1.trans (s2 ..)),rfl⟩
  ·rw[c0,Bool.and_false,cond_f]at s0
   have s1:=s1 0 0
   rw[c1,Bool.and_true,cond_dtt (by have:=k1 c1;omega)]at s1
   exact⟨1,Sp.vr a 1,s0.trans (s1.trans (s2 ..)),by rw[cond_eff (by have:=k1 c1;omega)];rfl⟩
  ·rw[c0,Bool.and_true,cond_dtt (by have:=k0 c0;omega)]at s0
   have s1:=s1 0 (Sp.vr a 0)
   rw[c1,Bool.and_false,cond_f]at s1
   exact⟨0,Sp.vr a 0,s0.trans (s1.trans (s2 ..)),by rw[cond_eff (by have:=k0 c0;omega)];rfl⟩
  ·rw[c0,Bool.and_true,cond_dtt (by have:=k0 c0;omega)]at s0
   have s1:=s1 0 (Sp.vr a 0)
   rw[c1,Bool.and_true]at s1
   by_cases e:Sp.vr a 1>Sp.vr a 0
   ·rw[cond_dtt e]at s1
    exact⟨1,Sp.vr a 1,s0.trans (s1.trans (s2 ..)),by rw[cond_eff (by have:=k1 c1;omega),decide_eq_true e];rfl⟩
   ·rw[cond_dff e]at s1
    exact⟨0,Sp.vr a 0,s0.trans (s1.trans (s2 ..)),by rw[cond_eff (by have:=k0 c0;omega),decide_eq_false e];rfl⟩
 obtain⟨b,v,hl,hr⟩:=l
 unfold F_88
 rw[(val_pv a).1,(val_pv a).2,gd_tt,h.b,<-hr,show(!(true,()).1)=false from rfl,cond_f]
 refine(congrArg (fun z=>B_88_0 z _) hl).trans ?_
 show(bif v==0 then some (0,7,())else some (b,0,()))=_
 cases v==0<;>rfl
theorem sel_pv{a:BayT}(h:BB a):p_88 a=true/\v_88 a=Sp.sel a:=pv_88 a (sel_ok h)
theorem atv_pv{a:BayT}(h:BB a):p_46 a=true/\v_46 a=((Sp.sel a).1,(Sp.sel a).2.1==0,()):=by
 refine pv_46 a ?_
 unfold F_46
 rw[(sel_pv h).1,(sel_pv h).2,gd_tt]
namespace Sp
noncomputable def sb(a:BayT):Nat:=bif cnd a 0 then(bif cnd a 1&&decide (vr a 1>vr a 0)then 1 else 0)else bif cnd a 1 then 1 else 0
noncomputable def has(a:BayT):Bool:=cnd a 0||cnd a 1
noncomputable def lst(a:BayT):Int:=bif has a then vr a (sb a)else 0
end Sp
theorem sb_lt(a:BayT):Sp.sb a<2:=by
 unfold Sp.sb
 cases Sp.cnd a 0<;>cases Sp.cnd a 1<;>cases decide (Sp.vr a 1>Sp.vr a 0)<;>decide
theorem sel_eq(a:BayT):(Sp.sel a).1=(Sp.sb a:Int)/\((Sp.sel a).2.1==0)=Sp.has a:=by
 unfold Sp.sb Sp.sel Sp.has
 cases Sp.cnd a 0<;>cases Sp.cnd a 1<;>cases decide (Sp.vr a 1>Sp.vr a 0)<;>exact⟨rfl,rfl⟩
theorem atv{a:BayT}(h:BB a):p_46 a=true/\v_46 a=((Sp.sb a:Int),Sp.has a,()):=by
 rw[<-(sel_eq a).1,<-(sel_eq a).2]
 exact atv_pv h
theorem lst_pv{a:BayT}(h:BB a):p_44 a=true/\v_44 a=(Sp.lst a,()):=by
 refine pv_44 a ?_
 unfold F_44 Sp.lst
 rw[(atv h).1,(atv h).2,gd_tt]
 show(bif !(Sp.has a)then some (0,())else gd (p_82 a (Sp.sb a)) (some ((v_82 a (Sp.sb a)).1.1,())))=_
 rw[(hdr_pv h.v h.b _ (sb_lt a)).1,gd_tt]
 cases Sp.has a<;>rfl
theorem cnd_sb{a:BayT}(h:Sp.has a=true):Sp.cnd a (Sp.sb a)=true:=by
 unfold Sp.has at h
 unfold Sp.sb
 cases c0:Sp.cnd a 0<;>cases c1:Sp.cnd a 1
 ·rw[c0,c1]at h;exact Bool.noConfusion h
 ·exact c1
 ·exact c0
 ·cases decide (Sp.vr a 1>Sp.vr a 0)
  ·exact c0
  ·exact c1
set_option maxRecDepth 100000
set_option maxHeartbeats 4000000
theorem rlife_pv(n:Int):p_96 n=true/\v_96 n=(decide (1<=n)&&decide (n<=1000000),()):=by
 refine pv_96 n ?_
 unfold F_96
 by_cases h:n>=1
 ·rw[cond_dtt h,decide_eq_true (p:=1<=n) h,Bool.true_and]
 ·rw[cond_dff h,decide_eq_false (p:=1<=n) h,Bool.false_and]
theorem rfv_ok(f:FlT):F_54 f=some (Sp.fv f,()):=by
 unfold F_54 Sp.fv
 by_cases h1:(f.2.1.length:Int)<1
 ·rw[cond_dtt h1,decide_eq_false (by omega)];rfl
 rw[cond_dff h1,decide_eq_true (p:=1<=f.2.1.length) (by omega),Bool.true_and]
 by_cases h2:(f.2.1.length:Int)>64
 ·rw[cond_dtt h2,decide_eq_false (by omega)];rfl
 rw[cond_dff h2,decide_eq_true (p:=f.2.1.length<=64) (by omega),Bool.true_and,wi64 (by omega) (by omega)]
 by_cases h3:(f.1.length:Int)=(f.2.1.length:Int)*64
 rotate_left
 ·rw[cond_ntt h3,decide_eq_false (p:=f.1.length=_) (by omega)];rfl
 rw[cond_nff h3,decide_eq_true (p:=f.1.length=_) (by omega),Bool.true_and,(rlife_pv f.2.2.1).1,(rlife_pv f.2.2.1).2,gd_tt]
 by_cases h4:f.2.2.1<1
 ·rw[decide_eq_false (p:=1<=f.2.2.1) (by omega)];rfl
 rw[decide_eq_true (p:=1<=f.2.2.1) (by omega),Bool.true_and,Bool.true_and]
 by_cases h5:f.2.2.1>1000000
 ·rw[decide_eq_false (p:=f.2.2.1<=1000000) (by omega)];rfl
 rw[decide_eq_true (p:=f.2.2.1<=1000000) (by omega),Bool.true_and,show(!(true,()).1)=false from rfl,cond_f]
 have hf:=find0 (fun m i=>L_54_0 m f.2.1.length i f) (n:=f.2.1.length) (Sp.wb f) (ex:=fun j=>some .e0) (e1:=some .e1) (by omega) (fun m j hj=>by
  show L_54_0 (m+1) f.2.1.length j f=bif Sp.wb f j then some .e0 else L_54_0 m f.2.1.length ((j+1:Nat):Int) f
  rw[L_54_0,S_54_0,cond_dtt (by omega),gd_inB (by omega) (by omega),gd_inB (by omega) (by omega),Int.toNat_natCast,wi64 (by omega) (by omega)]
  unfold Sp.wb
  push_cast
  cases decide (f.2.1.getD j 0<0)<;>cases decide (f.2.1.getD j 0>f.2.2.1)<;>rfl) (fun m=>by
  show L_54_0 (m+1) f.2.1.length f.2.1.length f=_
  rw[L_54_0,S_54_0,cond_dff (by omega)])
 have e1:L_54_0 4611686018427387904 f.2.1.length 0 f=_:=hf
 rw[e1]
 cases fnd (Sp.wb f) f.2.1.length 0<;>rfl
theorem rsize_ok(n:Nat)(hn:n<1000000):F_55 n=some (Sp.cntB n,()):=by
 unfold F_55 Sp.cntB
 rw[Int.tmod_eq_emod_of_nonneg (by omega),show((n:Int)%2==0)=decide (n%2=0)from by rw[Bool.eq_iff_iff,beq_iff_eq,decide_eq_true_iff];omega]
 by_cases h:18<=n
 ·rw[cond_dtt (by omega),decide_eq_true h,Bool.true_and]
  by_cases h:n<=64
  ·rw[cond_dtt (by omega),decide_eq_true h,Bool.and_true]
  ·rw[cond_dff (by omega),decide_eq_false h,Bool.and_false]
 ·rw[cond_dff (by omega),decide_eq_false h,Bool.false_and,Bool.and_false]
theorem rval_pv(a:BayT):p_12 a=true/\v_12 a=(Sp.bvb a,()):=by
 refine pv_12 a ?_
 have hv:=pv_54 _ (rfv_ok a.1)
 unfold F_12 Sp.bvb
 rw[hv.1,hv.2,gd_tt]
 cases h:Sp.fv a.1
 ·rfl
 ·have hv:=fv_iff.1 h
  have hc:=pv_55 _ (rsize_ok a.1.2.1.length (by omega))
  rw[cond_t,hc.1,hc.2,gd_tt,Bool.true_and]
theorem ridx_pv(k:Int):p_107 k=true/\v_107 k=(k==0||k==1,()):=by
 refine pv_107 k ?_
 unfold F_107
 cases k==0<;>rfl
theorem rwd_ok{a:BayT}(h:BV a)(k:Nat)(hk:k<2):F_30 a k=some (Sp.wds a k,()):=by
 have hl:=off_lt h k hk
 have e:wrap .i64 ((k:Int)+1)=((k+1:Nat):Int):=by rw[wi64 (by omega) (by omega)];push_cast;rfl
 unfold F_30 Sp.wds
 rw[half_eq h,e,off_eq h k (by omega),off_eq h (k+1) (by omega),gd_sl3 (by omega) (by rw[Nat.add_mul];omega) (by rw[Nat.add_mul];omega),Int.toNat_natCast,Int.toNat_natCast,show(k+1)*Sp.hlf a-k*Sp.hlf a=Sp.hlf a by rw[Nat.add_mul];omega]
theorem rwd_pv{a:BayT}(h:BV a)(k:Nat)(hk:k<2):p_30 a k=true/\v_30 a k=(Sp.wds a k,()):=pv_30 a k (rwd_ok h k hk)
theorem hash_in(w:List Int)(i:Nat)(hi:i<w.length)(hw:w.length=8)(p3 A C:List Int)(c0 c1 c2 c3:Int)(hA:A.length=4*i)(hC:C.length=28-4*i)(m:Nat):L_113_1 (m+5) w i 0 p3 (A++c0::c1::c2::c3::C)=some (.e0 w i p3 (A++Sp.w4 (w.getD i 0)++C)):=by
 have hl:∀x0 x1 x2 x3:Int,(A++x0::x1::x2::x3::C).length=32:=fun x0 x1 x2 x3=>by simp[List.length_append];omega
 have e:∀k:Nat,k<4->wrap .i64 (wrap .i64 (4*(i:Int))+(k:Int))=((4*i+k:Nat):Int):=fun k hk=>by
  rw[wi64 (n:=4*(i:Int)) (by omega) (by omega),wi64 (by omega) (by omega)];push_cast;rfl
 have s:∀(k:Nat)(hk:k<4)(m:Nat)(l:List Int),L_113_1 (m+1) w i k p3 l=L_113_1 m w i ((k+1:Nat):Int) p3 (l.set (4*i+k) (wrap .u8 (Int.fdiv (w.getD i 0) (2^(24-8*k))))):=fun k hk m l=>by
  rw[L_113_1,S_113_1,cond_dtt (by omega),gd_inB (by omega) (by omega),wi64 (n:=8*(k:Int)) (by omega) (by omega),wi64 (n:=24-8*(k:Int)) (by omega) (by omega),gd_dec (by omega),e k hk,gd_inB (by omega) (by omega),Int.toNat_natCast,Int.toNat_natCast,gd_and,gd_dec (by omega),gd_tt,show(24-8*(k:Int)).toNat=24-8*k by omega,nmin_l (by omega),wi64 (n:=(k:Int)+1) (by omega) (by omega)]
  push_cast
  rfl
 have s0:=s 0 (by decide)
 have s1:=s 1 (by decide)
 have s2:=s 2 (by decide)
 have s3:=s 3 (by decide)
 refine(s0 (m+4) _).trans ((s1 (m+3) _).trans ((s2 (m+2) _).trans ((s3 (m+1) _).trans ?_)))
 show L_113_1 (m+1) w i 4 p3 _=_
 rw[L_113_1,S_113_1,cond_dff (by decide)]
 congr 2
 rw[<-hA]
 simp only[List.set_append,Nat.lt_irrefl,Nat.add_sub_cancel_left,if_false,show ∀k,¬(A.length+k<A.length)from fun k=>by omega,List.set_cons_zero,List.set_cons_succ]
 rw[List.append_assoc]
 unfold Sp.w4
 simp[fdiv_one]
theorem hash_out(w:List Int)(hw:w.length=8):∀(d m i:Nat)(p2 A C:List Int),i+d=8->d<m->A.length=4*i->A=Sp.spr (w.take i)->C.length=32-4*i->∃x,L_113_0 m w i p2 (A++C)=some (.e0 x (Sp.spr w)):=by
 intro d
 induction d with
 |zero=>
  intro m i p2 A C hi hm hA he hC
  obtain⟨m,rfl⟩:∃k,m=k+1:=⟨m-1,by omega⟩
  refine⟨p2,?_⟩
  rw[L_113_0,S_113_0,cond_dff (by omega),List.eq_nil_of_length_eq_zero (l:=C) (by omega),List.append_nil,he,List.take_of_length_le (by omega)]
 |succ d ih=>
  intro m i p2 A C hi hm hA he hC
  obtain⟨m,rfl⟩:∃k,m=k+1:=⟨m-1,by omega⟩
  obtain⟨c0,c1,c2,c3,C,rfl⟩:∃c0 c1 c2 c3 D,C=c0::c1::c2::c3::D:=by
   match C,hC with
   |[],hC=>simp at hC;omega
   |[_],hC=>simp at hC;omega
   |[_,_],hC=>simp at hC;omega
   |[_,_,_],hC=>simp at hC;omega
   |c0::c1::c2::c3::D,_=>exact⟨c0,c1,c2,c3,D,rfl⟩
  rw[L_113_0,S_113_0,cond_dtt (by omega)]
  have hin:=hash_in w i (by omega) hw p2 A C c0 c1 c2 c3 hA (by simp at hC;omega) 4611686018427387899
  obtain⟨x,hx⟩:=ih m (i+1) p2 (A++Sp.w4 (w.getD i 0)) C (by omega) (by omega) (by rw[List.length_append,hA];show _+4=_;omega) (by rw[spr_succ w i (by omega),he]) (by simp at hC;omega)
  refine⟨x,?_⟩
  refine(congrArg (fun z=>B_113_1 z _) hin).trans ?_
  unfold B_113_1
  dsimp only
  rw[wi64 (by omega) (by omega)]
  exact_mod_cast hx
theorem rhash_ok(w:List Int)(hw:w.length=8):F_113 w=some (Sp.spr w,()):=by
 obtain⟨x,hx⟩:=hash_out w hw 8 4611686018427387904 0 (replicate 32 0) [] (replicate 32 0) (by omega) (by omega) rfl rfl rfl
 unfold F_113
 exact(congrArg (fun z=>B_113_0 z _) hx).trans rfl
theorem tk1_get(w:List Int)(n:Nat):(take 1 (drop n w)).getD 0 0=w.getD n 0:=by
 simp only[List.getD_eq_getElem?_getD,List.getElem?_take,List.getElem?_drop]
 rfl
namespace Sp
noncomputable def hx(w:List Int):HdT:=bif okw (take 553 (drop 11 w))then bif decide (wrap .i64 (w.getD 1 0)<1)then hdF else bif decide (wrap .i64 (w.getD 1 0)>2147483647)then hdF else bif decide (wrap .i64 (w.getD 2 0)<1)then hdF else bif decide (wrap .i64 (w.getD 2 0)>(w.length:Int)-564)then hdF else((wrap .i64 (w.getD 1 0),wrap .i64 (w.getD 2 0),spr (take 8 (drop 3 w)),rd (take 553 (drop 11 w)),()),true,())else hdF
end Sp
theorem head_eq(w:List Int)(h0:576<=w.length)(h1:w.length<=2048):F_121 w=some (Sp.hx w):=by
 have t1:(take 1 (drop 1 w)).length=1:=by rw[List.length_take,List.length_drop];omega
 have t2:(take 1 (drop 2 w)).length=1:=by rw[List.length_take,List.length_drop];omega
 have t8:(take 8 (drop 3 w)).length=8:=by rw[List.length_take,List.length_drop];omega
 have hs:=pv_135 _ (spr_eq (take 8 (drop 3 w)) (by omega))
 have hr:=pv_136 _ (read_ok (take 553 (drop 11 w)))
 have ho:over (replicate 32 0) 0 (take 32 (Sp.spr (take 8 (drop 3 w))))=Sp.spr (take 8 (drop 3 w)):=by
  have l:=spr_len (take 8 (drop 3 w))
  rw[t8]at l
  rw[List.take_of_length_le (by omega)]
  unfold over
  rw[l]
  simp
 unfold F_121 Sp.hx
 rw[gd_sl3 (by omega) (by omega) (by omega),gd_dec (by omega),gd_inB (by omega) (by rw[t1];decide),gd_dec (by omega),gd_inB (by omega) (by rw[t2];decide),gd_dec (by omega),hs.1,hs.2,gd_tt,gd_sl3 (by omega) (by omega) (by omega),hr.1,hr.2,gd_tt,wi64 (n:=(w.length:Int)-564) (by omega) (by omega),tk1_get,tk1_get]
 dsimp only
 rw[ho]
 generalize wrap .i64 (w.getD 1 0)=ver
 generalize wrap .i64 (w.getD 2 0)=sz
 generalize Sp.spr (take 8 (drop 3 w))=s8
 cases e:Sp.okw (take 553 (drop 11 w))
 ·rfl
 rw[if_pos rfl]
 show(bif decide (ver<1)then _ else _)=_
 cases decide (ver<1)<;>cases decide (ver>2147483647)<;>cases decide (sz<1)<;>cases decide (sz>(w.length:Int)-564)<;>rfl
theorem hdr_eq{a:BayT}(h:BB a)(k:Nat)(hk:k<2):F_82 a k=some (Sp.hx (Sp.wds a k)):=by
 have hv:=pv_121 _ (head_eq (Sp.wds a k) (by rw[wds_len h.v k hk];exact h.v.h0) (by rw[wds_len h.v k hk];exact h.v.h1))
 unfold F_82
 rw[(val_pv a).1,(val_pv a).2,gd_tt,(bank_pv k).1,(bank_pv k).2,gd_tt,(words_pv h.v k hk).1,(words_pv h.v k hk).2,gd_tt,hv.1,hv.2,gd_tt,h.b,bank_nat k hk]
 rfl
theorem rhdr_eq{a:BayT}(h:BB a)(k:Nat)(hk:k<2):F_77 a k=some (Sp.hx (Sp.wds a k)):=by
 have wl:=wds_len h.v k hk
 have h0:=h.v.h0
 have h1:=h.v.h1
 have t8:(take 8 (drop 3 (Sp.wds a k))).length=8:=by rw[List.length_take,List.length_drop];omega
 have hh:=pv_113 _ (rhash_ok _ t8)
 have hr:=pv_114 _ (rread_ok (take 553 (drop 11 (Sp.wds a k))))
 unfold F_77
 rw[(rval_pv a).1,(rval_pv a).2,gd_tt,(ridx_pv k).1,(ridx_pv k).2,gd_tt,(rwd_pv h.v k hk).1,(rwd_pv h.v k hk).2,gd_tt,h.b,bank_nat k hk,show(!(true,()).1)=false from rfl,cond_f,cond_f]
 dsimp only
 rw[gd_inB (by omega) (by omega),gd_inB (by omega) (by omega),gd_sl3 (by omega) (by omega) (by omega),hh.1,hh.2,gd_tt,gd_sl3 (by omega) (by omega) (by omega),hr.1,hr.2,gd_tt,wi64 (n:=((Sp.wds a k).length:Int)-564) (by omega) (by omega)]
 unfold Sp.hx
 dsimp only
 rw[show decide (wrap .i64 ((Sp.wds a k).getD 1 0)>=2147483648)=decide (wrap .i64 ((Sp.wds a k).getD 1 0)>2147483647)from decide_eq_decide.2 (by omega)]
 cases e:Sp.okw (take 553 (drop 11 (Sp.wds a k)))
 ·cases decide (wrap .i64 ((Sp.wds a k).getD 1 0)<1)<;>cases decide (wrap .i64 ((Sp.wds a k).getD 1 0)>2147483647)<;>cases decide (wrap .i64 ((Sp.wds a k).getD 2 0)<1)<;>cases decide (wrap .i64 ((Sp.wds a k).getD 2 0)>((Sp.wds a k).length:Int)-564)<;>rfl
 ·cases decide (wrap .i64 ((Sp.wds a k).getD 1 0)<1)<;>cases decide (wrap .i64 ((Sp.wds a k).getD 1 0)>2147483647)<;>cases decide (wrap .i64 ((Sp.wds a k).getD 2 0)<1)<;>cases decide (wrap .i64 ((Sp.wds a k).getD 2 0)>((Sp.wds a k).length:Int)-564)<;>rfl
set_option maxRecDepth 100000
set_option maxHeartbeats 4000000
namespace Sp
noncomputable def wb1(x:Int)(k:Nat):Int:=wrap .u8 (Int.fdiv x (2^(24-8*k)))
end Sp
theorem w4_eq(x:Int):Sp.w4 x=[Sp.wb1 x 0,Sp.wb1 x 1,Sp.wb1 x 2,Sp.wb1 x 3]:=by
 unfold Sp.w4 Sp.wb1
 simp[fdiv_one]
theorem sh_eq(k:Nat)(hk:k<4):wrap .i64 (24-wrap .i64 (8*(k:Int)))=((24-8*k:Nat):Int):=by
 rw[wi64 (n:=8*(k:Int)) (by omega) (by omega),wi64 (by omega) (by omega)]
 omega
theorem s_in0(m i:Nat)(p2 l o:List Int)(hi:i<l.length)(ho:o.length<1000000):L_78_115_1_0 (m+5) i 0 p2 l o=some (.e0 i p2 l (o++Sp.w4 (l.getD i 0))):=by
 have s:∀(k:Nat)(hk:k<4)(m:Nat)(q:List Int),q.length<1000010->L_78_115_1_0 (m+1) i k p2 l q=L_78_115_1_0 m i ((k+1:Nat):Int) p2 l (q++[Sp.wb1 (l.getD i 0) k]):=fun k hk m q hq=>by
  rw[L_78_115_1_0,S_78_115_1_0,cond_dtt (by omega),gd_inB (by omega) (by omega),Int.toNat_natCast,gd_and,gd_dec (by omega),gd_tt,sh_eq k hk,gd_dec (by omega),gd_room (by omega) (by omega),Int.toNat_natCast,nmin_l (by omega),wi64 (n:=(k:Int)+1) (by omega) (by omega)]
  push_cast
  rfl
 refine(s 0 (by decide) (m+4) _ (by omega)).trans ((s 1 (by decide) (m+3) _ (by simp;omega)).trans ((s 2 (by decide) (m+2) _ (by simp;omega)).trans ((s 3 (by decide) (m+1) _ (by simp;omega)).trans ?_)))
 show L_78_115_1_0 (m+1) i 4 p2 l _=_
 rw[L_78_115_1_0,S_78_115_1_0,cond_dff (by decide),w4_eq]
 simp
theorem s_in2(m:Nat)(l:List Int)(i k:Nat)(p3 p4 o:List Int)(hi:i<l.length)(hk:k<=4)(ho:o.length<1000000):L_78_115_1_2 (m+5) l i k p3 p4 o=some (.e0 l i p3 p4 (o++(Sp.w4 (l.getD i 0)).drop k)):=by
 have s:∀(k:Nat)(hk:k<4)(m:Nat)(q:List Int),q.length<1000010->L_78_115_1_2 (m+1) l i k p3 p4 q=L_78_115_1_2 m l i ((k+1:Nat):Int) p3 p4 (q++[Sp.wb1 (l.getD i 0) k]):=fun k hk m q hq=>by
  rw[L_78_115_1_2,S_78_115_1_2,cond_dtt (by omega),gd_inB (by omega) (by omega),Int.toNat_natCast,sh_eq k hk,gd_dec (by omega),gd_room (by omega) (by omega),Int.toNat_natCast,nmin_l (by omega),wi64 (n:=(k:Int)+1) (by omega) (by omega)]
  push_cast
  rfl
 have e:∀(m:Nat)(q:List Int),L_78_115_1_2 (m+1) l i ((4:Nat):Int) p3 p4 q=some (.e0 l i p3 p4 q):=fun m q=>by
  rw[L_78_115_1_2,S_78_115_1_2,cond_dff (by decide)]
 rw[w4_eq]
 match k,hk with
 |0,_=>rw[s 0 (by decide) (m+4) _ (by omega),s 1 (by decide) (m+3) _ (by simp;omega),s 2 (by decide) (m+2) _ (by simp;omega),s 3 (by decide) (m+1) _ (by simp;omega),e];simp
 |1,_=>rw[s 1 (by decide) (m+4) _ (by omega),s 2 (by decide) (m+3) _ (by simp;omega),s 3 (by decide) (m+2) _ (by simp;omega),e];simp
 |2,_=>rw[s 2 (by decide) (m+4) _ (by omega),s 3 (by decide) (m+3) _ (by simp;omega),e];simp
 |3,_=>rw[s 3 (by decide) (m+4) _ (by omega),e];simp
 |4,_=>rw[e];simp
theorem s_in1(m:Nat)(l:List Int)(i:Nat)(p3 p4 o:List Int)(hi:i<l.length)(ho:o.length<900000):L_78_115_1_1 (m+6) l i 0 p3 p4 o=some (.e1 l i p3 p4 (o++Sp.w4 (l.getD i 0))):=by
 rw[L_78_115_1_1,S_78_115_1_1,cond_dtt (by decide),gd_inB (by omega) (by omega),Int.toNat_natCast,show wrap .i64 (24-wrap .i64 (8*0))=((24-8*0:Nat):Int)from sh_eq 0 (by decide),gd_dec (by omega),gd_room (by omega) (by omega),Int.toNat_natCast,nmin_l (by omega)]
 have:=s_in2 m l i 1 p3 p4 (o++[Sp.wb1 (l.getD i 0) 0]) hi (by decide) (by simp;omega)
 refine(congrArg (fun z=>B_78_115_1_2 z _) this).trans ?_
 rw[w4_eq]
 unfold B_78_115_1_2
 simp
theorem s_out0(m:Nat)(o:List Int)(x y:Int):L_78_115_0_0 (m+3) 0 o [x,y] []=some (.e0 o [x,y] (Sp.w4 x++Sp.w4 y)):=by
 have s:∀(i:Nat)(hi:i<2)(m:Nat)(q:List Int),q.length<1000->L_78_115_0_0 (m+1) i o [x,y] q=L_78_115_0_0 m ((i+1:Nat):Int) o [x,y] (q++Sp.w4 ([x,y].getD i 0)):=fun i hi m q hq=>by
  rw[L_78_115_0_0,S_78_115_0_0,cond_dtt (by show(i:Int)<((2:Nat):Int);omega)]
  refine(congrArg (fun z=>B_78_115_1_0 z _) (s_in0 4611686018427387899 i o [x,y] q hi (by omega))).trans ?_
  unfold B_78_115_1_0
  dsimp only
  rw[wi64 (n:=(i:Int)+1) (by omega) (by omega)]
  push_cast
  rfl
 refine(s 0 (by decide) (m+2) [] (by decide)).trans ((s 1 (by decide) (m+1) _ (by show(4:Nat)<1000;decide)).trans ?_)
 show L_78_115_0_0 (m+1) 2 o [x,y] _=_
 rw[L_78_115_0_0,S_78_115_0_0,cond_dff (by show ¬(2:Int)<((2:Nat):Int);decide)]
 rfl
theorem s_out2(l p2 p3 o:List Int)(hl:l.length<100000)(ho:o.length<1000):∀(d m i:Nat),i+d=l.length->d<m->L_78_115_0_2 m l i p2 p3 (o++Sp.spr (l.take i))=some (.e0 p2 p3 (o++Sp.spr l)):=by
 intro d
 induction d with
 |zero=>
  intro m i hi hm
  obtain⟨m,rfl⟩:∃k,m=k+1:=⟨m-1,by omega⟩
  rw[L_78_115_0_2,S_78_115_0_2,cond_dff (by omega),List.take_of_length_le (by omega)]
 |succ d ih=>
  intro m i hi hm
  obtain⟨m,rfl⟩:∃k,m=k+1:=⟨m-1,by omega⟩
  have hs:=spr_len (l.take i)
  rw[List.length_take]at hs
  rw[L_78_115_0_2,S_78_115_0_2,cond_dtt (by omega)]
  refine(congrArg (fun z=>B_78_115_1_2 z _) (s_in2 4611686018427387899 l i 0 p2 p3 _ (by omega) (by decide) (by rw[List.length_append];omega))).trans ?_
  unfold B_78_115_1_2
  dsimp only
  have:=ih m (i+1) (by omega) (by omega)
  rw[spr_succ l i (by omega),<-List.append_assoc]at this
  rw[wi64 (n:=(i:Int)+1) (by omega) (by omega),List.drop_zero]
  push_cast at this
  exact this
theorem s_out1(l p2 p3 o:List Int)(hl:l.length<100000)(ho:o.length<1000):L_78_115_0_1 4611686018427387904 l 0 p2 p3 o=some (.e0 p2 p3 (o++Sp.spr l))\/L_78_115_0_1 4611686018427387904 l 0 p2 p3 o=some (.e1 p2 p3 (o++Sp.spr l)):=by
 show L_78_115_0_1 (4611686018427387903+1) l 0 p2 p3 o=_\/L_78_115_0_1 (4611686018427387903+1) l 0 p2 p3 o=_
 rw[L_78_115_0_1,S_78_115_0_1]
 by_cases e:l.length=0
 ·left
  rw[cond_dff (by omega),List.eq_nil_of_length_eq_zero e]
  show some (E_78_115_0_1.e0 p2 p3 o)=some (.e0 p2 p3 (o++[]))
  rw[List.append_nil]
 ·right
  rw[cond_dtt (by omega)]
  refine(congrArg (fun z=>B_78_115_1_1 z _ _) (s_in1 4611686018427387898 l 0 p2 p3 o (by omega) (by omega))).trans ?_
  unfold B_78_115_1_1
  dsimp only
  have:=s_out2 l p2 p3 o hl ho (l.length-1) 4611686018427387903 1 (by omega) (by omega)
  rw[spr_succ l 0 (by omega)]at this
  refine(congrArg (fun z=>B_78_115_0_2 z _) this).trans ?_
  rfl
theorem rsum_ok(v:Int)(l:List Int)(hl:l.length<100000):F_78 v l=some (Sp.sha (Sp.spr ([wrap .u32 v,wrap .u32 (l.length:Int)]++l)),()):=by
 have e:Sp.spr ([wrap .u32 v,wrap .u32 (l.length:Int)]++l)=(Sp.w4 (wrap .u32 v)++Sp.w4 (wrap .u32 (l.length:Int)))++Sp.spr l:=by
  unfold Sp.spr
  rw[List.flatMap_append]
  simp[List.flatMap_cons,List.flatMap_nil]
 have hs:=pv_116 _ (r_sum ((Sp.w4 (wrap .u32 v)++Sp.w4 (wrap .u32 (l.length:Int)))++Sp.spr l) (by rw[List.length_append,spr_len];show 8+_<_;omega))
 unfold F_78
 refine(congrArg (fun z=>B_78_115_0_0 z _) (s_out0 4611686018427387901 (replicate 32 0) (wrap .u32 v) (wrap .u32 (l.length:Int)))).trans ?_
 unfold B_78_115_0_0
 dsimp only
 rw[e]
 rcases s_out1 l (replicate 32 0) [wrap .u32 v,wrap .u32 (l.length:Int)] (Sp.w4 (wrap .u32 v)++Sp.w4 (wrap .u32 (l.length:Int))) hl (by show(8:Nat)<1000;decide)with h|h
 ·rw[h]
  unfold B_78_115_0_1
  dsimp only
  rw[hs.1,hs.2,gd_tt]
 ·rw[h]
  unfold B_78_115_0_1
  dsimp only
  rw[hs.1,hs.2,gd_tt]
set_option maxRecDepth 100000
set_option maxHeartbeats 4000000
theorem u32_b{n:Int}(h:(Lit.int .u32 n).wf=true):0<=n/\n<4294967296:=by
 simp[Lit.wf,IntKind.min,IntKind.max,IntKind.signed,IntKind.bits]at h;omega
abbrev W32(a:BayT):Prop:=∀x∈a.1.1,0<=x/\x<4294967296
theorem wds_w{a:BayT}(hw:W32 a)(k i:Nat):0<=(Sp.wds a k).getD i 0/\(Sp.wds a k).getD i 0<4294967296:=by
 rw[List.getD_eq_getElem?_getD]
 cases e:(Sp.wds a k)[i]? with
 |none=>decide
 |some x=>
  have:x∈Sp.wds a k:=List.mem_of_getElem? e
  exact hw x (List.mem_of_mem_drop (List.mem_of_mem_take this))
theorem hx_ok{w:List Int}(h:(Sp.hx w).2.1=true):(Sp.hx w).1.1=wrap .i64 (w.getD 1 0)/\(Sp.hx w).1.2.1=wrap .i64 (w.getD 2 0):=by
 unfold Sp.hx at h⊢
 revert h
 cases Sp.okw (take 553 (drop 11 w))<;>cases decide (wrap .i64 (w.getD 1 0)<1)<;>cases decide (wrap .i64 (w.getD 1 0)>2147483647)<;>cases decide (wrap .i64 (w.getD 2 0)<1)<;>cases decide (wrap .i64 (w.getD 2 0)>(w.length:Int)-564)<;>first|exact fun h=>Bool.noConfusion h|exact fun _=>⟨rfl,rfl⟩
theorem v14_eq{a:BayT}(h:BB a)(k:Nat)(hk:k<2):v_82 a k=Sp.hx (Sp.wds a k):=(pv_82 a k (hdr_eq h k hk)).2
theorem rhdr_pv{a:BayT}(h:BB a)(k:Nat)(hk:k<2):p_77 a k=true/\v_77 a k=v_82 a k:=by
 rw[v14_eq h k hk]
 exact pv_77 a k (rhdr_eq h k hk)
theorem two_eq(w:List Int)(h:3<=w.length):take 2 (drop 1 w)=[w.getD 1 0,w.getD 2 0]:=by
 match w,h with
 |a::b::c::t,_=>rfl
theorem rgood_eq{a:BayT}(h:BB a)(hw:W32 a)(k:Nat)(hk:k<2):F_32 a k=F_123 a k:=by
 have hh:=hdr_pv h.v h.b k hk
 have rh:=rhdr_pv h k hk
 have hl:=wds_len h.v k hk
 have h0:=h.v.h0
 have h1:=h.v.h1
 unfold F_123 F_32
 rw[hh.1,gd_tt,rh.1,rh.2,gd_tt]
 cases e:(v_82 a k).2.1
 ·rfl
 have o:=hh.2 e
 have o1:=o.s0
 have o2:=o.s1
 have o3:=o.v0
 have o4:=o.v1
 have e':=e
 rw[v14_eq h k hk]at e'
 have q:=hx_ok e'
 rw[<-v14_eq h k hk]at q
 have w1:=wds_w hw k 1
 have w2:=wds_w hw k 2
 rw[wi64 (by omega) (by omega),wi64 (by omega) (by omega)]at q
 rw[(words_pv h.v k hk).1,(words_pv h.v k hk).2,gd_tt,(rwd_pv h.v k hk).1,(rwd_pv h.v k hk).2,gd_tt]
 have c:=pv_140 _ (cat_ok (take 2 (drop 1 (Sp.wds a k))) (take (toNat (wrap .i64 (564+(v_82 a k).1.2.1))-564) (drop 564 (Sp.wds a k))) (by rw[List.length_take];omega) (by rw[List.length_take,List.length_drop];omega))
 have ll:(take (toNat (wrap .i64 (564+(v_82 a k).1.2.1))-564) (drop 564 (Sp.wds a k))).length=((v_82 a k).1.2.1).toNat:=by rw[List.length_take,List.length_drop,wi64 (by omega) (by omega)];omega
 have cl:(take 2 (drop 1 (Sp.wds a k))++take (toNat (wrap .i64 (564+(v_82 a k).1.2.1))-564) (drop 564 (Sp.wds a k))).length<=10000:=by rw[List.length_append,List.length_take,ll];omega
 have hq:=pv_135 _ (spr_eq (take 2 (drop 1 (Sp.wds a k))++take (toNat (wrap .i64 (564+(v_82 a k).1.2.1))-564) (drop 564 (Sp.wds a k))) (by omega))
 have hs:=pv_122 _ (i_sum (Sp.spr (take 2 (drop 1 (Sp.wds a k))++take (toNat (wrap .i64 (564+(v_82 a k).1.2.1))-564) (drop 564 (Sp.wds a k)))) (by rw[spr_len];omega))
 have hv:=pv_45 _ _ _ (verify_ok a.2.1 (v_82 a k).1.2.2.1 o.b (v_82 a k).1.2.2.2.1)
 have rv:=pv_57 _ _ _ (rverify_ok a.2.1 (v_82 a k).1.2.2.1 o.b (v_82 a k).1.2.2.2.1)
 have rs:=pv_78 _ _ (rsum_ok (v_82 a k).1.1 (take (toNat (wrap .i64 (564+(v_82 a k).1.2.1))-564) (drop 564 (Sp.wds a k))) (by omega))
 have t:([wrap .u32 (v_82 a k).1.1,wrap .u32 ((take (toNat (wrap .i64 (564+(v_82 a k).1.2.1))-564) (drop 564 (Sp.wds a k))).length:Int)]:List Int)=take 2 (drop 1 (Sp.wds a k)):=by
  rw[ll,two_eq _ (by omega),<-q.1,<-q.2,wu32' (by omega) (by omega),wu32' (by omega) (by omega),Int.toNat_of_nonneg (by omega)]
 rw[t]at rs
 dsimp only
 rw[gd_sl3 (lo:=1) (hi:=3) (by omega) (by omega) (by omega),gd_sl3 (lo:=564) (by omega) (by rw[wi64 (by omega) (by omega)];omega) (by rw[wi64 (by omega) (by omega)];omega),gd_sl3 (lo:=564) (by omega) (by rw[wi64 (by omega) (by omega)];omega) (by rw[wi64 (by omega) (by omega)];omega),c.1,c.2,gd_tt]
 dsimp only
 rw[hq.1,hq.2,gd_tt,hs.1,hs.2,gd_tt,hv.1,hv.2,gd_tt,rs.1,rs.2,gd_tt,rv.1,rv.2,gd_tt]
theorem rgood_pv{a:BayT}(h:BB a)(hw:W32 a)(k:Nat)(hk:k<2):p_32 a k=true/\(v_32 a k).1=Sp.gdb a k:=by
 have e:=rgood_eq h hw k hk
 have g:=good_pv h.v h.b k hk
 unfold p_32 v_32 Sp.gdb v_123
 rw[e]
 exact⟨g.1,rfl⟩
theorem runs_pv{a:BayT}(h:BB a)(hw:W32 a)(k:Nat)(hk:k<2):p_104 a k=true/\v_104 a k=(Sp.cnd a k,()):=by
 refine pv_104 a k ?_
 have h0:=h.v.h0
 unfold F_104 Sp.cnd
 rw[(rwd_pv h.v k hk).1,(rwd_pv h.v k hk).2,gd_tt]
 dsimp only
 rw[gd_inB (by decide) (by rw[wds_len h.v k hk];omega),wds_get h.v k hk,(rgood_pv h hw k hk).1,(rgood_pv h hw k hk).2,gd_tt]
 show(bif Sp.acb a k then some (Sp.gdb a k,())else some (false,()))=_
 cases Sp.acb a k<;>rfl
theorem ver_w{a:BayT}(h:BB a)(hw:W32 a)(k:Nat)(hk:k<2)(hg:Sp.gdb a k=true):(Sp.wds a k).getD 1 0=Sp.vr a k:=by
 have o:=(h.vr1 k hk hg).1
 have w1:=wds_w hw k 1
 unfold Sp.vr
 rw[v14_eq h k hk]at o⊢
 rw[(hx_ok o).1,wi64 (by omega) (by omega)]
theorem rsel_pv{a:BayT}(h:BB a)(hw:W32 a):p_63 a=true/\v_63 a=Sp.sel a:=by
 refine pv_63 a ?_
 have h0:=h.v.h0
 have r0:=runs_pv h hw 0 (by decide)
 have r1:=runs_pv h hw 1 (by decide)
 have u0:=rwd_pv h.v 0 (by decide)
 have u1:=rwd_pv h.v 1 (by decide)
 have l0:=wds_len h.v 0 (by decide)
 have l1:=wds_len h.v 1 (by decide)
 unfold F_63
 rw[(rval_pv a).1,(rval_pv a).2,gd_tt,h.b,show(!(true,()).1)=false from rfl,cond_f]
 rw[show p_104 a 0=true from r0.1,show p_104 a 1=true from r1.1,gd_tt,gd_tt,show v_104 a 0=(Sp.cnd a 0,())from r0.2,show v_104 a 1=(Sp.cnd a 1,())from r1.2]
 unfold Sp.sel
 dsimp only
 cases c0:Sp.cnd a 0<;>cases c1:Sp.cnd a 1
 ·rfl
 ·rfl
 ·rfl
 ·have g0:=ver_w h hw 0 (by decide) (Bool.and_eq_true_iff.1 c0).2
  have g1:=ver_w h hw 1 (by decide) (Bool.and_eq_true_iff.1 c1).2
  have j:J_63_0 true true a=bif decide (Sp.vr a 1>Sp.vr a 0)then some .e0 else some .e1:=by
   unfold J_63_0 S_63_0
   rw[show p_30 a 1=true from u1.1,show v_30 a 1=(Sp.wds a 1,())from u1.2,show p_30 a 0=true from u0.1,show v_30 a 0=(Sp.wds a 0,())from u0.2]
   dsimp only
   rw[g0,g1,gd_inB (by decide) (by omega),gd_inB (by decide) (by omega)]
   rfl
  rw[j]
  cases decide (Sp.vr a 1>Sp.vr a 0)<;>rfl
theorem bank_cases(k:Int):(∃n:Nat,n<2/\k=n)\/(k==0||k==1)=false:=by
 by_cases h0:k=0
 ·exact .inl ⟨0,by decide,h0⟩
 by_cases h1:k=1
 ·exact .inl ⟨1,by decide,h1⟩
 right
 rw[beq_eq_false_iff_ne.2 h0,beq_eq_false_iff_ne.2 h1]
 rfl
theorem orW_len(ws:List Int)(o:Nat)(b:Int)(n:Nat):(Sp.orW ws o b n).length=ws.length:=by simp[Sp.orW]
theorem orW_get(ws:List Int)(o:Nat)(b:Int)(n i:Nat)(h:i<ws.length):(Sp.orW ws o b n).getD i 0=if o<=i/\i<o+n then Sp.orI .u32 (ws.getD i 0) b else ws.getD i 0:=by
 have hl:i<(Sp.orW ws o b n).length:=by rw[orW_len];exact h
 rw[getD_at 0 hl,getD_at 0 h]
 simp[Sp.orW]
theorem orW_zero(ws:List Int)(o:Nat)(b:Int):Sp.orW ws o b 0=ws:=by
 refine list_ext 0 (orW_len ..) (fun j hj=> ?_)
 rw[orW_len]at hj
 rw[orW_get _ _ _ _ _ hj,if_neg (by omega)]
theorem orW_succ(ws:List Int)(o:Nat)(b:Int)(n:Nat)(h:o+n<ws.length):(Sp.orW ws o b n).set (o+n) (Sp.orI .u32 ((Sp.orW ws o b n).getD (o+n) 0) b)=Sp.orW ws o b (n+1):=by
 refine list_ext 0 (by rw[List.length_set,orW_len,orW_len]) (fun j hj=> ?_)
 rw[List.length_set,orW_len]at hj
 rw[getD_set _ _ _ _ _ (by rw[orW_len];exact h),orW_get _ _ _ _ _ hj,orW_get _ _ _ _ _ hj,orW_get _ _ _ _ _ h]
 split
 ·subst j
  rw[if_neg (by omega),if_pos (by omega)]
 ·by_cases hh:o<=j/\j<o+n
  ·rw[if_pos hh,if_pos (by omega)]
  ·rw[if_neg hh,if_neg (by omega)]
theorem ers_ok{f:FlT}{p:PwT}{s:Nat}(h:Sp.fv f=true)(h0:0<=p.1)(h1:p.1<=1099511627776)(h2:s<f.2.1.length):F_92 f s p=some (Sp.ers f s p):=by
 have hv:=fv_iff.1 h
 unfold F_92 Sp.ers Sp.ew
 rw[(chk_pv h h0 h1 (by omega) (by omega)).1,(chk_pv h h0 h1 (by omega) (by omega)).2,gd_tt,cond_nff rfl,gd_inB (by omega) (by omega),Int.toNat_natCast]
 by_cases e:f.2.1.getD s 0=f.2.2.1
 ·rw[cond_ett e,if_pos e]
 rw[cond_eff e,if_neg e,gd_room (by omega) (by omega),gd_room (by omega) (by omega)]
 have hb:=hv.2.2.2.2.2 s h2
 by_cases e0:p.1=0
 ·rw[cond_ett e0,if_pos e0]
 rw[cond_eff e0,if_neg e0,wi64 (n:=(s:Int)+1) (by omega) (by omega),wi64 (n:=(s:Int)*64) (by omega) (by omega),wi64 (n:=((s:Int)+1)*64) (by omega) (by omega),gd_sl3 (by omega) (by omega) (by omega),
  show(((s:Int)+1)*64).toNat-((s:Int)*64).toNat=64 by omega,show((s:Int)*64).toNat=s*64 by omega]
 have hr:∀(b:Int)(p5:FlT)(p6:Int)(p7:PwT)(p8:Int×PUnit)(p9:PwT)(p10:FlT)(p11:PwT)(p12:Int×PUnit)(p13:PwT)(p15:List Int)(p16 p17:Int×PUnit),L_92_126_0_0 4611686018427387904 b (s*64) 64 ((64:Nat):Int) 0 p5 p6 p7 p8 p9 p10 p11 p12 p13 f.1 p15 p16 p17=some (.e0 p5 p6 p7 p8 p9 p10 p11 p12 p13 (Sp.orW f.1 (s*64) b 64) p15 p16 p17):=by
  intro b p5 p6 p7 p8 p9 p10 p11 p12 p13 p15 p16 p17
  have:=run0 (fun m i ws=>L_92_126_0_0 m b (s*64) 64 ((64:Nat):Int) i p5 p6 p7 p8 p9 p10 p11 p12 p13 ws p15 p16 p17) (n:=64) (fun j=>Sp.orW f.1 (s*64) b j) (r:=some (.e0 p5 p6 p7 p8 p9 p10 p11 p12 p13 (Sp.orW f.1 (s*64) b 64) p15 p16 p17)) (by omega) (fun m j hj=>by
   show L_92_126_0_0 (m+1) b (s*64) 64 ((64:Nat):Int) (j:Int) p5 p6 p7 p8 p9 p10 p11 p12 p13 (Sp.orW f.1 (s*64) b j) p15 p16 p17=_
   rw[L_92_126_0_0,S_92_126_0_0,cond_dtt (by omega)]
   simp only[gd_inB (show(0:Int)<=(j:Int) by omega) (show(j:Int)<((64:Nat):Int) by omega),Int.toNat_natCast,Bool.and_true,orW_len,gd_dec (show s*64+j<f.1.length by omega)]
   rw[orW_succ _ _ _ _ (by omega),wi64 (by omega) (by omega)]
   push_cast
   rfl) (fun m=>by
   show L_92_126_0_0 (m+1) b (s*64) 64 ((64:Nat):Int) ((64:Nat):Int) p5 p6 p7 p8 p9 p10 p11 p12 p13 (Sp.orW f.1 (s*64) b 64) p15 p16 p17=_
   rw[L_92_126_0_0,S_92_126_0_0,cond_dff (by omega)])
  rw[orW_zero]at this
  exact this
 simp only[hr,B_92_126_0_0]
 simp only[gd_inB (show(0:Int)<=(s:Int) by omega) (show(s:Int)<((f.2.1.length:Nat):Int) by omega),Int.toNat_natCast,Bool.and_true,gd_dec h2]
 rw[wi64 (n:=f.2.1.getD s 0+1) (by omega) (by omega)]
 by_cases e1:p.1=1
 ·rw[cond_ett e1,if_pos e1]
 rw[cond_eff e1,if_neg e1,wi64 (by omega) (by omega),gd_sl3 (by omega) (by omega) (by omega)]
theorem ers_pv{f:FlT}{p:PwT}{s:Nat}(h:Sp.fv f=true)(h0:0<=p.1)(h1:p.1<=1099511627776)(h2:s<f.2.1.length):p_92 f s p=true/\v_92 f s p=Sp.ers f s p:=pv_92 f s p (ers_ok h h0 h1 h2)
namespace Sp
noncomputable def rbt(p:PwT):Int×PwT×Int×Unit:=if p.1=0 then(0,p,18,())else if p.1=1 then(p.2.1,(0,p.2),18,())else(4294967295,(p.1-1,p.2),0,())
end Sp
theorem take_s{l:List Int}{i:Nat}(h:i<l.length):l.take (i+1)=l.take i++[l.getD i 0]:=by
 have e:l.getD i 0=l[i]:=by simp[List.getD_eq_getElem?_getD,List.getElem?_eq_getElem h]
 rw[e,List.take_succ_eq_append_getElem h]
set_option maxRecDepth 100000
set_option maxHeartbeats 4000000
theorem hloop(h:List Int)(hl:h.length=32)(p1 p2:Int)(p3:List (List Int))(p4 p5:Int)(p6:List Int)(h6:p6.length<=1000000)(p8:List (List (List Int))):L_81_2 4611686018427387904 0 p1 p2 p3 p4 p5 p6 h p8=some (.e0 p1 p2 p3 p4 p5 (p6++Sp.hws h 8) p8):=by
 have:=run0 (fun m i s=>L_81_2 m (4*i) p1 p2 p3 p4 p5 s h p8) (n:=8) (fun j=>p6++Sp.hws h j) (r:=some (.e0 p1 p2 p3 p4 p5 (p6++Sp.hws h 8) p8)) (by decide) (fun m j hj=>by
  have hp:=pv_119 _ (sword_ok h hl j hj)
  have e:toNat (4*(j:Int))=4*j:=by omega
  show L_81_2 (m+1) (4*(j:Int)) p1 p2 p3 p4 p5 (p6++Sp.hws h j) h p8=_
  rw[L_81_2,S_81_2,cond_dtt (by omega),gd_sl3 (by omega) (by omega) (by omega),e,hp.1,hp.2,Bool.and_true,Bool.and_true,gd_dec (by omega),gd_room (by rw[List.length_append,hws_len];omega) (by rw[List.length_append,hws_len];omega),wi64 (by omega) (by omega),hws_succ,List.append_assoc,show 4*(j:Int)+4=4*((j+1:Nat):Int) by omega]) (fun m=>by
  show L_81_2 (m+1) 32 p1 p2 p3 p4 p5 (p6++Sp.hws h 8) h p8=_
  rw[L_81_2,S_81_2,cond_dff (by decide)])
 simpa[Sp.hws]using this
theorem cloop(p0 p1:Int)(l:List (List Int))(hl:∀h∈l,h.length=32)(hn:l.length<=1000)(p5:List Int)(h5:p5.length<=100000)(p6:List (List (List Int))):L_81_1 4611686018427387904 p0 p1 l l.length 0 p5 p6=some (.e0 p0 p1 (p5++Sp.cws l) p6):=by
 have:=run0 (fun m i s=>L_81_1 m p0 p1 l l.length i s p6) (n:=l.length) (fun j=>p5++Sp.cws (l.take j)) (r:=some (.e0 p0 p1 (p5++Sp.cws l) p6)) (by omega) (fun m j hj=>by
  have hg:(l.getD j h0).length=32:=by rw[getD_at _ hj];exact hl _ (List.getElem_mem hj)
  have hc:(Sp.cws (l.take j)).length<=8000:=by rw[cws_len,List.length_take];omega
  show L_81_1 (m+1) p0 p1 l l.length j (p5++Sp.cws (l.take j)) p6=_
  rw[L_81_1,S_81_1,cond_dtt (by omega),gd_inB (by omega) (by omega),Int.toNat_natCast,hloop _ hg _ _ _ _ _ _ (by rw[List.length_append];omega)]
  simp only[B_81_2]
  rw[wi64 (by omega) (by omega),cws_succ l j hj,List.append_assoc]
  rfl) (fun m=>by
  show L_81_1 (m+1) p0 p1 l l.length l.length (p5++Sp.cws (l.take l.length)) p6=_
  rw[L_81_1,S_81_1,cond_dff (by omega),List.take_length])
 simpa[Sp.cws]using this
theorem swords_ok(s:SigT)(h1:∀h∈s.2.1,h.length=32)(h2:∀h∈s.2.2.1,h.length=32):F_81 s=some (if Sp.shp s=true then(Sp.wordsF s,0,())else([],1,())):=by
 have a:=pv_83 _ (shp_ok s)
 unfold F_81
 rw[a.1,a.2,gd_tt]
 cases hs:Sp.shp s
 ·rfl
 ·obtain⟨_,_,h3,h4⟩:0<=s.1/\s.1<4/\s.2.1.length=67/\s.2.2.1.length=2:=by
   simp only[Sp.shp,Bool.and_eq_true,decide_eq_true_eq,beq_iff_eq]at hs
   omega
  have l1:=cws_len s.2.1
  simp only[Bool.not_true,cond_f,if_true]
  have e0:L_81_0 4611686018427387904 ((2:Nat):Int) 0 [wrap .u32 s.1] [s.2.1,s.2.2.1]=some (.e0 (Sp.wordsF s)):=by
   show L_81_0 (4611686018427387901+1+1+1) ((2:Nat):Int) 0 [wrap .u32 s.1] [s.2.1,s.2.2.1]=_
   rw[L_81_0,S_81_0,cond_dtt (by decide),gd_inB (by simp) (by simp)]
   simp only[Int.toNat_zero,List.getD_cons_zero,List.length_cons,List.length_nil,Nat.zero_add]
   rw[Bool.and_true,gd_dec (by decide),cloop _ _ _ h1 (by omega) _ (by simp)]
   simp only[B_81_1]
   rw[show wrap .i64 (0+1)=1 from by decide,L_81_0,S_81_0,cond_dtt (by decide),gd_inB (by simp) (by simp)]
   simp only[show toNat 1=1 from rfl,List.getD_cons_succ,List.getD_cons_zero,List.length_cons,List.length_nil]
   rw[Bool.and_true,gd_dec (by decide),cloop _ _ _ h2 (by omega) _ (by rw[List.length_append,l1,List.length_singleton];omega)]
   simp only[B_81_1]
   rw[show wrap .i64 (1+1)=2 from by decide,L_81_0,S_81_0,cond_dff (by decide)]
   rfl
  rw[e0]
  rfl
abbrev HdrT:=Int×Int×List Int×SigT×Unit
abbrev DlT:=Int×Int×Int×HdrT×Unit
structure H32(h:HdrT):Prop where
 d:h.2.2.1.length=32
 c:∀x∈h.2.2.2.1.2.1,x.length=32
 p:∀x∈h.2.2.2.1.2.2.1,x.length=32
namespace Sp
noncomputable def z32:List Int:=replicate 32 0
noncomputable def zsg(s:SigT):Bool:=s.1==0&&(s.2.1.length==0&&s.2.2.1.length==0)
noncomputable def zhd(h:HdrT):Bool:=h.1==0&&(h.2.1==0&&(h.2.2.1==z32&&zsg h.2.2.2.1))
noncomputable def zdl(d:DlT):Bool:=d.1==0&&(d.2.1==0&&(d.2.2.1==0&&zhd d.2.2.2.1))
noncomputable def rgt(h:HdrT)(n:Int):Bool:=decide (1<=h.1)&&(decide (h.1<=2147483647)&&(decide (1<=h.2.1)&&(decide (h.2.1<=n)&&shp h.2.2.2.1)))
noncomputable def vst(d:DlT):Bool:=bif d.1==1 then decide (0<=d.2.2.1)&&(decide (d.2.2.1<d.2.2.2.1.2.1)&&Int.tmod d.2.2.1 32==0)else bif d.1==2 then d.2.2.1==d.2.2.2.1.2.1 else false
noncomputable def vdl(d:DlT):Bool:=zdl d||((d.2.1==0||d.2.1==1)&&(rgt d.2.2.2.1 1484&&vst d))
end Sp
theorem zero_ok(d:DlT):F_43 d=some (Sp.zdl d,()):=by
 unfold F_43 Sp.zdl Sp.zhd Sp.zsg
 have e:∀(l:List (List Int)),((l.length:Int)==0)=(l.length==0):=fun l=>by
  rw[Bool.eq_iff_iff,beq_iff_eq,beq_iff_eq];omega
 rw[e,e]
 show _=some (_,())
 have hb:Ty.beq (.arr 32 (.int .u8)) d.2.2.2.1.2.2.1 (replicate 32 0)=(d.2.2.2.1.2.2.1==Sp.z32):=rfl
 rw[hb]
 cases d.1==0<;>cases d.2.1==0<;>cases d.2.2.1==0<;>cases d.2.2.2.1.1==0<;>cases d.2.2.2.1.2.1==0<;>cases d.2.2.2.1.2.2.1==Sp.z32<;>cases d.2.2.2.1.2.2.2.1.1==0<;>cases d.2.2.2.1.2.2.2.1.2.1.length==0<;>rfl
theorem right_ok{h:HdrT}(hh:H32 h)(n:Int):F_40 h n=some (Sp.rgt h n,()):=by
 have w:=pv_81 _ (swords_ok h.2.2.2.1 hh.c hh.p)
 unfold F_40 Sp.rgt
 rw[w.1,w.2,gd_tt]
 have e:((if Sp.shp h.2.2.2.1=true then(Sp.wordsF h.2.2.2.1,0,())else(([]:List Int),(1:Int),())).2.1==0)=Sp.shp h.2.2.2.1:=by
  cases Sp.shp h.2.2.2.1<;>rfl
 rw[e]
 show(bif decide (1<=h.1)then bif decide (h.1<=2147483647)then bif decide (1<=h.2.1)then bif decide (h.2.1<=n)then some (Sp.shp h.2.2.2.1,())else some (false,())else some (false,())else some (false,())else some (false,()))=_
 cases decide (1<=h.1)<;>cases decide (h.1<=2147483647)<;>cases decide (1<=h.2.1)<;>cases decide (h.2.1<=n)<;>rfl
theorem valid_ok{d:DlT}(hh:H32 d.2.2.2.1):F_37 d=some (Sp.vdl d,()):=by
 have z:=pv_43 _ (zero_ok d)
 have r:=pv_40 _ _ (right_ok hh 1484)
 unfold F_37 Sp.vdl Sp.vst
 rw[z.1,z.2,gd_tt,r.1,r.2,gd_tt]
 dsimp only
 cases Sp.zdl d
 rotate_left
 ·rfl
 unfold J_37_0 S_37_0
 have e0:(d.2.1 !=0)= !(d.2.1==0):=rfl
 have e1:(d.2.1 !=1)= !(d.2.1==1):=rfl
 rw[e0,e1]
 show(bif !(d.2.1==0)then _ else _)=_
 generalize Sp.rgt d.2.2.2.1 1484=g
 have e2:decide (d.2.2.1>=0)=decide (0<=d.2.2.1):=rfl
 rw[e2]
 by_cases s1:d.1=1
 ·rw[s1]
  cases d.2.1==0<;>cases d.2.1==1<;>cases g<;>cases decide (0<=d.2.2.1)<;>cases decide (d.2.2.1<d.2.2.2.1.2.1)<;>rfl
 ·rw[beq_eq_false_iff_ne.2 s1]
  by_cases s2:d.1=2
  ·rw[beq_iff_eq.2 s2]
   cases d.2.1==0<;>cases d.2.1==1<;>cases g<;>rfl
  ·rw[beq_eq_false_iff_ne.2 s2]
   cases d.2.1==0<;>cases d.2.1==1<;>cases g<;>rfl
set_option maxRecDepth 100000
set_option maxHeartbeats 4000000
theorem aw:F_7=some (true,()):=by kernel_rfl
theorem aw_pv:p_7=true/\v_7=(true,()):=pv_7 aw
theorem odd_pv(h:HdrT):p_9 h=true/\v_9 h=(decide ((h.2.2.2.1.2.1.length:Int)>100)||decide ((h.2.2.2.1.2.2.1.length:Int)>100),()):=by
 refine pv_9 h ?_
 unfold F_9
 cases decide ((h.2.2.2.1.2.1.length:Int)>100)<;>rfl
theorem h32{h:HdrT}(w:wfD (.pair (.int .i64) (.pair (.int .i64) (.pair (.arr 32 (.int .u8)) (.pair (.pair (.int .i64) (.pair (.slice (.arr 32 (.int .u8))) (.pair (.slice (.arr 32 (.int .u8))) .unit))) .unit)))) h):H32 h:=
 ⟨w.2.2.1.1,fun x hx=>(w.2.2.2.1.2.1 x hx).1,fun x hx=>(w.2.2.2.1.2.2.1 x hx).1⟩
namespace Sp
noncomputable def plo:List Int->Nat->RsT->RsT
 |[],_,s=>s
 |x::l,k,s=>if s.2.2.1=0 then plo l (k+1) (prg s.1 k x s.2.1)else s
end Sp
abbrev W32f(f:FlT):Prop:=∀x∈f.1,0<=x/\x<4294967296
theorem W32f.at{f:FlT}(h:W32f f)(k:Nat):0<=f.1.getD k 0/\f.1.getD k 0<4294967296:=by
 rw[List.getD_eq_getElem?_getD]
 cases e:f.1[k]? with
 |none=>decide
 |some x=>exact h x (List.mem_of_getElem? e)
theorem bv_rng(b:BitVec 32):0<=wrap .u32 ((b.toNat:Nat):Int)/\wrap .u32 ((b.toNat:Nat):Int)<4294967296:=by
 have:=b.isLt
 rw[u32_wrap_nat b.isLt];omega
theorem fv_pw(f:FlT)(k:Nat)(w b:Int):Sp.fv (Sp.pw f k w b)=Sp.fv f:=by
 unfold Sp.pw Sp.fv
 dsimp only
 rw[List.length_set]
 rfl
structure PG(f0:FlT)(s:RsT):Prop where
 v:Sp.fv s.1=true
 l:s.1.1.length=f0.1.length
 w:W32f s.1
 r:s.1.2=f0.2
 p0:0<=s.2.1.1
 p1:s.2.1.1<=1099511627776
 e:s.2.2.1=0\/s.2.2.1=18
theorem prg_g{f0:FlT}{s:RsT}(h:PG f0 s)(k:Nat)(x:Int):PG f0 (Sp.prg s.1 k x s.2.1):=by
 have hw:∀b,W32f (Sp.pw s.1 k x b):=fun b y hy=>by
  rcases List.mem_or_eq_of_mem_set hy with h1|rfl
  ·exact h.w y h1
  ·exact bv_rng _
 have hl:∀b,(Sp.pw s.1 k x b).1.length=f0.1.length:=fun b=>by unfold Sp.pw;dsimp only;rw[List.length_set];exact h.l
 have p0:=h.p0
 have p1:=h.p1
 unfold Sp.prg
 split
 ·exact⟨h.v,h.l,h.w,h.r,h.p0,h.p1,.inr rfl⟩
 split
 ·exact⟨by rw[fv_pw];exact h.v,hl _,hw _,h.r,Int.le_refl _,by show(0:Int)<=_;decide,.inr rfl⟩
 ·refine⟨by rw[fv_pw];exact h.v,hl _,hw _,h.r,?_,?_,.inl rfl⟩
  ·show 0<=s.2.1.1-1;omega
  ·show s.2.1.1-1<=_;omega
theorem plo_stop(l:List Int)(k:Nat){s:RsT}(h:s.2.2.1≠0):Sp.plo l k s=s:=by
 cases l with
 |nil=>rfl
 |cons x l=>rw[Sp.plo,if_neg h]
theorem plo_g{f0:FlT}:∀(l:List Int)(k:Nat){s:RsT},PG f0 s->PG f0 (Sp.plo l k s)
 |[],_,_,h=>h
 |x::l,k,s,h=>by
  rw[Sp.plo]
  split
  ·exact plo_g l (k+1) (prg_g h k x)
  ·exact h
theorem drop_c{l:List Int}{j:Nat}(h:j<l.length):l.drop j=l.getD j 0::l.drop (j+1):=by
 rw[List.drop_eq_getElem_cons h,List.getD_eq_getElem?_getD,List.getElem?_eq_getElem h];rfl
theorem bay_len{b:BayT}(h:Sp.bvb b=true):b.1.1.length=2*Sp.hlf b/\Sp.hlf b=32*b.1.2.1.length/\b.1.2.1.length<=64/\18<=b.1.2.1.length/\b.1.2.1.length%2=0/\Sp.fv b.1=true:=by
 unfold Sp.bvb Sp.cntB at h
 simp only[Bool.and_eq_true,decide_eq_true_eq]at h
 have hv:=fv_iff.1 h.1
 unfold Sp.hlf
 refine⟨by omega,by omega,by omega,by omega,by omega,h.1⟩
theorem size_pv{b:BayT}(h:Sp.bvb b=true):p_41 b=true/\v_41 b=((Sp.hlf b:Int),()):=by
 have hb:=bay_len h
 refine pv_41 b ?_
 unfold F_41
 rw[Int.tdiv_eq_ediv_of_nonneg (by omega),wi64 (by omega) (by omega)]
 congr 2
 omega
namespace Sp
noncomputable def pok(p:PwT):Bool:=decide (0<=p.1)&&decide (p.1<=1099511627776)
end Sp
theorem zdl_vdl{d:DlT}(h:Sp.vdl d=true):Sp.zdl d=(d.1==0):=by
 unfold Sp.vdl Sp.vst at h
 cases hz:Sp.zdl d
 ·rw[hz,Bool.false_or]at h
  by_cases e:d.1=0
  ·simp[e]at h
  ·rw[beq_eq_false_iff_ne.2 e]
 ·unfold Sp.zdl at hz
  simp only[Bool.and_eq_true]at hz
  rw[hz.1]
theorem upow_pv(p:PwT):p_39 p=true/\v_39 p=(Sp.pok p,()):=by
 refine pv_39 p ?_
 unfold F_39 Sp.pok
 by_cases h:p.1>=0
 ·rw[cond_dtt h,decide_eq_true (p:=0<=p.1) h,Bool.true_and]
 ·rw[cond_dff h,decide_eq_false (p:=0<=p.1) h,Bool.false_and]
theorem same_pv(f:FlT)(h:Sp.fv f=true):p_73 f f=true/\v_73 f f=(true,()):=by
 have hv:=fv_iff.1 h
 refine pv_73 f f ?_
 unfold F_73
 rw[cond_nff rfl,cond_nff rfl,cond_nff rfl]
 have h1:=run0 (fun m i(_:Unit)=>L_73_0 m i f f) (n:=f.1.length) (fun _=>()) (r:=some (.e1 f f)) (by omega) (fun m j hj=>by
  show L_73_0 (m+1) (j:Int) f f=L_73_0 m ((j+1:Nat):Int) f f
  rw[L_73_0,S_73_0,cond_dtt (by omega),gd_inB (by omega) (by omega),gd_inB (by omega) (by omega),cond_nff rfl,wi64 (by omega) (by omega)]
  push_cast
  rfl) (fun m=>by
  show L_73_0 (m+1) f.1.length f f=_
  rw[L_73_0,S_73_0,cond_dff (by omega)])
 have h2:=run0 (fun m i(_:Unit)=>L_73_1 m i f f) (n:=f.2.1.length) (fun _=>()) (r:=some .e1) (by omega) (fun m j hj=>by
  show L_73_1 (m+1) (j:Int) f f=L_73_1 m ((j+1:Nat):Int) f f
  rw[L_73_1,S_73_1,cond_dtt (by omega),gd_inB (by omega) (by omega),gd_inB (by omega) (by omega),cond_nff rfl,wi64 (by omega) (by omega)]
  push_cast
  rfl) (fun m=>by
  show L_73_1 (m+1) f.2.1.length f f=_
  rw[L_73_1,S_73_1,cond_dff (by omega)])
 have e1:L_73_0 4611686018427387904 0 f f=_:=h1
 have e2:L_73_1 4611686018427387904 0 f f=_:=h2
 rw[e1]
 simp only[B_73_0]
 rw[e2]
 rfl
theorem bsame_pv(b:BayT)(h:Sp.fv b.1=true):p_28 b b=true/\v_28 b b=(true,()):=by
 refine pv_28 b b ?_
 have s:=same_pv b.1 h
 unfold F_28
 rw[s.1,s.2,gd_tt,show Ty.beq (.arr 32 (.int .u8)) b.2.1 b.2.1=true from beq_self_eq_true b.2.1]
 rfl
abbrev OutT:=DlT×BayT×PwT×Int×Unit
namespace Sp
noncomputable def zD:DlT:=(0,0,0,(0,0,replicate 32 0,(0,[],[],()),()),())
end Sp
namespace Sp
noncomputable def zB:BayT:=(([],[],0,()),replicate 32 0,())
end Sp
namespace Sp
noncomputable def fl(e:Int):OutT:=(zD,zB,(0,0,()),e,())
end Sp
theorem fail_pv(e:Int):p_42 e=true/\v_42 e=Sp.fl e:=pv_42 e rfl
theorem shp_len{s:SigT}(h:Sp.shp s=true):s.2.1.length=67/\s.2.2.1.length=2:=by
 simp only[Sp.shp,Bool.and_eq_true,decide_eq_true_eq,beq_iff_eq]at h
 omega
theorem PG.init{b:BayT}{p:PwT}(h:Sp.bvb b=true)(hw:W32f b.1)(h0:0<=p.1)(h1:p.1<=1099511627776):PG b.1 (b.1,p,0,()) :=
 ⟨(bay_len h).2.2.2.2.2,rfl,hw,rfl,h0,h1,.inl rfl⟩
theorem great_pv(b:BayT):p_8 b=true/\v_8 b=(decide ((b.1.2.1.length:Int)>20)&&decide ((b.1.2.1.length:Int)<=64),()):=by
 refine pv_8 b ?_
 unfold F_8
 cases decide ((b.1.2.1.length:Int)>20)<;>rfl
theorem zsame_pv:p_28 Sp.zB Sp.zB=true/\v_28 Sp.zB Sp.zB=(true,()):=pv_28 _ _ (by kernel_rfl)
set_option maxRecDepth 100000
set_option maxHeartbeats 4000000
namespace Sp
noncomputable def fit(d:DlT)(b:BayT)(p:PwT):Bool:=vdl d&&(bvb b&&(pok p&&(d.1==0||rgt d.2.2.2.1 ((hlf b:Int)-564))))
end Sp
theorem fits_pv{d:DlT}(hh:H32 d.2.2.2.1)(b:BayT)(p:PwT):p_64 d b p=true/\v_64 d b p=((if Sp.fit d b p=true then 0 else 1),()):=by
 refine pv_64 d b p ?_
 have v:=pv_37 _ (valid_ok hh)
 have z:=pv_43 _ (zero_ok d)
 unfold F_64 Sp.fit
 rw[v.1,v.2,gd_tt,(val_pv b).1,(val_pv b).2,gd_tt,(upow_pv p).1,(upow_pv p).2,gd_tt,z.1,z.2,gd_tt]
 dsimp only
 cases hv:Sp.vdl d
 ·rfl
 cases hb:Sp.bvb b
 ·rfl
 cases hp:Sp.pok p
 ·rfl
 rw[zdl_vdl hv]
 have s:=size_pv hb
 have l:=bay_len hb
 rw[s.1,s.2,gd_tt]
 dsimp only
 rw[wi64 (by omega) (by omega)]
 have r:=pv_40 _ _ (right_ok hh ((Sp.hlf b:Int)-564))
 rw[r.1,r.2,gd_tt]
 dsimp only
 cases d.1==0<;>cases Sp.rgt d.2.2.2.1 ((Sp.hlf b:Int)-564)<;>rfl
theorem wl1{f0:FlT}(a:Nat)(l:List Int)(hl:a+l.length<=f0.1.length)(hf:f0.1.length<=100000)(key:List Int×Unit)(p4:DlT)(p5:BayT)(p6:PwT)(p7 p8 p9 p10 p11:Int)(p12:List Int)(p13:Int)(p14:Int×Unit)(p15:List Int×Unit)(p16:PwT)(p18 p19:List Int) :
 ∀(d m j:Nat)(s:RsT),PG f0 s->j+d=l.length->d<m->L_68_50_0_1 m a l l.length j p4 p5 p6 p7 p8 p9 p10 p11 p12 p13 p14 p15 p16 ((s.1,key),s.2.1,s.2.2.1,()) p18 p19=some (.e0 p4 p5 p6 p7 p8 p9 p10 p11 p12 p13 p14 p15 p16 (((Sp.plo (l.drop j) (a+j) s).1,key),(Sp.plo (l.drop j) (a+j) s).2.1,(Sp.plo (l.drop j) (a+j) s).2.2.1,()) p18 p19)
 |0,m+1,j,s,_,hj,_=>by
  rw[L_68_50_0_1,S_68_50_0_1,cond_dff (by omega),List.drop_of_length_le (by omega)]
  rfl
 |d+1,m+1,j,s,h,hj,hm=>by
  have hlen:=h.l
  rw[L_68_50_0_1,S_68_50_0_1,cond_dtt (by omega),gd_inB (by omega) (by omega),drop_c (by omega),Sp.plo]
  dsimp only
  by_cases e:s.2.2.1=0
  ·have pv:=prg_pv (k:=a+j) (w:=l.getD j 0) h.v h.p0 h.p1 (by omega)
   rw[cond_ett e,if_pos e,wi64 (n:=(a:Int)+j) (by omega) (by omega),Int.toNat_natCast,show(a:Int)+(j:Int)=((a+j:Nat):Int) by push_cast;rfl,pv.1,pv.2,gd_tt,wi64 (by omega) (by omega),show(j:Int)+1=((j+1:Nat):Int) by push_cast;rfl]
   exact wl1 a l hl hf key p4 p5 p6 p7 p8 p9 p10 p11 p12 p13 p14 p15 p16 p18 p19 d m (j+1) _ (prg_g h (a+j) _) (by omega) (by omega)
  ·rw[cond_eff e,if_neg e,wi64 (by omega) (by omega),show(j:Int)+1=((j+1:Nat):Int) by push_cast;rfl]
   have:=wl1 a l hl hf key p4 p5 p6 p7 p8 p9 p10 p11 p12 p13 p14 p15 p16 p18 p19 d m (j+1) s h (by omega) (by omega)
   rw[plo_stop _ _ e]at this
   exact this
theorem wl0{f0:FlT}(a:Nat)(l:List Int)(hl:a+l.length<=f0.1.length)(hf:f0.1.length<=100000)(h0:0<l.length)(key:List Int×Unit)(p4:DlT)(p5:BayT)(p6:PwT)(p7 p8 p9 p10 p11:Int)(p12:List Int)(p13:Int)(p14:Int×Unit)(p15:List Int×Unit)(p16 p:PwT)(h:PG f0 (f0,p,0,())) :
 L_68_50_0_0 4611686018427387904 a l l.length 0 p4 p5 p6 p7 p8 p9 p10 p11 p12 p13 p14 p15 p16 (f0.2.2.1,()) key (p,0,()) f0.1 f0.2.1=some (.e1 p4 p5 p6 p7 p8 p9 p10 p11 p12 p13 p14 p15 p16 (((Sp.plo l a (f0,p,0,())).1,key),(Sp.plo l a (f0,p,0,())).2.1,(Sp.plo l a (f0,p,0,())).2.2.1,()) f0.1 f0.2.1):=by
 show L_68_50_0_0 (4611686018427387903+1) a l l.length 0 p4 p5 p6 p7 p8 p9 p10 p11 p12 p13 p14 p15 p16 (f0.2.2.1,()) key (p,0,()) f0.1 f0.2.1=_
 have pv:=prg_pv (k:=a) (w:=l.getD 0 0) h.v h.p0 h.p1 (show a<f0.1.length by omega)
 have e:l=l.getD 0 0::l.drop 1:=by
  have:=drop_c (l:=l) (j:=0) h0
  rw[List.drop_zero]at this
  exact this
 have t:=wl1 a l hl hf key p4 p5 p6 p7 p8 p9 p10 p11 p12 p13 p14 p15 p16 f0.1 f0.2.1 (l.length-1) 4611686018427387903 1 _ (prg_g h a (l.getD 0 0)) (by omega) (by omega)
 have e2:Sp.plo l a (f0,p,0,())=Sp.plo (l.drop 1) (a+1) (Sp.prg f0 a (l.getD 0 0) p):=by
  conv=>lhs;rw[e]
  rw[Sp.plo,if_pos rfl]
 rw[e2]
 rw[L_68_50_0_0,S_68_50_0_0,cond_dtt (by omega),gd_inB (by omega) (by omega)]
 dsimp only
 rw[cond_ett rfl,Int.add_zero,wi64 (n:=(a:Int)) (by omega) (by omega),show toNat 0=0 from rfl]
 rw[show p_93 (f0.1,f0.2.1,f0.2.2.1,()) a (l.getD 0 0) p=true from pv.1,show v_93 (f0.1,f0.2.1,f0.2.2.1,()) a (l.getD 0 0) p=Sp.prg f0 a (l.getD 0 0) p from pv.2,gd_tt,show wrap .i64 (0+1)=((1:Nat):Int)from by decide]
 refine(congrArg (fun z=>B_68_50_0_1 z _) t).trans ?_
 rfl
namespace Sp
noncomputable def part(d:DlT):Int:=if d.2.2.2.1.2.1-d.2.2.1<32 then d.2.2.2.1.2.1-d.2.2.1 else 32
end Sp
namespace Sp
noncomputable def nxt(d:DlT)(n:Int):DlT:=(if d.2.2.1+n=d.2.2.2.1.2.1 then 2 else d.1,d.2.1,d.2.2.1+n,d.2.2.2)
end Sp
namespace Sp
noncomputable def adr(d:DlT)(b:BayT):Nat:=d.2.1.toNat*hlf b+564+d.2.2.1.toNat
end Sp
namespace Sp
noncomputable def blr(d:DlT)(b:BayT)(l:List Int)(p:PwT):RsT:=plo l (adr d b) (b.1,p,0,())
end Sp
namespace Sp
noncomputable def blo(d:DlT)(b:BayT)(l:List Int)(p:PwT):OutT:=(if(blr d b l p).2.2.1=0 then nxt d l.length else zD,((blr d b l p).1,b.2),(blr d b l p).2.1,(blr d b l p).2.2.1,())
end Sp
namespace Sp
noncomputable def ble(d:DlT)(b:BayT)(n:Int)(l:List Int)(p:PwT):Int:=if fit d b p=true then(if d.1=1 then(if n=Int.tdiv d.2.2.1 32 then(if(l.length:Int)=part d then 0 else 3)else 15)else 6)else 1
end Sp
namespace Sp
noncomputable def ublk(d:DlT)(b:BayT)(n:Int)(l:List Int)(p:PwT):OutT:=if ble d b n l p=0 then blo d b l p else fl (ble d b n l p)
end Sp
theorem fit_d{d:DlT}{b:BayT}{p:PwT}(h:Sp.fit d b p=true)(h1:d.1=1):Sp.bvb b=true/\0<=p.1/\p.1<=1099511627776/\(d.2.1=0\/d.2.1=1)/\0<=d.2.2.1/\d.2.2.1<d.2.2.2.1.2.1/\d.2.2.2.1.2.1<=(Sp.hlf b:Int)-564/\d.2.2.2.1.2.1<=1484/\Sp.shp d.2.2.2.1.2.2.2.1=true:=by
 unfold Sp.fit Sp.vdl Sp.vst Sp.pok Sp.rgt at h
 have hz:Sp.zdl d=false:=by unfold Sp.zdl;rw[h1];rfl
 rw[hz,h1]at h
 simp at h
 obtain⟨⟨h2,⟨h3,h4,h5,h6,h7⟩,h8,h9,h10⟩,h11,⟨h12,h13⟩,h14,h15,h16,h17,h18⟩:=h
 exact⟨h11,h12,h13,h2,h8,h9,h17,h6,h7⟩
theorem part_b{d:DlT}(h0:0<=d.2.2.1)(h1:d.2.2.1<d.2.2.2.1.2.1):1<=Sp.part d/\Sp.part d<=32/\d.2.2.1+Sp.part d<=d.2.2.2.1.2.1:=by
 unfold Sp.part
 split<;>omega
theorem hlf_mul(d:DlT)(b:BayT)(h:d.2.1=0\/d.2.1=1):d.2.1*(Sp.hlf b:Int)=((d.2.1.toNat*Sp.hlf b:Nat):Int):=by
 rcases h with h|h<;>rw[h]<;>simp
theorem adr_in{d:DlT}{b:BayT}{p:PwT}{l:List Int}(h:Sp.fit d b p=true)(h1:d.1=1)(hl:(l.length:Int)=Sp.part d):Sp.adr d b+l.length<=b.1.1.length/\b.1.1.length<=100000/\0<l.length/\l.length<=32/\(d.2.1.toNat=0\/d.2.1.toNat=1):=by
 obtain⟨hb,_,_,hk,a0,a1,a2,a3,_⟩:=fit_d h h1
 have hp:=part_b a0 a1
 have bl:=bay_len hb
 unfold Sp.adr
 rcases hk with e|e<;>rw[e]<;>refine⟨?_,by omega,by omega,by omega,?_⟩<;>simp<;>omega
theorem blr_g{d:DlT}{b:BayT}{p:PwT}(l:List Int)(h:Sp.fit d b p=true)(h1:d.1=1)(hw:W32f b.1):PG b.1 (Sp.blr d b l p):=by
 obtain⟨hb,p0,p1,_⟩:=fit_d h h1
 exact plo_g l _ (PG.init hb hw p0 p1)
theorem blk_pv{d:DlT}{b:BayT}{n:Int}{l:List Int}{p:PwT}(hh:H32 d.2.2.2.1)(hw:W32f b.1):p_68 d b n l p=true/\v_68 d b n l p=Sp.ublk d b n l p:=by
 refine pv_68 d b n l p ?_
 have f:=fits_pv hh b p
 unfold F_68 Sp.ublk Sp.ble
 rw[f.1,f.2,gd_tt]
 dsimp only
 cases hf:Sp.fit d b p
 ·rw[if_neg Bool.false_ne_true,if_neg Bool.false_ne_true,cond_ntt (by decide),(fail_pv 1).1,(fail_pv 1).2,gd_tt,if_neg (show ¬(1:Int)=0 by decide)]
  try rfl
 rw[if_pos rfl,if_pos rfl,cond_nff rfl]
 by_cases h1:d.1=1
 rotate_left
 ·rw[cond_ntt h1,(fail_pv 6).1,(fail_pv 6).2,gd_tt,if_neg h1,if_neg (show ¬(6:Int)=0 by decide)]
  try rfl
 obtain⟨hb,p0,p1,hk,a0,a1,a2,a3,_⟩:=fit_d hf h1
 have bl:=bay_len hb
 rw[cond_nff h1,if_pos h1,Int.tdiv_eq_ediv_of_nonneg a0,wi64 (n:=d.2.2.1/32) (by omega) (by omega)]
 by_cases h2:n=d.2.2.1/32
 rotate_left
 ·rw[cond_ntt h2,(fail_pv 15).1,(fail_pv 15).2,gd_tt,if_neg h2,if_neg (show ¬(15:Int)=0 by decide)]
  try rfl
 rw[cond_nff h2,if_pos h2,wi64 (n:=d.2.2.2.1.2.1-d.2.2.1) (by omega) (by omega)]
 rw[show(if d.2.2.2.1.2.1-d.2.2.1<32 then d.2.2.2.1.2.1-d.2.2.1 else 32)=Sp.part d from rfl]
 by_cases h3:(l.length:Int)=Sp.part d
 rotate_left
 ·rw[cond_ntt h3,(fail_pv 3).1,(fail_pv 3).2,gd_tt,if_neg h3,if_neg (show ¬(3:Int)=0 by decide)]
  try rfl
 have ad:=adr_in hf h1 h3
 rw[cond_nff h3,if_pos h3,if_pos rfl,gd_room (by omega) (by omega),gd_room (by omega) (by omega),(size_pv hb).1,(size_pv hb).2,gd_tt]
 dsimp only
 have ea:wrap .i64 (wrap .i64 (wrap .i64 (d.2.1*(Sp.hlf b:Int))+564)+d.2.2.1)=(Sp.adr d b:Int):=by
  rw[hlf_mul d b hk]
  have:d.2.1.toNat*Sp.hlf b<=10000:=by
   rcases ad.2.2.2.2 with e|e<;>rw[e]<;>omega
  rw[wi64 (n:=((d.2.1.toNat*Sp.hlf b:Nat):Int)) (by omega) (by omega),wi64 (n:=((d.2.1.toNat*Sp.hlf b:Nat):Int)+564) (by omega) (by omega),wi64 (by omega) (by omega)]
  unfold Sp.adr
  omega
 rw[ea]
 have w:=wl0 (f0:=b.1) (Sp.adr d b) l ad.1 ad.2.1 ad.2.2.1 b.2 d b p 0 0 0 0 0 (replicate 32 0) 0 (0,()) (replicate 32 0,()) (0,0,()) p (PG.init hb hw p0 p1)
 refine(congrArg (fun z=>B_68_50_0_0 z _ _) w).trans ?_
 unfold B_68_50_0_0
 dsimp only
 rw[show Sp.plo l (Sp.adr d b) (b.1,p,0,())=Sp.blr d b l p from rfl]
 have hg:=blr_g l hf h1 hw
 rw[wi64 (n:=d.2.2.1+(l.length:Int)) (by omega) (by omega)]
 have J:∀(q:DlT)(a1:Int)(a2 a3 a4 a5:Int)(a6:List Int)(a7:Int)(a8 a9:List (List Int))(a10:Int×Unit)(a11:List Int×Unit)(a12 a13:List Int)(a14:PwT),B_68_0_1 (J_68_0_1 q a1 a2 a3 a4 a5 a6 a7 a8 a9 a10 a11 a12 a13 a14 (((Sp.blr d b l p).1,b.2),(Sp.blr d b l p).2.1,(Sp.blr d b l p).2.2.1,()))
  (fun y z=>some (y,z.1,z.2.1,(0:Int),())) (fun z=>some (((0:Int),(0:Int),(0:Int),((0:Int),(0:Int),replicate 32 (0:Int),((0:Int),([]:List (List Int)),([]:List (List Int)),()),()),()),z.1,z.2.1,(18:Int),())) (fun z=>some ((v_42 z.2.2.1).1,(v_42 z.2.2.1).2.1,(v_42 z.2.2.1).2.2.1,(v_42 z.2.2.1).2.2.2.1,())) =
  some (if(Sp.blr d b l p).2.2.1=0 then q else Sp.zD,((Sp.blr d b l p).1,b.2),(Sp.blr d b l p).2.1,(Sp.blr d b l p).2.2.1,()):=by
  intro q a1 a2 a3 a4 a5 a6 a7 a8 a9 a10 a11 a12 a13 a14
  unfold J_68_0_1 S_68_0_1
  dsimp only
  rcases hg.e with e|e
  ·rw[cond_ett e,if_pos e,e]
   rfl
  ·rw[cond_eff (by rw[e];decide),cond_ett e,if_neg (by rw[e];decide),e]
   rfl
 unfold Sp.blo Sp.nxt
 by_cases h4:d.2.2.1+(l.length:Int)=d.2.2.2.1.2.1
 ·rw[cond_ett h4,if_pos h4]
  exact J _ _ _ _ _ _ _ _ _ _ _ _ _ _ _
 ·rw[cond_eff h4,if_neg h4]
  exact J _ _ _ _ _ _ _ _ _ _ _ _ _ _ _
set_option maxRecDepth 100000
set_option maxHeartbeats 4000000
theorem chk_ok{a:BayT}(h:BB a)(k:Nat)(hk:k<2)(hg:Sp.gdb a k=true):p_105 a k=true/\v_105 a k=(0,()):=by
 refine pv_105 a k ?_
 unfold F_105
 rw[(val_pv a).1,(val_pv a).2,gd_tt,(bank_pv k).1,(bank_pv k).2,gd_tt,(good_pv h.v h.b k hk).1,gd_tt,h.b,bank_nat k hk,show(v_123 a k).1=true from hg]
 rfl
abbrev bF:BayT:=(([],[],0,()),replicate 32 0,())
theorem hdr_no{a:BayT}(h:BB a){k:Int}(hk:(k==0||k==1)=false):p_82 a k=true/\v_82 a k=hdF:=by
 refine pv_82 a k ?_
 unfold F_82
 rw[(val_pv a).1,(val_pv a).2,gd_tt,(bank_pv k).1,(bank_pv k).2,gd_tt,h.b,hk]
 rfl
theorem hdr_p{a:BayT}(h:BB a)(k:Int):p_82 a k=true:=by
 rcases bank_cases k with⟨n,hn,rfl⟩|hk
 ·exact(hdr_pv h.v h.b n hn).1
 ·exact(hdr_no h hk).1
theorem chk_no{a:BayT}(h:BB a){k:Int}(hk:(k==0||k==1)=false):p_105 a k=true/\v_105 a k=(2,()):=by
 refine pv_105 a k ?_
 unfold F_105
 rw[(val_pv a).1,(val_pv a).2,gd_tt,(bank_pv k).1,(bank_pv k).2,gd_tt,h.b,hk]
 rfl
theorem chk_bad{a:BayT}(h:BB a)(k:Nat)(hk:k<2)(hg:Sp.gdb a k=false):p_105 a k=true/\v_105 a k=(14,()):=by
 refine pv_105 a k ?_
 unfold F_105
 rw[(val_pv a).1,(val_pv a).2,gd_tt,(bank_pv k).1,(bank_pv k).2,gd_tt,(good_pv h.v h.b k hk).1,gd_tt,h.b,bank_nat k hk,show(v_123 a k).1=false from hg]
 rfl
theorem j0_bad{a:BayT}(h:BB a)(k c:Int)(hc:c≠0)(p:PwT)(x4:Int×Unit)(x5:List Int×Unit)(x6 x7:List Int)(x8:PwT):J_65_0 k c a p x4 x5 x6 x7 x8=some (.e0 c):=by
 unfold J_65_0 S_65_0
 rw[hdr_p h,gd_tt,cond_eff hc]
 have:J_65_1 k c a p x4 x5 x6 x7 x8=some (.e0 c):=by
  unfold J_65_1 S_65_1
  rw[cond_ntt hc]
 rw[this]
 rfl
theorem j0_old{a:BayT}(h:BB a)(k:Nat)(hk:k<2)(hv:Sp.vr a k<Sp.lst a)(p:PwT)(x4:Int×Unit)(x5:List Int×Unit)(x6 x7:List Int)(x8:PwT):J_65_0 k 0 a p x4 x5 x6 x7 x8=some (.e0 20):=by
 unfold J_65_0 S_65_0
 rw[hdr_p h,gd_tt,cond_ett rfl,(lst_pv h).1,(lst_pv h).2,gd_tt]
 rw[show decide ((v_82 a k).1.1<(Sp.lst a,()).1)=true from decide_eq_true hv,cond_t]
 rfl
theorem off31{a:BayT}(h:BV a)(k:Nat)(hk:k<2):wrap .i64 (Int.tdiv (wrap .i64 ((k:Int)*(a.1.1.length:Int))) 2)=((k*Sp.hlf a:Nat):Int):=by
 have h1:=h.h1
 have l:=h.l
 have e:(k:Int)*(a.1.1.length:Int)=((2*(k*Sp.hlf a):Nat):Int):=by
  rw[l,<-Int.natCast_mul,Nat.mul_left_comm]
 have:k*Sp.hlf a<=1*Sp.hlf a:=Nat.mul_le_mul_right _ (by omega)
 rw[e,wi64 (n:=((2*(k*Sp.hlf a):Nat):Int)) (by omega) (by omega),Int.tdiv_eq_ediv_of_nonneg (by omega),show((2*(k*Sp.hlf a):Nat):Int)/2=((k*Sp.hlf a:Nat):Int) by omega,wi64 (by omega) (by omega)]
theorem j0_good{a:BayT}(h:BB a)(k:Nat)(hk:k<2)(hv:Sp.lst a<=Sp.vr a k)(p:PwT)(h0:0<=p.1)(h1:p.1<=1099511627776)(x4:Int×Unit)(x5:List Int×Unit)(x6 x7:List Int)(x8:PwT):J_65_0 k 0 a p x4 x5 x6 x7 x8=some (.e2 k a p):=by
 have hl:=off_lt h.v k hk
 have hh:=h.v.h0
 have q:=prg_pv (f:=a.1) (p:=p) (k:=k*Sp.hlf a) (w:=0) h.v.v h0 h1 (by omega)
 have h1':=h.v.h1
 have:k*Sp.hlf a<=1*Sp.hlf a:=Nat.mul_le_mul_right _ (by omega)
 unfold J_65_0 S_65_0
 rw[hdr_p h,gd_tt,cond_ett rfl,(lst_pv h).1,(lst_pv h).2,gd_tt]
 rw[show decide ((v_82 a k).1.1<(Sp.lst a,()).1)=false from decide_eq_false (by show ¬(Sp.vr a k<Sp.lst a);omega),cond_f]
 have:J_65_1 k 0 a p x4 x5 x6 x7 x8=some (.e2 k a p):=by
  unfold J_65_1 S_65_1
  rw[cond_nff rfl,off31 h.v k hk,Int.add_zero,wi64 (by omega) (by omega),q.1,q.2,gd_tt]
  unfold Sp.prg
  by_cases e:p.1=0
  ·rw[if_pos e];rfl
  rw[if_neg e]
  by_cases e:p.1=1
  ·rw[if_pos e];rfl
  rw[if_neg e];rfl
 rw[this]
 rfl
theorem act_good{a:BayT}(h:BB a)(k:Nat)(hk:k<2)(hg:Sp.gdb a k=true)(ha:Sp.acb a k=false)(hv:Sp.lst a<=Sp.vr a k)(p:PwT)(h0:0<=p.1)(h1:p.1<=1099511627776):F_65 a k p=some (((Sp.prg a.1 (k*Sp.hlf a) 0 p).1,a.2.1,()),(Sp.prg a.1 (k*Sp.hlf a) 0 p).2.1,(Sp.prg a.1 (k*Sp.hlf a) 0 p).2.2.1,()):=by
 have hl:=off_lt h.v k hk
 have hh:=h.v.h0
 have h1':=h.v.h1
 have:k*Sp.hlf a<=1*Sp.hlf a:=Nat.mul_le_mul_right _ (by omega)
 have q:=prg_pv (f:=a.1) (p:=p) (k:=k*Sp.hlf a) (w:=0) h.v.v h0 h1 (by omega)
 unfold F_65
 rw[cond_dff (by omega),full_pv.1,full_pv.2,gd_tt,cond_dff (by show ¬(p.1>1099511627776);omega),(chk_ok h k hk hg).1,(chk_ok h k hk hg).2,gd_tt,cond_ett rfl,(act_pv h.v k hk).1,gd_tt,show(v_106 a k).1=false from by rw[(act_pv h.v k hk).2];exact ha,cond_f]
 refine(congrArg (fun z=>B_65_0 z _ _ _) (j0_good h k hk hv p h0 h1 (0,()) (replicate 32 0,()) [] [] (0,0,()))).trans ?_
 unfold B_65_0
 dsimp only
 rw[off31 h.v k hk,Int.add_zero,wi64 (by omega) (by omega),q.2]
noncomputable def Cd(a:BayT)(k c:Int):Prop:=((k==0||k==1)=false/\c=2)\/∃n:Nat,n<2/\k=n/\((Sp.gdb a n=false/\c=14)\/(Sp.gdb a n=true/\Sp.acb a n=true/\c=6)\/(Sp.gdb a n=true/\Sp.acb a n=false/\Sp.vr a n<Sp.lst a/\c=20))
theorem act_any{a:BayT}(h:BB a)(k:Int):(∃c,c≠0/\Cd a k c/\∀p:PwT,0<=p.1->p.1<=1099511627776->F_65 a k p=some (bF,(0,0,()),c,()))\/(∃n:Nat,n<2/\k=n/\Sp.gdb a n=true/\Sp.acb a n=false/\Sp.lst a<=Sp.vr a n):=by
 have bad:∀c,c≠0->p_105 a k=true->v_105 a k=(c,())->∀p:PwT,0<=p.1->p.1<=1099511627776->F_65 a k p=some (bF,(0,0,()),c,()):=by
  intro c hc cp cv p h0 h1
  unfold F_65
  rw[cond_dff (by omega),full_pv.1,full_pv.2,gd_tt,cond_dff (by show ¬(p.1>1099511627776);omega),cp,cv,gd_tt,cond_eff hc]
  exact(congrArg (fun z=>B_65_0 z _ _ _) (j0_bad h k c hc p (0,()) (replicate 32 0,()) [] [] (0,0,()))).trans rfl
 rcases bank_cases k with⟨n,hn,rfl⟩|hk
 rotate_left
 ·exact .inl ⟨2,by decide,.inl ⟨hk,rfl⟩,bad 2 (by decide) (chk_no h hk).1 (chk_no h hk).2⟩
 cases hg:Sp.gdb a n
 ·exact .inl ⟨14,by decide,.inr ⟨n,hn,rfl,.inl ⟨hg,rfl⟩⟩,bad 14 (by decide) (chk_bad h n hn hg).1 (chk_bad h n hn hg).2⟩
 have pre:∀p:PwT,0<=p.1->p.1<=1099511627776->F_65 a n p=bif Sp.acb a n then B_65_0 (J_65_0 n 6 a p (0,()) (replicate 32 0,()) [] [] (0,0,())) (fun y=>some (bF,(0,0,()),y,())) (fun y26 y27 y28=>some (bF,(0,0,()),(v_93 y27.1 (wrap .i64 (wrap .i64 (Int.tdiv (wrap .i64 (y26*(y27.1.1.length:Int))) 2)+0)) 0 y28).2.2.1,())) (fun y29 y30 y31=>some (((v_93 y30.1 (wrap .i64 (wrap .i64 (Int.tdiv (wrap .i64 (y29*(y30.1.1.length:Int))) 2)+0)) 0 y31).1,y30.2.1,()),(v_93 y30.1 (wrap .i64 (wrap .i64 (Int.tdiv (wrap .i64 (y29*(y30.1.1.length:Int))) 2)+0)) 0 y31).2.1,(v_93 y30.1 (wrap .i64 (wrap .i64 (Int.tdiv (wrap .i64 (y29*(y30.1.1.length:Int))) 2)+0)) 0 y31).2.2.1,()))else B_65_0 (J_65_0 n 0 a p (0,()) (replicate 32 0,()) [] [] (0,0,())) (fun y=>some (bF,(0,0,()),y,())) (fun y26 y27 y28=>some (bF,(0,0,()),(v_93 y27.1 (wrap .i64 (wrap .i64 (Int.tdiv (wrap .i64 (y26*(y27.1.1.length:Int))) 2)+0)) 0 y28).2.2.1,())) (fun y29 y30 y31=>some (((v_93 y30.1 (wrap .i64 (wrap .i64 (Int.tdiv (wrap .i64 (y29*(y30.1.1.length:Int))) 2)+0)) 0 y31).1,y30.2.1,()),(v_93 y30.1 (wrap .i64 (wrap .i64 (Int.tdiv (wrap .i64 (y29*(y30.1.1.length:Int))) 2)+0)) 0 y31).2.1,(v_93 y30.1 (wrap .i64 (wrap .i64 (Int.tdiv (wrap .i64 (y29*(y30.1.1.length:Int))) 2)+0)) 0 y31).2.2.1,())):=by
  intro p h0 h1
  unfold F_65
  rw[cond_dff (by omega),full_pv.1,full_pv.2,gd_tt,cond_dff (by show ¬(p.1>1099511627776);omega),(chk_ok h n hn hg).1,(chk_ok h n hn hg).2,gd_tt,cond_ett rfl,(act_pv h.v n hn).1,(act_pv h.v n hn).2,gd_tt]
  rfl
 cases ha:Sp.acb a n
 rotate_left
 ·refine .inl ⟨6,by decide,.inr ⟨n,hn,rfl,.inr (.inl ⟨hg,ha,rfl⟩)⟩,fun p h0 h1=> ?_⟩
  rw[pre p h0 h1,ha,cond_t,j0_bad h n 6 (by decide) p]
  rfl
 by_cases hv:Sp.vr a n<Sp.lst a
 ·refine .inl ⟨20,by decide,.inr ⟨n,hn,rfl,.inr (.inr ⟨hg,ha,hv,rfl⟩)⟩,fun p h0 h1=> ?_⟩
  rw[pre p h0 h1,ha,cond_f,j0_old h n hn hv p]
  rfl
 ·exact .inr ⟨n,hn,rfl,hg,ha,by omega⟩
namespace Sp
noncomputable def hdp(h:HdrT):List Int:=[wrap .u32 h.1,wrap .u32 h.2.1]
noncomputable def hdw(h:HdrT):List Int:=hdp h++hws h.2.2.1 8++wordsF h.2.2.2.1
end Sp
theorem chunk_e(j:Nat)(hj:j<8):wrap .i64 (((4*j:Nat):Int)+if((32-toNat ((4*j:Nat):Int):Nat):Int)<4 then((32-toNat ((4*j:Nat):Int):Nat):Int)else 4)=((4*j+4:Nat):Int):=by
 rw[Int.toNat_natCast,if_neg (by omega),wi64 (by omega) (by omega)]
 push_cast
 rfl
theorem hd_n(h:HdrT):∀(d m j:Nat),j+d=8->d<m->L_51_129_0_1 m ((4*j:Nat):Int) h 4 (Sp.hdp h++Sp.hws h.2.2.1 j)=some (.e0 h 4 (Sp.hdp h++Sp.hws h.2.2.1 8))
 |0,m+1,j,hj,_=>by
  have:j=8:=by omega
  subst this
  rw[L_51_129_0_1,S_51_129_0_1,cond_dff (by omega)]
 |d+1,m+1,j,hj,hm=>by
  have hl:(Sp.hdp h++Sp.hws h.2.2.1 j).length=2+j:=by rw[List.length_append,hws_len];rfl
  rw[L_51_129_0_1,S_51_129_0_1,cond_dtt (by omega),gd_sl3 (by omega) (by omega) (by omega),chunk_e j (by omega),gd_and,gd_sl3 (by omega) (by omega) (by omega),gd_dec (by omega),Int.toNat_natCast,Int.toNat_natCast,gd_inB (by omega) (by omega),gd_and,gd_dec (by omega),gd_tt,gd_inB (by omega) (by omega),gd_and,gd_dec (by omega),gd_tt,gd_inB (by omega) (by omega),gd_and,gd_dec (by omega),gd_tt,gd_inB (by omega) (by omega),gd_and,gd_dec (by omega),gd_tt,gd_room (by omega) (by omega),wi64 (n:=((4*j:Nat):Int)+4) (by omega) (by omega),show((4*j:Nat):Int)+4=((4*(j+1):Nat):Int) by omega]
  have:=hd_n h d m (j+1) (by omega) (by omega)
  rw[hws_succ,<-List.append_assoc]at this
  simp only[Nat.zero_add,Nat.add_zero]
  exact this
theorem hd_f(h:HdrT):L_51_129_0_0 4611686018427387904 0 h (Sp.hdp h) 4=some (.e1 h 4 (Sp.hdp h++Sp.hws h.2.2.1 8)):=by
 show L_51_129_0_0 (4611686018427387903+1) ((4*0:Nat):Int) h (Sp.hdp h) 4=_
 have hl:(Sp.hdp h).length=2:=rfl
 rw[L_51_129_0_0,S_51_129_0_0,cond_dtt (by omega),gd_sl3 (by omega) (by omega) (by omega),chunk_e 0 (by omega),gd_and,gd_sl3 (by omega) (by omega) (by omega),gd_dec (by omega),Int.toNat_natCast,Int.toNat_natCast,gd_inB (by omega) (by omega),gd_and,gd_dec (by omega),gd_tt,gd_inB (by omega) (by omega),gd_and,gd_dec (by omega),gd_tt,gd_inB (by omega) (by omega),gd_and,gd_dec (by omega),gd_tt,gd_inB (by omega) (by omega),gd_and,gd_dec (by omega),gd_tt,gd_room (by omega) (by omega),wi64 (n:=((4*0:Nat):Int)+4) (by omega) (by omega),show((4*0:Nat):Int)+4=((4*1:Nat):Int) by omega]
 have:=hd_n h 7 4611686018427387903 1 (by omega) (by omega)
 have e1:Sp.hws h.2.2.1 1=[Sp.hwd h.2.2.1 0]:=rfl
 rw[e1]at this
 simp only[Nat.zero_add,Nat.add_zero]
 refine(congrArg (fun z=>B_51_129_0_1 z _) this).trans ?_
 rfl
theorem wordsF_len{s:SigT}(h:Sp.shp s=true):(Sp.wordsF s).length=553:=by
 obtain⟨h3,h4⟩:s.2.1.length=67/\s.2.2.1.length=2:=by
  simp only[Sp.shp,Bool.and_eq_true,decide_eq_true_eq,beq_iff_eq]at h
  omega
 unfold Sp.wordsF
 rw[List.length_append,List.length_append,cws_len,cws_len,h3,h4]
 rfl
theorem hdw_len{h:HdrT}(hs:Sp.shp h.2.2.2.1=true):(Sp.hdw h).length=563:=by
 unfold Sp.hdw
 rw[List.length_append,List.length_append,hws_len,wordsF_len hs]
 rfl
theorem hdw_pv{h:HdrT}(hh:H32 h)(hs:Sp.shp h.2.2.2.1=true):p_51 h=true/\v_51 h=(Sp.hdw h,()):=by
 refine pv_51 h ?_
 have w:=pv_81 _ (swords_ok h.2.2.2.1 hh.c hh.p)
 unfold F_51
 refine(congrArg (fun z=>B_51_129_0_0 z _ _) (hd_f h)).trans ?_
 unfold B_51_129_0_0
 dsimp only
 rw[w.1,w.2,gd_tt,if_pos hs]
 dsimp only
 have l1:(Sp.hdp h++Sp.hws h.2.2.1 8).length=10:=by rw[List.length_append,hws_len];rfl
 have l2:=wordsF_len hs
 rw[gd_room (by omega) (by omega)]
 rfl
theorem fnd_has(l:List Int)(x:Int):(match fnd (fun j=>x==l.getD j 0) l.length 0 with|some k=>decide ((k:Int)>=0)|none=>decide ((-1:Int)>=0))=l.contains x:=by
 cases hf:fnd (fun j=>x==l.getD j 0) l.length 0 with
 |none=>
  have:=fnd_none.1 hf
  show false=_
  cases hc:l.contains x
  ·rfl
  ·have hm:x∈l:=by simpa using hc
   obtain⟨i,hi,e⟩:=List.mem_iff_getElem.1 hm
   have h2:=this i (by omega) (by omega)
   rw[getD_at 0 hi,e]at h2
   simp at h2
 |some k=>
  have hk:=fnd_some hf
  show decide ((k:Int)>=0)=_
  rw[decide_eq_true (by omega)]
  have h2:(x==l.getD k 0)=true:=hk.2.2.1
  have h3:k<l.length:=by have:=hk.2.1;omega
  rw[getD_at 0 h3]at h2
  have:x∈l:=by rw[beq_iff_eq.1 h2];exact List.getElem_mem h3
  exact(by simpa using this:l.contains x=true).symm
theorem cont_pv(l:List Int)(x:Int)(hl:l.length<1000000):p_47 l x=true/\v_47 l x=(l.contains x,()):=by
 have i:∃k:Int,(p_89 l x=true/\v_89 l x=(k,()))/\decide (k>=0)=l.contains x:=by
  have hf:=find0 (fun m i=>L_89_0 m l x l.length i) (n:=l.length) (fun j=>x==l.getD j 0) (ex:=fun j=>some (.e0 (j:Int))) (e1:=some .e1) (by omega) (fun m j hj=>by
   show L_89_0 (m+1) l x l.length (j:Int)=bif x==l.getD j 0 then some (.e0 (j:Int))else L_89_0 m l x l.length ((j+1:Nat):Int)
   rw[L_89_0,S_89_0,cond_dtt (by omega),gd_inB (by omega) (by omega),Int.toNat_natCast,wi64 (by omega) (by omega)]
   push_cast
   rfl) (fun m=>by
   show L_89_0 (m+1) l x l.length (l.length:Int)=_
   rw[L_89_0,S_89_0,cond_dff (by omega)])
  have e:=fnd_has l x
  cases hq:fnd (fun j=>x==l.getD j 0) l.length 0 with
  |none=>
   rw[hq]at hf e
   refine⟨-1,pv_89 l x ?_,e⟩
   unfold F_89
   exact(congrArg (fun z=>B_89_0 z _ _) hf).trans rfl
  |some k=>
   rw[hq]at hf e
   refine⟨k,pv_89 l x ?_,e⟩
   unfold F_89
   exact(congrArg (fun z=>B_89_0 z _ _) hf).trans rfl
 obtain⟨k,⟨h1,h2⟩,h3⟩:=i
 refine pv_47 l x ?_
 unfold F_47
 rw[h1,h2,gd_tt,<-h3]
set_option maxRecDepth 100000
set_option maxHeartbeats 4000000
namespace Sp
noncomputable def elo:Nat->Nat->RsT->RsT
 |0,_,s=>s
 |n+1,k,s=>if s.2.2.1=0 then elo n (k+1) (ers s.1 k s.2.1)else s
end Sp
theorem elo_stop(n k:Nat){s:RsT}(h:s.2.2.1≠0):Sp.elo n k s=s:=by
 cases n with
 |zero=>rfl
 |succ n=>rw[Sp.elo,if_neg h]
theorem W32f_orW{f:FlT}(h:W32f f)(o:Nat)(b:Int)(n:Nat)(r:List Int×Int×Unit):W32f (Sp.orW f.1 o b n,r):=by
 intro x hx
 obtain⟨i,hi,e⟩:=List.mem_iff_getElem.1 hx
 have hl:i<f.1.length:=by rw[show(Sp.orW f.1 o b n,r).1=Sp.orW f.1 o b n from rfl,orW_len]at hi;exact hi
 have g:=orW_get f.1 o b n i hl
 rw[getD_at 0 (by rw[orW_len];exact hl)]at g
 have e:(Sp.orW f.1 o b n)[i]'(by rw[orW_len];exact hl)=x:=e
 rw[e]at g
 rw[g]
 split
 ·exact bv_rng _
 ·exact h.at i
structure EG(f0:FlT)(k:Nat)(s:RsT):Prop where
 v:Sp.fv s.1=true
 l:s.1.1.length=f0.1.length
 w:W32f s.1
 n:s.1.2.1.length=f0.2.1.length
 r:s.1.2.2=f0.2.2
 p0:0<=s.2.1.1
 p1:s.2.1.1<=1099511627776
 e:s.2.2.1=0\/s.2.2.1=18
 q:∀i,k<=i->s.1.2.1.getD i 0=f0.2.1.getD i 0
theorem fv_ew{f:FlT}{s:Nat}(b:Int)(h:Sp.fv f=true)(h1:f.2.1.getD s 0≠f.2.2.1)(h2:s<f.2.1.length):Sp.fv (Sp.ew f s b)=true:=by
 have hv:=fv_iff.1 h
 unfold Sp.ew
 refine fv_iff.2 ⟨?_,?_,?_,hv.2.2.2.1,hv.2.2.2.2.1,fun j hj=> ?_⟩
 ·simp only[List.length_set];omega
 ·simp only[List.length_set];omega
 ·simp only[List.length_set,orW_len];omega
 ·simp only[List.length_set]at hj
  have a:=hv.2.2.2.2.2 j hj
  have c:=hv.2.2.2.2.2 s h2
  dsimp only
  rw[getD_set _ _ _ _ _ h2]
  split
  ·omega
  ·exact a
theorem ers_g{f0:FlT}{k:Nat}{s:RsT}(h:EG f0 k s)(hk:k<f0.2.1.length)(hw:f0.2.1.getD k 0≠f0.2.2.1):EG f0 (k+1) (Sp.ers s.1 k s.2.1):=by
 have hl:s.1.2.2.1=f0.2.2.1:=by rw[h.r]
 have hn:s.1.2.1.getD k 0≠s.1.2.2.1:=by rw[h.q k (Nat.le_refl _),hl];exact hw
 have p0:=h.p0
 have p1:=h.p1
 have hkl:k<s.1.2.1.length:=by rw[h.n];exact hk
 have he:∀b,Sp.fv (Sp.ew s.1 k b)=true:=fun b=>fv_ew b h.v hn hkl
 have hl1:∀b,(Sp.ew s.1 k b).1.length=f0.1.length:=fun b=>by unfold Sp.ew;dsimp only;rw[orW_len];exact h.l
 have hw1:∀b,W32f (Sp.ew s.1 k b):=fun b=>W32f_orW h.w _ _ _ _
 have hn1:∀b,(Sp.ew s.1 k b).2.1.length=f0.2.1.length:=fun b=>by unfold Sp.ew;dsimp only;rw[List.length_set];exact h.n
 have hr1:∀b,(Sp.ew s.1 k b).2.2=f0.2.2:=fun b=>by rw[<-h.r];rfl
 have hq1:∀b i,k+1<=i->(Sp.ew s.1 k b).2.1.getD i 0=f0.2.1.getD i 0:=fun b i hi=>by
  unfold Sp.ew;dsimp only
  rw[<-h.q i (by omega)]
  simp[List.getD_eq_getElem?_getD,List.getElem?_set_ne (show k≠i by omega)]
 unfold Sp.ers
 rw[if_neg hn]
 split
 ·exact⟨h.v,h.l,h.w,h.n,h.r,p0,p1,.inr rfl,fun i hi=>h.q i (by omega)⟩
 split
 ·exact⟨he _,hl1 _,hw1 _,hn1 _,hr1 _,Int.le_refl _,(by show(0:Int)<=_;decide),.inr rfl,hq1 _⟩
 ·exact⟨he _,hl1 _,hw1 _,hn1 _,hr1 _,(by show 0<=s.2.1.1-1;omega),(by show s.2.1.1-1<=_;omega),.inl rfl,hq1 _⟩
theorem EG.up{f0:FlT}{k j:Nat}{s:RsT}(h:EG f0 k s)(hj:k<=j):EG f0 j s:=⟨h.v,h.l,h.w,h.n,h.r,h.p0,h.p1,h.e,fun i hi=>h.q i (by omega)⟩
theorem elo_g{f0:FlT}:∀(n k:Nat){s:RsT},EG f0 k s->k+n<=f0.2.1.length->(∀i,k<=i->i<k+n->f0.2.1.getD i 0≠f0.2.2.1)->EG f0 (k+n) (Sp.elo n k s)
 |0,_,_,h,_,_=>h
 |n+1,k,s,h,hl,hw=>by
  rw[Sp.elo]
  split
  ·have:=elo_g n (k+1) (ers_g h (by omega) (hw k (by omega) (by omega))) (by omega) (fun i h1 h2=>hw i (by omega) (by omega))
   rw[show k+(n+1)=k+1+n by omega]
   exact this
  ·exact h.up (by omega)
theorem EG.init{f:FlT}{p:PwT}{k:Nat}(h:Sp.fv f=true)(hw:W32f f)(h0:0<=p.1)(h1:p.1<=1099511627776):EG f k (f,p,0,()) :=
 ⟨h,rfl,hw,rfl,rfl,h0,h1,.inl rfl,fun _ _=>rfl⟩
theorem EG.pg{f0:FlT}{k:Nat}{s:RsT}(h:EG f0 k s):PG s.1 s:=⟨h.v,rfl,h.w,rfl,h.p0,h.p1,h.e⟩
theorem en1{f0:FlT}(k n:Nat)(hk:k<=1)(hl:k*n+n<=f0.2.1.length)(hf:f0.2.1.length<=1000)(hw:∀i,k*n<=i->i<k*n+n->f0.2.1.getD i 0≠f0.2.2.1)(key:List Int×Unit)(p4:BayT)(p5:HdrT)(p6 p7 p8 p9 p10:Int)(p11:List Int)(p12:Int)(p13 p14:List (List Int))(p15:Int×Unit)(p16:List Int×Unit)(p17 p18:List Int)(p19:PwT) :
 ∀(d m j:Nat)(s:RsT),EG f0 (k*n+j) s->j+d=n->d<m->L_10_1_1 m k n n j p4 p5 p6 p7 p8 p9 p10 p11 p12 p13 p14 p15 p16 p17 p18 p19 ((s.1,key),s.2.1,s.2.2.1,())=some (.e0 k p4 p5 p6 p7 p8 p9 p10 p11 p12 p13 p14 p15 p16 p17 p18 p19 (((Sp.elo d (k*n+j) s).1,key),(Sp.elo d (k*n+j) s).2.1,(Sp.elo d (k*n+j) s).2.2.1,()))
 |0,m+1,j,s,_,hj,_=>by
  rw[L_10_1_1,S_10_1_1,cond_dff (by omega)]
  rfl
 |d+1,m+1,j,s,h,hj,hm=>by
  have hkn:k*n<=1000:=by omega
  have ek:(k:Int)*(n:Int)=((k*n:Nat):Int):=by push_cast;rfl
  rw[L_10_1_1,S_10_1_1,cond_dtt (by omega),Sp.elo]
  dsimp only
  by_cases e:s.2.2.1=0
  ·have pv:=ers_pv (f:=s.1) (p:=s.2.1) (s:=k*n+j) h.v h.p0 h.p1 (by rw[h.n];omega)
   rw[cond_ett e,if_pos e,ek,wi64 (n:=((k*n:Nat):Int)) (by omega) (by omega),wi64 (n:=((k*n:Nat):Int)+j) (by omega) (by omega),show((k*n:Nat):Int)+(j:Int)=((k*n+j:Nat):Int) by push_cast;rfl,pv.1,pv.2,gd_tt,wi64 (by omega) (by omega),show(j:Int)+1=((j+1:Nat):Int) by push_cast;rfl]
   exact en1 k n hk hl hf hw key p4 p5 p6 p7 p8 p9 p10 p11 p12 p13 p14 p15 p16 p17 p18 p19 d m (j+1) _ (ers_g (k:=k*n+j) h (by omega) (hw (k*n+j) (by omega) (by omega))) (by omega) (by omega)
  ·rw[cond_eff e,if_neg e,wi64 (by omega) (by omega),show(j:Int)+1=((j+1:Nat):Int) by push_cast;rfl]
   have:=en1 k n hk hl hf hw key p4 p5 p6 p7 p8 p9 p10 p11 p12 p13 p14 p15 p16 p17 p18 p19 d m (j+1) s (h.up (by omega)) (by omega) (by omega)
   rw[elo_stop _ _ e]at this
   exact this
theorem en0{f0:FlT}(k n:Nat)(hk:k<=1)(hn:0<n)(hl:k*n+n<=f0.2.1.length)(hf:f0.2.1.length<=1000)(hw:∀i,k*n<=i->i<k*n+n->f0.2.1.getD i 0≠f0.2.2.1)(key:List Int×Unit)(p4:BayT)(p5:HdrT)(p6 p7 p8 p9 p10:Int)(p11:List Int)(p12:Int)(p13 p14:List (List Int))(p15:Int×Unit)(p16:List Int×Unit)(p17 p18:List Int)(p19 p:PwT)(h:EG f0 (k*n) (f0,p,0,())) :
 L_10_1 4611686018427387904 k n n 0 p4 p5 p6 p7 p8 p9 p10 p11 p12 p13 p14 p15 p16 p17 p18 p19 (f0.2.2.1,()) key (p,0,()) f0.1 f0.2.1=some (.e1 k p4 p5 p6 p7 p8 p9 p10 p11 p12 p13 p14 p15 p16 p17 p18 p19 (((Sp.elo n (k*n) (f0,p,0,())).1,key),(Sp.elo n (k*n) (f0,p,0,())).2.1,(Sp.elo n (k*n) (f0,p,0,())).2.2.1,())):=by
 obtain⟨n',rfl⟩:∃n',n=n'+1:=⟨n-1,by omega⟩
 show L_10_1 (4611686018427387903+1) k (n'+1:Nat) (n'+1:Nat) 0 p4 p5 p6 p7 p8 p9 p10 p11 p12 p13 p14 p15 p16 p17 p18 p19 (f0.2.2.1,()) key (p,0,()) f0.1 f0.2.1=_
 have hkn:k*(n'+1)<=1000:=by omega
 have ek:(k:Int)*((n'+1:Nat):Int)=((k*(n'+1):Nat):Int):=by push_cast;rfl
 have pv:=ers_pv (f:=f0) (p:=p) (s:=k*(n'+1)) h.v h.p0 h.p1 (by omega)
 have t:=en1 k (n'+1) hk hl hf hw key p4 p5 p6 p7 p8 p9 p10 p11 p12 p13 p14 p15 p16 p17 p18 p19 n' 4611686018427387903 1 _ (ers_g (k:=k*(n'+1)) h (by omega) (hw (k*(n'+1)) (by omega) (by omega))) (by omega) (by omega)
 rw[Sp.elo,if_pos rfl]
 rw[L_10_1,S_10_1,cond_dtt (by omega)]
 dsimp only
 rw[cond_ett rfl,ek,Int.add_zero,wi64 (n:=((k*(n'+1):Nat):Int)) (by omega) (by omega),wi64 (n:=((k*(n'+1):Nat):Int)) (by omega) (by omega)]
 rw[show p_92 (f0.1,f0.2.1,f0.2.2.1,()) ((k*(n'+1):Nat):Int) p=true from pv.1,show v_92 (f0.1,f0.2.1,f0.2.2.1,()) ((k*(n'+1):Nat):Int) p=Sp.ers f0 (k*(n'+1)) p from pv.2,gd_tt,show wrap .i64 (0+1)=((1:Nat):Int)from by decide]
 refine(congrArg (fun z=>B_10_1_1 z _) t).trans ?_
 rfl
theorem pn1{f0:FlT}(a:Nat)(l:List Int)(hl:a+l.length<=f0.1.length)(hf:f0.1.length<=100000)(key:List Int×Unit)(p4:BayT)(p5:HdrT)(p6 p7 p8 p9 p10:Int)(p11:List Int)(p12:Int)(p13 p14:List (List Int))(p15:Int×Unit)(p16:List Int×Unit)(p17 p18:List Int)(p19:PwT) :
 ∀(d m j:Nat)(s:RsT),PG f0 s->j+d=l.length->d<m->L_10_50_0_2 m a l l.length j p4 p5 p6 p7 p8 p9 p10 p11 p12 p13 p14 p15 p16 p17 p18 p19 ((s.1,key),s.2.1,s.2.2.1,())=some (.e0 p4 p5 p6 p7 p8 p9 p10 p11 p12 p13 p14 p15 p16 p17 p18 p19 (((Sp.plo (l.drop j) (a+j) s).1,key),(Sp.plo (l.drop j) (a+j) s).2.1,(Sp.plo (l.drop j) (a+j) s).2.2.1,()))
 |0,m+1,j,s,_,hj,_=>by
  rw[L_10_50_0_2,S_10_50_0_2,cond_dff (by omega),List.drop_of_length_le (by omega)]
  rfl
 |d+1,m+1,j,s,h,hj,hm=>by
  have hlen:=h.l
  rw[L_10_50_0_2,S_10_50_0_2,cond_dtt (by omega),gd_inB (by omega) (by omega),drop_c (by omega),Sp.plo]
  dsimp only
  by_cases e:s.2.2.1=0
  ·have pv:=prg_pv (k:=a+j) (w:=l.getD j 0) h.v h.p0 h.p1 (by omega)
   rw[cond_ett e,if_pos e,wi64 (n:=(a:Int)+j) (by omega) (by omega),Int.toNat_natCast,show(a:Int)+(j:Int)=((a+j:Nat):Int) by push_cast;rfl,pv.1,pv.2,gd_tt,wi64 (by omega) (by omega),show(j:Int)+1=((j+1:Nat):Int) by push_cast;rfl]
   exact pn1 a l hl hf key p4 p5 p6 p7 p8 p9 p10 p11 p12 p13 p14 p15 p16 p17 p18 p19 d m (j+1) _ (prg_g h (a+j) _) (by omega) (by omega)
  ·rw[cond_eff e,if_neg e,wi64 (by omega) (by omega),show(j:Int)+1=((j+1:Nat):Int) by push_cast;rfl]
   have:=pn1 a l hl hf key p4 p5 p6 p7 p8 p9 p10 p11 p12 p13 p14 p15 p16 p17 p18 p19 d m (j+1) s h (by omega) (by omega)
   rw[plo_stop _ _ e]at this
   exact this
set_option maxRecDepth 100000
set_option maxHeartbeats 4000000
namespace Sp
noncomputable def hn(b:BayT):Nat:=b.1.2.1.length/2
noncomputable def tg(b:BayT):Nat:=bif has b then 1-sb b else 0
noncomputable def wrn(b:BayT)(k:Nat):Bool:=(take (hn b) (drop (k*hn b) b.1.2.1)).contains b.1.2.2.1
noncomputable def bgs(b:BayT)(h:HdrT)(p:PwT)(k:Nat):RsT:=plo (hdw h) (k*hlf b+1) (elo (hn b) (k*hn b) (b.1,p,0,()))
noncomputable def bgo(b:BayT)(h:HdrT)(p:PwT)(k:Nat):OutT:=(if(bgs b h p k).2.2.1=0 then(1,(k:Int),0,h,())else zD,((bgs b h p k).1,b.2),(bgs b h p k).2.1,(bgs b h p k).2.2.1,())
noncomputable def bge(d:DlT)(b:BayT)(h:HdrT)(p:PwT):Int:=if vdl d=true/\bvb b=true/\pok p=true/\rgt h ((hlf b:Int)-564)=true then(if zdl d=true then(if h.1<=lst b then 20 else if verF b.2.1 h.2.2.1 h.2.2.2.1=true then(if wrn b (tg b)=true then 19 else 0)else 14)else 6)else 1
noncomputable def bgn(d:DlT)(b:BayT)(h:HdrT)(p:PwT):OutT:=if bge d b h p=0 then bgo b h p (tg b)else fl (bge d b h p)
end Sp
theorem tg_le(b:BayT):Sp.tg b<=1:=by
 unfold Sp.tg
 cases Sp.has b
 ·exact Nat.zero_le _
 ·show 1-Sp.sb b<=1;omega
theorem wrn_no{b:BayT}{k:Nat}(hb:Sp.bvb b=true)(hk:k<=1)(h:Sp.wrn b k=false):k*Sp.hn b+Sp.hn b<=b.1.2.1.length/\∀i,k*Sp.hn b<=i->i<k*Sp.hn b+Sp.hn b->b.1.2.1.getD i 0≠b.1.2.2.1:=by
 have hl:k*Sp.hn b+Sp.hn b<=b.1.2.1.length:=by
  have bl:=bay_len hb
  have:k*Sp.hn b<=1*Sp.hn b:=Nat.mul_le_mul_right _ hk
  have e:Sp.hn b=b.1.2.1.length/2:=rfl
  omega
 refine⟨hl,fun i h1 h2 e=> ?_⟩
 unfold Sp.wrn at h
 have hx:(i-k*Sp.hn b)<(take (Sp.hn b) (drop (k*Sp.hn b) b.1.2.1)).length:=by
  rw[List.length_take,List.length_drop];omega
 have hm:=List.getElem_mem hx
 rw[List.getElem_take,List.getElem_drop]at hm
 have e2:b.1.2.1[k*Sp.hn b+(i-k*Sp.hn b)]'(by omega)=b.1.2.2.1:=by
  rw[<-e,getD_at 0 (by omega)]
  congr 1
  omega
 rw[e2]at hm
 have:(take (Sp.hn b) (drop (k*Sp.hn b) b.1.2.1)).contains b.1.2.2.1=true:=by simpa using hm
 rw[this]at h
 cases h
theorem bgs_g{b:BayT}{h:HdrT}{p:PwT}{k:Nat}(hb:Sp.bvb b=true)(hk:k<=1)(hw:W32f b.1)(h0:0<=p.1)(h1:p.1<=1099511627776)(hn:Sp.wrn b k=false) :
 EG b.1 (k*Sp.hn b+Sp.hn b) (Sp.elo (Sp.hn b) (k*Sp.hn b) (b.1,p,0,()))/\PG (Sp.elo (Sp.hn b) (k*Sp.hn b) (b.1,p,0,())).1 (Sp.bgs b h p k):=by
 obtain⟨hl,hq⟩:=wrn_no hb hk hn
 have g:=elo_g (Sp.hn b) (k*Sp.hn b) (EG.init (f:=b.1) (p:=p) (k:=k*Sp.hn b) (bay_len hb).2.2.2.2.2 hw h0 h1) hl hq
 exact⟨g,plo_g _ _ g.pg⟩
theorem j_bg{b:BayT}{h:HdrT}{p:PwT}(k:Nat)(hk:k<=1)(hb:Sp.bvb b=true)(hw:W32f b.1)(hh:H32 h)(hs:Sp.shp h.2.2.2.1=true)(h0:0<=p.1)(h1:p.1<=1099511627776)(p4 p5 p6 p7 p8:Int)(p9:List Int)(p10:Int)(p11 p12:List (List Int))(p13:Int×Unit)(p14:List Int×Unit)(p15 p16:List Int)(p17:PwT) :
 J_10_0 k b h p p4 p5 p6 p7 p8 p9 p10 p11 p12 p13 p14 p15 p16 p17=some (if Sp.wrn b k=true then .e0 else if(Sp.bgs b h p k).2.2.1=0 then .e4 k h (((Sp.bgs b h p k).1,b.2),(Sp.bgs b h p k).2.1,(Sp.bgs b h p k).2.2.1,())else .e5 (((Sp.bgs b h p k).1,b.2),(Sp.bgs b h p k).2.1,(Sp.bgs b h p k).2.2.1,())):=by
 have bl:=bay_len hb
 have en:wrap .i64 (Int.tdiv (b.1.2.1.length:Int) 2)=(Sp.hn b:Int):=by
  have e:Sp.hn b=b.1.2.1.length/2:=rfl
  rw[Int.tdiv_eq_ediv_of_nonneg (by omega),wi64 (by omega) (by omega)]
  omega
 have hn2:Sp.hn b<=32/\9<=Sp.hn b/\Sp.hn b+Sp.hn b=b.1.2.1.length:=by
  have e:Sp.hn b=b.1.2.1.length/2:=rfl
  omega
 have ekn:k*Sp.hn b<=Sp.hn b:=by
  have:k*Sp.hn b<=1*Sp.hn b:=Nat.mul_le_mul_right _ hk
  omega
 have ek:(k:Int)*(Sp.hn b:Int)=((k*Sp.hn b:Nat):Int):=by push_cast;try rfl
 have ekh:k*Sp.hlf b<=Sp.hlf b:=by
  have:k*Sp.hlf b<=1*Sp.hlf b:=Nat.mul_le_mul_right _ hk
  omega
 have eh:(k:Int)*(Sp.hlf b:Int)=((k*Sp.hlf b:Nat):Int):=by push_cast;try rfl
 have c:=cont_pv (take (Sp.hn b) (drop (k*Sp.hn b) b.1.2.1)) b.1.2.2.1 (by rw[List.length_take];omega)
 unfold J_10_0 S_10_0
 rw[en,ek,wi64 (n:=((k*Sp.hn b:Nat):Int)) (by omega) (by omega),wi64 (n:=((k*Sp.hn b:Nat):Int)+(Sp.hn b:Int)) (by omega) (by omega),gd_sl3 (by omega) (by omega) (by omega),Int.toNat_natCast,show(((k*Sp.hn b:Nat):Int)+(Sp.hn b:Int)).toNat-k*Sp.hn b=Sp.hn b by omega,c.1,c.2,gd_tt]
 dsimp only
 rw[show(take (Sp.hn b) (drop (k*Sp.hn b) b.1.2.1)).contains b.1.2.2.1=Sp.wrn b k from rfl]
 cases hwn:Sp.wrn b k
 rotate_left
 ·rw[cond_t,(fail_pv 19).1,gd_tt,if_pos rfl]
 rw[cond_f,if_neg Bool.false_ne_true,gd_room (by omega) (by omega),gd_room (by omega) (by omega)]
 obtain⟨hl,hq⟩:=wrn_no hb hk hwn
 have g:=bgs_g (h:=h) hb hk hw h0 h1 hwn
 have w:=en0 (f0:=b.1) k (Sp.hn b) hk (by omega) hl (by omega) hq b.2 b h p4 p5 p6 p7 p8 p9 p10 p11 p12 p13 p14 p15 p16 p17 p (EG.init bl.2.2.2.2.2 hw h0 h1)
 refine(congrArg (fun z=>B_10_1 z _ _) w).trans ?_
 unfold B_10_1
 dsimp only
 have hd:=hdw_pv hh hs
 have hdl:=hdw_len hs
 rw[(size_pv hb).1,(size_pv hb).2,gd_tt,hd.1,hd.2,gd_tt]
 dsimp only
 have ewl:(Sp.elo (Sp.hn b) (k*Sp.hn b) (b.1,p,0,())).1.1.length=b.1.1.length:=g.1.l
 rw[eh,wi64 (n:=((k*Sp.hlf b:Nat):Int)) (by omega) (by omega),wi64 (n:=((k*Sp.hlf b:Nat):Int)+1) (by omega) (by omega),show((k*Sp.hlf b:Nat):Int)+1=((k*Sp.hlf b+1:Nat):Int) by push_cast;rfl]
 have w2:=pn1 (f0:=(Sp.elo (Sp.hn b) (k*Sp.hn b) (b.1,p,0,())).1) (k*Sp.hlf b+1) (Sp.hdw h) (by omega) (by omega) b.2 b h p4 p5 p6 p7 p8 p9 p10 p11 p12 p13 p14 p15 p16 p17 (Sp.hdw h).length 4611686018427387904 0 _ g.1.pg (by omega) (by omega)
 rw[List.drop_zero,Nat.add_zero]at w2
 refine(congrArg (fun z=>B_10_50_0_2 z _) w2).trans ?_
 unfold B_10_50_0_2
 dsimp only
 rw[show Sp.plo (Sp.hdw h) (k*Sp.hlf b+1) (Sp.elo (Sp.hn b) (k*Sp.hn b) (b.1,p,0,()))=Sp.bgs b h p k from rfl]
 rcases g.2.e with e|e
 ·rw[cond_ett e,if_pos e]
 ·rw[cond_eff (by rw[e];decide),cond_ett e,if_neg (by rw[e];decide)]
theorem bgn_pv{d:DlT}{b:BayT}{h:HdrT}{p:PwT}(hd:H32 d.2.2.2.1)(hh:H32 h)(hw:W32f b.1)(hby:bytes h.2.2.1):p_10 d b h p=true/\v_10 d b h p=Sp.bgn d b h p:=by
 refine pv_10 d b h p ?_
 have v:=pv_37 _ (valid_ok hd)
 have z:=pv_43 _ (zero_ok d)
 unfold F_10
 rw[v.1,v.2,gd_tt,(val_pv b).1,(val_pv b).2,gd_tt,(upow_pv p).1,(upow_pv p).2,gd_tt,(fail_pv 1).1,(fail_pv 1).2,gd_tt]
 dsimp only
 have no:¬(Sp.vdl d=true/\Sp.bvb b=true/\Sp.pok p=true/\Sp.rgt h ((Sp.hlf b:Int)-564)=true)->Sp.bgn d b h p=Sp.fl 1:=fun c=>by
  unfold Sp.bgn Sp.bge
  rw[if_neg c,if_neg (show ¬(1:Int)=0 by decide)]
 cases hv:Sp.vdl d
 ·rw[no (by rw[hv];simp)];try rfl
 cases hb:Sp.bvb b
 ·rw[no (by rw[hb];simp)];try rfl
 cases hp:Sp.pok p
 ·rw[no (by rw[hp];simp)];try rfl
 have bl:=bay_len hb
 have hp2:0<=p.1/\p.1<=1099511627776:=by
  unfold Sp.pok at hp
  simpa using hp
 rw[(size_pv hb).1,(size_pv hb).2,gd_tt]
 dsimp only
 rw[wi64 (n:=(Sp.hlf b:Int)-564) (by omega) (by omega)]
 have r:=pv_40 _ _ (right_ok hh ((Sp.hlf b:Int)-564))
 rw[r.1,r.2,gd_tt]
 dsimp only
 cases hr:Sp.rgt h ((Sp.hlf b:Int)-564)
 ·rw[no (by rw[hr];simp)];try rfl
 clear no
 have E:Sp.bge d b h p=(if Sp.zdl d=true then(if h.1<=Sp.lst b then 20 else if Sp.verF b.2.1 h.2.2.1 h.2.2.2.1=true then(if Sp.wrn b (Sp.tg b)=true then 19 else 0)else 14)else 6):=by
  unfold Sp.bge
  rw[if_pos ⟨hv,hb,hp,hr⟩]
 unfold Sp.bgn
 rw[E,z.1,z.2,gd_tt]
 clear E
 show(bif !(Sp.zdl d)then _ else _)=_
 cases hz:Sp.zdl d
 ·rw[Bool.not_false,cond_t,(fail_pv 6).1,(fail_pv 6).2,gd_tt,if_neg Bool.false_ne_true,if_neg (show ¬(6:Int)=0 by decide)];try rfl
 have B:BB b:=⟨bv_of hb,hb⟩
 rw[Bool.not_true,cond_f,if_pos rfl,(lst_pv B).1,(lst_pv B).2,gd_tt]
 dsimp only
 by_cases hvr:h.1<=Sp.lst b
 ·rw[cond_dtt hvr,(fail_pv 20).1,(fail_pv 20).2,gd_tt,if_pos hvr,if_neg (show ¬(20:Int)=0 by decide)];try rfl
 have vf:=pv_45 _ _ _ (verify_ok b.2.1 h.2.2.1 hby h.2.2.2.1)
 rw[cond_dff hvr,if_neg hvr,vf.1,vf.2,gd_tt]
 dsimp only
 cases hvf:Sp.verF b.2.1 h.2.2.1 h.2.2.2.1
 ·rw[Bool.not_false,cond_t,(fail_pv 14).1,(fail_pv 14).2,gd_tt,if_neg Bool.false_ne_true,if_neg (show ¬(14:Int)=0 by decide)];try rfl
 rw[Bool.not_true,cond_f,if_pos rfl,(atv B).1,(atv B).2,gd_tt]
 dsimp only
 have hs:Sp.shp h.2.2.2.1=true:=by
  unfold Sp.rgt at hr
  simp only[Bool.and_eq_true]at hr
  exact hr.2.2.2.2
 have J:=j_bg (b:=b) (h:=h) (p:=p) (Sp.tg b) (tg_le b) hb hw hh hs hp2.1 hp2.2 0 0 0 0 0 (replicate 32 0) 0 [] [] (0,()) (replicate 32 0,()) [] [] (0,0,())
 have key:B_10_0 (J_10_0 (Sp.tg b:Int) b h p 0 0 0 0 0 (replicate 32 0) 0 [] [] (0,()) (replicate 32 0,()) [] [] (0,0,())) (some ((v_42 19).1,(v_42 19).2.1,(v_42 19).2.2.1,(v_42 19).2.2.2.1,())) (fun y36 y37 y38 y39 y40 y41 y42=>some ((1,y36,0,y37,()),((y41,y42,y38),y39),y40.1,0,())) (fun y43 y44 y45 y46 y47=>some (Sp.zD,((y46,y47,y43),y44),y45.1,18,())) (fun y48=>some ((v_42 y48.2.1).1,(v_42 y48.2.1).2.1,(v_42 y48.2.1).2.2.1,(v_42 y48.2.1).2.2.2.1,())) (fun y49 y50 y51=>some ((1,y49,0,y50,()),y51.1,y51.2.1,0,())) (fun y52=>some (Sp.zD,y52.1,y52.2.1,18,())) (fun y53=>some ((v_42 y53.2.2.1).1,(v_42 y53.2.2.1).2.1,(v_42 y53.2.2.1).2.2.1,(v_42 y53.2.2.1).2.2.2.1,()))=some (if(if Sp.wrn b (Sp.tg b)=true then(19:Int)else 0)=0 then Sp.bgo b h p (Sp.tg b)else Sp.fl (if Sp.wrn b (Sp.tg b)=true then(19:Int)else 0)):=by
  rw[J]
  cases hwn:Sp.wrn b (Sp.tg b)
  rotate_left
  ·rw[if_pos rfl,if_pos rfl,if_neg (show ¬(19:Int)=0 by decide)]
   unfold B_10_0
   dsimp only
   rw[(fail_pv 19).2]
   try rfl
  have g:=(bgs_g (h:=h) hb (tg_le b) hw hp2.1 hp2.2 hwn).2
  rw[if_neg Bool.false_ne_true,if_neg Bool.false_ne_true,if_pos rfl]
  unfold Sp.bgo
  rcases g.e with e|e
  ·rw[if_pos e,if_pos e,e]
   try rfl
  ·rw[if_neg (by rw[e];decide),if_neg (by rw[e];decide),e]
   try rfl
 cases hha:Sp.has b
 ·rw[cond_f]
  have e:Sp.tg b=0:=by unfold Sp.tg;rw[hha];try rfl
  rw[e]at key⊢
  exact key
 ·rw[cond_t]
  have sl:=sb_lt b
  have e:Sp.tg b=1-Sp.sb b:=by unfold Sp.tg;rw[hha];try rfl
  rw[wi64 (n:=1-(Sp.sb b:Int)) (by omega) (by omega),show 1-(Sp.sb b:Int)=((Sp.tg b:Nat):Int) by omega]
  exact key
set_option maxRecDepth 100000
set_option maxHeartbeats 4000000
noncomputable def EQ(b:BayT):Prop:=p_28 b b=true/\v_28 b b=(true,())
namespace Sp
noncomputable def prt(w:List Int)(i:Nat):List Int:=take 32 (drop (32*i) w)
noncomputable def lpr(w:List Int):Nat->Nat->OutT->OutT
 |0,_,s=>s
 |n+1,i,s=>if s.2.2.2.1=0/\32*i<w.length then lpr w n (i+1) (ublk s.1 s.2.1 i (prt w i) s.2.2.1)else s
end Sp
structure IV(hb:Nat)(h:HdrT)(w:List Int)(i:Nat)(s:OutT):Prop where
 hh:H32 h
 lw:(w.length:Int)=h.2.1
 l1:w.length<=100
 rg:Sp.rgt h ((hb:Int)-564)=true
 ok:s.2.2.2.1=0->(∃k:Int,(k=0\/k=1)/\s.1=(if 32*i<w.length then 1 else 2,k,if 32*i<w.length then((32*i:Nat):Int)else(w.length:Int),h,()))/\Sp.bvb s.2.1=true/\Sp.hlf s.2.1=hb/\W32f s.2.1.1/\Sp.pok s.2.2.1=true
 no:s.2.2.2.1≠0->s.1=Sp.zD
 eq:EQ s.2.1
theorem pok_b{p:PwT}(h:Sp.pok p=true):0<=p.1/\p.1<=1099511627776:=by
 unfold Sp.pok at h
 simpa using h
theorem pok_of{p:PwT}(h:0<=p.1)(h1:p.1<=1099511627776):Sp.pok p=true:=by
 unfold Sp.pok
 simp[h,h1]
theorem bvb_of{b:BayT}{f:FlT}(h:Sp.bvb b=true)(hv:Sp.fv f=true)(hl:f.2.1.length=b.1.2.1.length):Sp.bvb (f,b.2)=true:=by
 unfold Sp.bvb at h⊢
 dsimp only
 rw[hv,hl,Bool.true_and]
 simp only[Bool.and_eq_true]at h
 exact h.2
theorem rgt_1484{h:HdrT}{hb:Nat}(hl:hb<=2048)(r:Sp.rgt h ((hb:Int)-564)=true):Sp.rgt h 1484=true/\1<=h.2.1/\Sp.shp h.2.2.2.1=true:=by
 unfold Sp.rgt at r⊢
 simp only[Bool.and_eq_true,decide_eq_true_eq]at r⊢
 refine⟨⟨r.1,r.2.1,r.2.2.1,by omega,r.2.2.2.2⟩,r.2.2.1,r.2.2.2.2⟩
theorem iv_fit{hb:Nat}{h:HdrT}{w:List Int}{i:Nat}{s:OutT}(V:IV hb h w i s)(e:s.2.2.2.1=0):Sp.vdl s.1=true/\Sp.fit s.1 s.2.1 s.2.2.1=true:=by
 obtain⟨⟨k,hk,hd⟩,hb1,hb2,_,hp⟩:=V.ok e
 have bl:=bay_len hb1
 have hl:=V.lw
 obtain⟨r1,r2,_⟩:=rgt_1484 (by omega) V.rg
 have hkb:(k==0||k==1)=true:=by rcases hk with rfl|rfl<;>rfl
 have hv:Sp.vdl s.1=true:=by
  rw[hd]
  unfold Sp.vdl Sp.vst
  dsimp only
  rw[hkb,r1,Bool.true_and,Bool.true_and]
  by_cases c:32*i<w.length
  ·rw[if_pos c,if_pos c]
   have e1:Int.tmod ((32*i:Nat):Int) 32=0:=by rw[Int.tmod_eq_emod_of_nonneg (by omega)];omega
   rw[e1,decide_eq_true (p:=(0:Int)<=((32*i:Nat):Int)) (by omega),decide_eq_true (p:=((32*i:Nat):Int)<h.2.1) (by omega)]
   simp
  ·rw[if_neg c,if_neg c,hl]
   simp
 refine⟨hv,?_⟩
 unfold Sp.fit
 rw[hv,hb1,hp,hb2,hd]
 dsimp only
 rw[V.rg]
 simp
theorem iv_step{hb:Nat}{h:HdrT}{w:List Int}{i:Nat}{s:OutT}(V:IV hb h w i s)(e:s.2.2.2.1=0)(hi:32*i<w.length):IV hb h w (i+1) (Sp.ublk s.1 s.2.1 i (Sp.prt w i) s.2.2.1):=by
 obtain⟨hv,hf⟩:=iv_fit V e
 obtain⟨⟨k,hk,hd⟩,hb1,hb2,hw,hp⟩:=V.ok e
 have bl:=bay_len hb1
 have hl:=V.lw
 rw[if_pos hi,if_pos hi]at hd
 have d1:s.1.1=1:=by rw[hd]
 have d3:s.1.2.2.1=((32*i:Nat):Int):=by rw[hd]
 have d4:s.1.2.2.2.1=h:=by rw[hd]
 have hpl:((Sp.prt w i).length:Int)=Sp.part s.1:=by
  unfold Sp.prt Sp.part
  rw[d3,d4,List.length_take,List.length_drop,<-hl]
  split<;>omega
 have hble:Sp.ble s.1 s.2.1 i (Sp.prt w i) s.2.2.1=0:=by
  unfold Sp.ble
  rw[if_pos hf,if_pos d1,d3,Int.tdiv_eq_ediv_of_nonneg (by omega),if_pos (by omega),if_pos hpl]
 have g:=blr_g (Sp.prt w i) hf d1 hw
 have eqb:EQ ((Sp.blr s.1 s.2.1 (Sp.prt w i) s.2.2.1).1,s.2.1.2):=bsame_pv _ g.v
 have hr:(Sp.blr s.1 s.2.1 (Sp.prt w i) s.2.2.1).1.2.1.length=s.2.1.1.2.1.length:=by rw[g.r]
 have hbv:=bvb_of hb1 g.v hr
 unfold Sp.ublk
 rw[if_pos hble]
 refine⟨V.hh,V.lw,V.l1,V.rg,fun e2=> ?_,fun e2=> ?_,eqb⟩
 ·have e2:(Sp.blr s.1 s.2.1 (Sp.prt w i) s.2.2.1).2.2.1=0:=e2
  refine⟨⟨k,hk,?_⟩,hbv,?_,g.w,pok_of g.p0 g.p1⟩
  ·unfold Sp.blo
   dsimp only
   rw[if_pos e2]
   unfold Sp.nxt
   rw[hpl]
   unfold Sp.part
   rw[hd]
   dsimp only
   rw[<-hl]
   by_cases c:32*(i+1)<w.length
   ·rw[if_pos c,if_pos c,if_neg (by omega),if_neg (by omega)]
    congr 3
   ·rw[if_neg c,if_neg c]
    by_cases c2:(w.length:Int)-((32*i:Nat):Int)<32
    ·rw[if_pos c2,if_pos (by omega)]
     congr 3
     omega
    ·rw[if_neg c2,if_pos (by omega)]
     congr 3
     omega
  ·show Sp.hlf ((Sp.blr s.1 s.2.1 (Sp.prt w i) s.2.2.1).1,s.2.1.2)=hb
   rw[<-hb2]
   unfold Sp.hlf
   dsimp only
   rw[hr]
 ·have e2:¬(Sp.blr s.1 s.2.1 (Sp.prt w i) s.2.2.1).2.2.1=0:=e2
  unfold Sp.blo
  dsimp only
  rw[if_neg e2]
theorem h32z:H32 Sp.zD.2.2.2.1:=⟨by decide,by simp[Sp.zD],by simp[Sp.zD]⟩
theorem vdl_z:Sp.vdl Sp.zD=true:=by decide
theorem zdl_z:Sp.zdl Sp.zD=true:=by decide
theorem iv_init{b:BayT}{h:HdrT}{w:List Int}{p:PwT}(hb:Sp.bvb b=true)(hw:W32f b.1)(hp:Sp.pok p=true)(hh:H32 h)(hl:(w.length:Int)=h.2.1)(l1:w.length<=100)(rg:Sp.rgt h ((Sp.hlf b:Int)-564)=true):IV (Sp.hlf b) h w 0 (Sp.bgn Sp.zD b h p):=by
 obtain⟨p0,p1⟩:=pok_b hp
 have bl:=bay_len hb
 obtain⟨_,r2,_⟩:=rgt_1484 (h:=h) (by omega) rg
 unfold Sp.bgn
 by_cases e:Sp.bge Sp.zD b h p=0
 ·rw[if_pos e]
  have hwn:Sp.wrn b (Sp.tg b)=false:=by
   cases hc:Sp.wrn b (Sp.tg b)
   ·rfl
   ·exfalso
    unfold Sp.bge at e
    rw[if_pos ⟨vdl_z,hb,hp,rg⟩,if_pos zdl_z,if_pos hc]at e
    split at e
    ·exact absurd e (by decide)
    ·split at e
     ·exact absurd e (by decide)
     ·exact absurd e (by decide)
  have g:=bgs_g (h:=h) hb (tg_le b) hw p0 p1 hwn
  have hr:(Sp.bgs b h p (Sp.tg b)).1.2.1.length=b.1.2.1.length:=by rw[g.2.r];exact g.1.n
  have hbv:=bvb_of hb g.2.v hr
  refine⟨hh,hl,l1,rg,fun e2=> ?_,fun e2=> ?_,bsame_pv _ g.2.v⟩
  ·have e2:(Sp.bgs b h p (Sp.tg b)).2.2.1=0:=e2
   refine⟨⟨(Sp.tg b:Int),?_,?_⟩,hbv,?_,g.2.w,pok_of g.2.p0 g.2.p1⟩
   ·have:=tg_le b;omega
   ·unfold Sp.bgo
    dsimp only
    rw[if_pos e2,if_pos (by omega),if_pos (by omega)]
    rfl
   ·unfold Sp.bgo Sp.hlf
    dsimp only
    rw[hr]
  ·have e2:¬(Sp.bgs b h p (Sp.tg b)).2.2.1=0:=e2
   unfold Sp.bgo
   dsimp only
   rw[if_neg e2]
 ·rw[if_neg e]
  exact⟨hh,hl,l1,rg,fun e2=>absurd e2 e,fun _=>rfl,zsame_pv⟩
theorem lpr_iv{hb:Nat}{h:HdrT}{w:List Int}:∀(n i:Nat)(s:OutT),IV hb h w i s->w.length<=32*(i+n)->∃j,IV hb h w j (Sp.lpr w n i s)/\((Sp.lpr w n i s).2.2.2.1=0->w.length<=32*j)
 |0,i,s,V,hn=>⟨i,V,fun _=>by omega⟩
 |n+1,i,s,V,hn=>by
  rw[Sp.lpr]
  by_cases c:s.2.2.2.1=0/\32*i<w.length
  ·rw[if_pos c]
   exact lpr_iv n (i+1) _ (iv_step V c.1 c.2) (by omega)
  ·rw[if_neg c]
   exact⟨i,V,fun e=>by omega⟩
theorem cd_ne{a:BayT}{k c:Int}(h:Cd a k c):c≠0/\c≠18:=by
 rcases h with⟨_,rfl⟩|⟨n,_,_,⟨_,rfl⟩|⟨_,_,rfl⟩|⟨_,_,_,rfl⟩⟩<;>decide
theorem fin_ex{hb:Nat}{h:HdrT}{w:List Int}{i:Nat}{s:OutT}(V:IV hb h w i s)(e:s.2.2.2.1=0)(hi:w.length<=32*i):s.1.1=2/\∃r:OutT,(p_19 s.1 s.2.1 s.2.2.1=true/\v_19 s.1 s.2.1 s.2.2.1=r)/\r.1=Sp.zD/\EQ r.2.1:=by
 obtain⟨hv,hf⟩:=iv_fit V e
 obtain⟨⟨k,hk,hd⟩,hb1,hb2,hw,hp⟩:=V.ok e
 rw[if_neg (by omega),if_neg (by omega)]at hd
 have d1:s.1.1=2:=by rw[hd]
 have d2:s.1.2.1=k:=by rw[hd]
 have d4:s.1.2.2.2.1=h:=by rw[hd]
 obtain⟨p0,p1⟩:=pok_b hp
 refine⟨d1,?_⟩
 have key:∃r:OutT,F_19 s.1 s.2.1 s.2.2.1=some r/\r.1=Sp.zD/\EQ r.2.1:=by
  have f:=fits_pv (d:=s.1) (by rw[d4];exact V.hh) s.2.1 s.2.2.1
  unfold F_19
  rw[f.1,f.2,gd_tt,if_pos hf,cond_nff rfl,cond_nff d1,d2]
  have B:BB s.2.1:=⟨bv_of hb1,hb1⟩
  rcases act_any B k with⟨c,c0,hc,ha⟩|⟨n,hn,rfl,g1,g2,g3⟩
  ·have a:=pv_65 _ _ _ (ha s.2.2.1 p0 p1)
   obtain⟨_,c18⟩:=cd_ne hc
   rw[a.1,a.2,gd_tt]
   dsimp only
   rw[cond_eff c0,cond_eff c18,(fail_pv c).1,(fail_pv c).2,gd_tt]
   exact⟨_,rfl,rfl,zsame_pv⟩
  ·have a:=pv_65 _ _ _ (act_good B n hn g1 g2 g3 s.2.2.1 p0 p1)
   have bl:=bay_len hb1
   have g:=prg_g (PG.init (p:=s.2.2.1) hb1 hw p0 p1) (n*Sp.hlf s.2.1) 0
   rw[a.1,a.2,gd_tt]
   dsimp only
   rcases g.e with e|e
   ·rw[cond_ett (show(Sp.prg s.2.1.1 (n*Sp.hlf s.2.1) 0 s.2.2.1).2.2.1=0 from e)]
    exact⟨_,rfl,rfl,bsame_pv _ g.v⟩
   ·rw[cond_eff (by rw[show(Sp.prg s.2.1.1 (n*Sp.hlf s.2.1) 0 s.2.2.1).2.2.1=18 from e];decide),cond_ett (show(Sp.prg s.2.1.1 (n*Sp.hlf s.2.1) 0 s.2.2.1).2.2.1=18 from e)]
    exact⟨_,rfl,rfl,bsame_pv _ g.v⟩
 obtain⟨r,h1,h2,h3⟩:=key
 exact⟨r,pv_19 _ _ _ h1,h2,h3⟩
theorem new_pv:p_35=true/\v_35=(Sp.zD,()):=pv_35 rfl
theorem prt_tk(w:List Int)(i:Nat):take (if w.length-32*i<32 then w.length-32*i else 32) (drop (32*i) w)=Sp.prt w i:=by
 unfold Sp.prt
 split
 ·rw[List.take_of_length_le (by rw[List.length_drop];omega),List.take_of_length_le (by rw[List.length_drop];omega)]
 ·rfl
theorem blk_iv{hb:Nat}{h:HdrT}{w:List Int}{i:Nat}{s:OutT}(V:IV hb h w i s)(e:s.2.2.2.1=0)(l:List Int):p_68 s.1 s.2.1 i l s.2.2.1=true/\v_68 s.1 s.2.1 i l s.2.2.1=Sp.ublk s.1 s.2.1 i l s.2.2.1:=by
 obtain⟨⟨k,_,hd⟩,_,_,hw,_⟩:=V.ok e
 exact blk_pv (by rw[hd];exact V.hh) hw
theorem il{hb:Nat}{h:HdrT}{w:List Int}(q2:HdrT)(p4:Int×Unit)(p5:List Int×Unit)(p6:PwT):∀(n m i:Nat)(s:OutT),IV hb h w i s->w.length<=32*(i+n)->n<m->
 ∃q:Int,L_23_108_0_0 m ((32*i:Nat):Int) s.2.1 q2 s.2.2.1 p4 p5 p6 s.1 s.2.2.2.1 i w 32=some (.e0 (Sp.lpr w n i s).2.1 q2 (Sp.lpr w n i s).2.2.1 p4 p5 p6 (Sp.lpr w n i s).1 (Sp.lpr w n i s).2.2.2.1 q w 32)\/L_23_108_0_0 m ((32*i:Nat):Int) s.2.1 q2 s.2.2.1 p4 p5 p6 s.1 s.2.2.2.1 i w 32=some (.e1 (Sp.lpr w n i s).2.1 q2 (Sp.lpr w n i s).2.2.1 p4 p5 p6 (Sp.lpr w n i s).1 (Sp.lpr w n i s).2.2.2.1 q w 32)
 |0,m,i,s,V,hn,hm=>by
  obtain⟨m,rfl⟩:∃k,m=k+1:=⟨m-1,by omega⟩
  exact⟨i,.inr (by rw[L_23_108_0_0,S_23_108_0_0,cond_dff (by omega),Sp.lpr])⟩
 |n+1,m,i,s,V,hn,hm=>by
  obtain⟨m,rfl⟩:∃k,m=k+1:=⟨m-1,by omega⟩
  have l1:=V.l1
  rw[Sp.lpr]
  by_cases c:32*i<w.length
  rotate_left
  ·refine⟨i,.inr ?_⟩
   rw[L_23_108_0_0,S_23_108_0_0,cond_dff (by omega),if_neg (fun a=>c a.2)]
  have hX:wrap .i64 (((32*i:Nat):Int)+if((drop (toNat ((32*i:Nat):Int)) w).length:Int)<32 then((drop (toNat ((32*i:Nat):Int)) w).length:Int)else 32)=((32*i+(if w.length-32*i<32 then w.length-32*i else 32):Nat):Int):=by
   rw[Int.toNat_natCast,List.length_drop]
   by_cases h3:w.length-32*i<32
   ·rw[if_pos (by omega),if_pos h3,wi64 (by omega) (by omega)];omega
   ·rw[if_neg (by omega),if_neg h3,wi64 (by omega) (by omega)];omega
  have hY:32*i+(if w.length-32*i<32 then w.length-32*i else 32)<=w.length:=by split<;>omega
  rw[L_23_108_0_0,S_23_108_0_0,cond_dtt (by omega),gd_sl3 (by omega) (by omega) (by omega),hX,gd_and,gd_sl3 (by omega) (by omega) (by omega),gd_dec (by omega)]
  by_cases e:s.2.2.2.1=0
  rotate_left
  ·rw[cond_ntt e,if_neg (fun a=>e a.1)]
   exact⟨i,.inl rfl⟩
  rw[cond_nff e,if_pos (show s.2.2.2.1=0/\32*i<w.length from⟨e,c⟩),Int.toNat_natCast,Int.toNat_natCast,Nat.add_sub_cancel_left,prt_tk]
  have b:=blk_iv V e (Sp.prt w i)
  rw[b.1,b.2,gd_tt,wi64 (n:=((32*i:Nat):Int)+32) (by omega) (by omega),wi64 (n:=(i:Int)+1) (by omega) (by omega),show((32*i:Nat):Int)+32=((32*(i+1):Nat):Int) by omega,show(i:Int)+1=((i+1:Nat):Int) by omega]
  exact il q2 p4 p5 p6 n m (i+1) _ (iv_step V e c) (by omega) (by omega)
namespace Sp
noncomputable def all(b:BayT)(h:HdrT)(w:List Int)(p:PwT):OutT:=lpr w 4 0 (bgn zD b h p)
end Sp
noncomputable def InsV(b:BayT)(h:HdrT)(w:List Int)(p:PwT)(v:BayT×PwT×Int×Unit):Prop:=
 (¬(Sp.bvb b=true/\Sp.pok p=true/\Sp.rgt h ((Sp.hlf b:Int)-564)=true)/\v=(Sp.fl 1).2) \/
 ((Sp.bvb b=true/\Sp.pok p=true/\Sp.rgt h ((Sp.hlf b:Int)-564)=true)/\v=if(Sp.all b h w p).2.2.2.1=0 then(v_19 (Sp.all b h w p).1 (Sp.all b h w p).2.1 (Sp.all b h w p).2.2.1).2 else(Sp.all b h w p).2)
theorem ins_pv{b:BayT}{h:HdrT}{w:List Int}{p:PwT}(hh:H32 h)(hw:W32f b.1)(hby:bytes h.2.2.1)(hl:(w.length:Int)=h.2.1)(l1:w.length<=100):∃v,(p_23 b h w p=true/\v_23 b h w p=v)/\InsV b h w p v:=by
 have key:∃v,F_23 b h w p=some v/\InsV b h w p v:=by
  unfold F_23
  rw[(val_pv b).1,(val_pv b).2,gd_tt,(upow_pv p).1,(upow_pv p).2,gd_tt]
  dsimp only
  cases hb:Sp.bvb b
  ·exact⟨_,rfl,.inl ⟨(fun a=>by rw[hb]at a;cases a.1),rfl⟩⟩
  rw[Bool.not_true,cond_f]
  cases hp:Sp.pok p
  ·exact⟨_,rfl,.inl ⟨(fun a=>by rw[hp]at a;cases a.2.1),rfl⟩⟩
  have bl:=bay_len hb
  rw[Bool.not_true,cond_f,(size_pv hb).1,(size_pv hb).2,gd_tt]
  dsimp only
  rw[wi64 (n:=(Sp.hlf b:Int)-564) (by omega) (by omega)]
  have r:=pv_40 _ _ (right_ok hh ((Sp.hlf b:Int)-564))
  rw[r.1,r.2,gd_tt]
  dsimp only
  cases hr:Sp.rgt h ((Sp.hlf b:Int)-564)
  ·exact⟨_,rfl,.inl ⟨(fun a=>by rw[hr]at a;cases a.2.2),rfl⟩⟩
  have V:=iv_init hb hw hp hh hl l1 hr
  have bg:=bgn_pv (d:=Sp.zD) (b:=b) (h:=h) (p:=p) h32z hh hw hby
  rw[Bool.not_true,cond_f,cond_nff hl,new_pv.1,new_pv.2,gd_tt]
  dsimp only
  rw[bg.1,bg.2,gd_tt]
  obtain⟨j,V2,hj⟩:=lpr_iv 4 0 _ V (by omega)
  have V2:IV (Sp.hlf b) h w j (Sp.all b h w p):=V2
  have fin:∀(y36:Int×Unit)(y37:List Int×Unit)(y39:PwT),∃v,B_23_0 (J_23_0 (Sp.all b h w p).2.1 (Sp.all b h w p).2.2.1 y36 y37 [] [] y39 (Sp.all b h w p).1 (Sp.all b h w p).2.2.2.1) (fun y45 y46 y47=>some ((v_19 y47 y45 y46).2.1,(v_19 y47 y45 y46).2.2.1,(v_19 y47 y45 y46).2.2.2.1,())) (fun y48 y49 y50=>some (y48,y49,y50,()))=some v/\InsV b h w p v:=by
   intro y36 y37 y39
   unfold J_23_0 S_23_0
   by_cases e:(Sp.all b h w p).2.2.2.1=0
   ·obtain⟨_,r,f,_,_⟩:=fin_ex V2 e (hj e)
    rw[cond_ett e,f.1,gd_tt]
    exact⟨_,rfl,.inr ⟨⟨hb,hp,hr⟩,by rw[if_pos e]⟩⟩
   ·rw[cond_eff e]
    exact⟨_,rfl,.inr ⟨⟨hb,hp,hr⟩,by rw[if_neg e]⟩⟩
  obtain⟨q,hq⟩:=il h (0,()) (replicate 32 0,()) (0,0,()) 4 4611686018427387904 0 _ V (by omega) (by omega)
  rcases hq with hq|hq
  ·obtain⟨v,h1,h2⟩:=fin (0,()) (replicate 32 0,()) (0,0,())
   exact⟨v,(congrArg (fun z=>B_23_108_0_0 z _ _) hq).trans h1,h2⟩
  ·obtain⟨v,h1,h2⟩:=fin (0,()) (replicate 32 0,()) (0,0,())
   exact⟨v,(congrArg (fun z=>B_23_108_0_0 z _ _) hq).trans h1,h2⟩
 obtain⟨v,h1,h2⟩:=key
 exact⟨v,pv_23 b h w p h1,h2⟩
set_option maxRecDepth 100000
set_option maxHeartbeats 4000000
theorem bvk(b:BitVec 32):BitVec.ofInt 32 (wrap .u32 ((b.toNat:Nat):Int))=b:=by
 rw[u32_wrap_nat b.isLt]
 apply BitVec.eq_of_toNat_eq
 rw[ofInt_nat b.isLt]
theorem or_full(x:Int):Sp.orI .u32 x 4294967295=4294967295:=by
 show wrap .u32 (((BitVec.ofInt 32 x|||BitVec.ofInt 32 4294967295).toNat:Nat):Int)=4294967295
 rw[show BitVec.ofInt 32 4294967295=BitVec.allOnes 32 from by decide,BitVec.or_allOnes]
 rfl
theorem pr_full{w:Int}(h0:0<=w)(h1:w<4294967296):Sp.andnI .u32 4294967295 (Sp.andnI .u32 4294967295 w)=w:=by
 show wrap .u32 (((BitVec.ofInt 32 4294967295&&& ~~~ BitVec.ofInt 32 (wrap .u32 (((BitVec.ofInt 32 4294967295&&& ~~~ BitVec.ofInt 32 w).toNat:Nat):Int))).toNat:Nat):Int)=w
 obtain⟨k,rfl⟩:=Int.eq_ofNat_of_zero_le h0
 rw[bvk,show BitVec.ofInt 32 4294967295=BitVec.allOnes 32 from by decide,BitVec.allOnes_and,BitVec.allOnes_and,BitVec.not_not,ofInt_nat (by omega),u32_wrap_nat (by omega)]
noncomputable def WL(l:List Int):Prop:=∀x∈l,0<=x/\x<4294967296
noncomputable def PZ(s:RsT):Prop:=s.2.2.1=18->s.2.1.1=0
theorem prg_z(f:FlT)(k:Nat)(w:Int)(p:PwT):PZ (Sp.prg f k w p):=by
 unfold PZ Sp.prg
 split
 ·rename_i h;intro _;exact h
 split
 ·intro _;rfl
 ·intro h;exact absurd h (show ¬(0:Int)=18 by decide)
theorem ers_z(f:FlT)(k:Nat)(p:PwT):PZ (Sp.ers f k p):=by
 unfold PZ Sp.ers
 split
 ·intro h;exact absurd h (show ¬(19:Int)=18 by decide)
 split
 ·rename_i h;intro _;exact h
 split
 ·intro _;rfl
 ·intro h;exact absurd h (show ¬(0:Int)=18 by decide)
theorem plo_z:∀(l:List Int)(a:Nat){s:RsT},PZ s->PZ (Sp.plo l a s)
 |[],_,_,h=>h
 |x::l,a,s,h=>by
  rw[Sp.plo]
  split
  ·exact plo_z l (a+1) (prg_z _ _ _ _)
  ·exact h
theorem elo_z:∀(n k:Nat){s:RsT},PZ s->PZ (Sp.elo n k s)
 |0,_,_,h=>h
 |n+1,k,s,h=>by
  rw[Sp.elo]
  split
  ·exact elo_z n (k+1) (ers_z _ _ _)
  ·exact h
theorem prg_o{f:FlT}{k:Nat}{w:Int}{p:PwT}{i:Nat}(h:i≠k):(Sp.prg f k w p).1.1.getD i 0=f.1.getD i 0:=by
 have q:∀b,(Sp.pw f k w b).1.getD i 0=f.1.getD i 0:=fun b=>by
  unfold Sp.pw
  dsimp only
  rw[List.getD_eq_getElem?_getD,List.getElem?_set_ne (Ne.symm h),<-List.getD_eq_getElem?_getD]
 unfold Sp.prg
 split
 ·rfl
 split
 ·exact q _
 ·exact q _
theorem plo_o:∀(l:List Int)(a:Nat)(s:RsT)(i:Nat),i<a\/a+l.length<=i->(Sp.plo l a s).1.1.getD i 0=s.1.1.getD i 0
 |[],_,_,_,_=>rfl
 |x::l,a,s,i,h=>by
  rw[List.length_cons]at h
  rw[Sp.plo]
  split
  ·rw[plo_o l (a+1) _ i (by omega)]
   exact prg_o (by omega)
  ·rfl
theorem elo_o{f0:FlT}:∀(n k:Nat){s:RsT},EG f0 k s->k+n<=f0.2.1.length->(∀i,k<=i->i<k+n->f0.2.1.getD i 0≠f0.2.2.1)->∀i,i<f0.1.length->i<64*k\/64*(k+n)<=i->(Sp.elo n k s).1.1.getD i 0=s.1.1.getD i 0
 |0,_,_,_,_,_,_,_,_=>rfl
 |n+1,k,s,g,hl,hw,i,hi,ho=>by
  have hk:=hw k (Nat.le_refl _) (by omega)
  have g2:=ers_g g (by omega) hk
  have gl:=g.l
  have gr:s.1.2.2.1=f0.2.2.1:=by rw[g.r]
  rw[Sp.elo]
  split
  ·rw[elo_o n (k+1) g2 (by omega) (fun i h1 h2=>hw i (by omega) (by omega)) i hi (by omega)]
   have q:∀b,(Sp.ew s.1 k b).1.getD i 0=s.1.1.getD i 0:=fun b=>by
    have:=orW_get s.1.1 (k*64) b 64 i (by omega)
    rw[if_neg (by omega)]at this
    exact this
   unfold Sp.ers
   rw[if_neg (by rw[g.q k (Nat.le_refl _),gr];exact hk)]
   split
   ·rfl
   split
   ·exact q _
   ·exact q _
  ·rfl
theorem plo_e{f0:FlT}:∀(l:List Int)(a:Nat){s:RsT},PG f0 s->s.2.2.1=0->WL l->a+l.length<=f0.1.length->(∀i,a<=i->i<a+l.length->s.1.1.getD i 0=4294967295)->(Sp.plo l a s).2.2.1=0->
 ∀i,(Sp.plo l a s).1.1.getD i 0=if a<=i/\i<a+l.length then l.getD (i-a) 0 else s.1.1.getD i 0
 |[],a,s,g,e,hw,hl,hb,h0,i=>by rw[List.length_nil,if_neg (by omega)];rfl
 |x::l,a,s,g,e,hw,hl,hb,h0,i=>by
  rw[List.length_cons]at hl hb⊢
  have gl:=g.l
  have hx:=hw x (List.mem_cons_self ..)
  have g2:=prg_g g a x
  rw[Sp.plo,if_pos e]at h0⊢
  have e2:(Sp.prg s.1 a x s.2.1).2.2.1=0:=by
   rcases g2.e with z|z
   ·exact z
   ·rw[plo_stop _ _ (by rw[z];decide),z]at h0
    exact absurd h0 (by decide)
  have er:(Sp.prg s.1 a x s.2.1).1.1=s.1.1.set a x:=by
   revert e2
   unfold Sp.prg
   split
   ·intro z;exact absurd z (show ¬(18:Int)=0 by decide)
   split
   ·intro z;exact absurd z (show ¬(18:Int)=0 by decide)
   ·intro _
    unfold Sp.pw
    dsimp only
    rw[hb a (Nat.le_refl _) (by omega),pr_full hx.1 hx.2]
  have gs:∀i,(s.1.1.set a x).getD i 0=if a=i then x else s.1.1.getD i 0:=fun i=>getD_set _ _ _ _ _ (by omega)
  rw[plo_e l (a+1) g2 e2 (fun y hy=>hw y (List.mem_cons_of_mem _ hy)) (by omega) (fun i h1 h2=>by rw[er,gs,if_neg (by omega)];exact hb i (by omega) (by omega)) h0 i,er,gs]
  by_cases c:a+1<=i/\i<a+1+l.length
  ·rw[if_pos c,if_pos (by omega),show i-a=(i-(a+1))+1 by omega]
   rfl
  ·rw[if_neg c]
   by_cases c2:a=i
   ·rw[if_pos c2,if_pos (by omega),<-c2,Nat.sub_self]
    rfl
   ·rw[if_neg c2,if_neg (by omega)]
theorem elo_e{f0:FlT}:∀(n k:Nat){s:RsT},EG f0 k s->s.2.2.1=0->k+n<=f0.2.1.length->(∀i,k<=i->i<k+n->f0.2.1.getD i 0≠f0.2.2.1)->(Sp.elo n k s).2.2.1=0->
 ∀i,i<f0.1.length->64*k<=i->i<64*(k+n)->(Sp.elo n k s).1.1.getD i 0=4294967295
 |0,k,s,g,e,hl,hw,h0,i,hi,h1,h2=>by omega
 |n+1,k,s,g,e,hl,hw,h0,i,hi,h1,h2=>by
  have hk:=hw k (Nat.le_refl _) (by omega)
  have g2:=ers_g g (by omega) hk
  have gl:=g.l
  have gr:s.1.2.2.1=f0.2.2.1:=by rw[g.r]
  rw[Sp.elo,if_pos e]at h0⊢
  have e2:(Sp.ers s.1 k s.2.1).2.2.1=0:=by
   rcases g2.e with z|z
   ·exact z
   ·rw[elo_stop _ _ (by rw[z];decide),z]at h0
    exact absurd h0 (by decide)
  by_cases c:64*(k+1)<=i
  ·exact elo_e n (k+1) g2 e2 (by omega) (fun i h1 h2=>hw i (by omega) (by omega)) h0 i hi c (by omega)
  rw[elo_o n (k+1) g2 (by omega) (fun i h1 h2=>hw i (by omega) (by omega)) i hi (by omega)]
  revert e2
  unfold Sp.ers
  rw[if_neg (by rw[g.q k (Nat.le_refl _),gr];exact hk)]
  split
  ·intro z;exact absurd z (show ¬(18:Int)=0 by decide)
  split
  ·intro z;exact absurd z (show ¬(18:Int)=0 by decide)
  ·intro _
   have:=orW_get s.1.1 (k*64) 4294967295 64 i (by omega)
   rw[if_pos (by omega),or_full]at this
   exact this
end Go.Ev
