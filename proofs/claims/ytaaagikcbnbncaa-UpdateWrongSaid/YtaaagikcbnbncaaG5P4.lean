/- Helpers: functions of the program as Lean functions, and what they compute. No condition. -/
import Derived.Test.YtaaagikcbnbncaaE5P4
import Derived.Test.YtaaagikcbnbncaaG5P1
import Derived.Test.YtaaagikcbnbncaaG5P2
set_option maxRecDepth 10000
set_option linter.unusedVariables false
set_option linter.unusedSimpArgs false
open Go.IntKind (wrap i64 i32 i16 i8 u64 u32 u16 u8)
open List (getD length take drop replicate)
open Int (toNat)
open Go.Ev.Sp
set_option linter.unusedSimpArgs false
set_option linter.unusedVariables false
namespace Go.Ev
open Go
set_option maxRecDepth 100000
set_option maxHeartbeats 4000000
namespace Sp
noncomputable def rotr(x:Int)(n:Nat):Int:=orI .u32 (x.fdiv (2^n)) (wrap .u32 (x*2^(32-n)))
noncomputable def wat(b:List Int)(i:Nat):Int:=orI .u32 (orI .u32 (orI .u32 (wrap .u32 (wrap .u32 (b.getD i 0)*16777216)) (wrap .u32 (wrap .u32 (b.getD (i+1) 0)*65536))) (wrap .u32 (wrap .u32 (b.getD (i+2) 0)*256))) (wrap .u32 (b.getD (i+3) 0))
end Sp
theorem orI_comm(k:IntKind)(a b:Int):Sp.orI k a b=Sp.orI k b a:=by unfold Sp.orI;rw[BitVec.or_comm]
theorem word_ok(b:List Int)(h:4<=b.length):F_100 b=some (Sp.wat b 0,()):=by
 unfold F_100
 simp (disch:=first|omega|(simp only[List.length_drop,List.length_take,List.length_set,List.length_append,List.length_replicate,List.length_cons,List.length_nil];omega)) only[gd_and,gd_tt,gd_dec,gd_beq,gd_inB,gd_sl3,gd_room,cond_dtt,cond_dff,cond_ett,cond_eff,cond_ntt,cond_nff,cond_t,cond_f,wi64,Int.toNat_natCast]
 rfl
theorem word_pv(b:List Int)(h:4<=b.length):p_100 b=true/\v_100 b=(Sp.wat b 0,()):=pv_100 b (word_ok b h)
theorem p_word(b:List Int)(h:4<=b.length):p_100 b=true:=(word_pv b h).1
theorem v_word(b:List Int)(h:4<=b.length):v_100 b=(Sp.wat b 0,()):=(word_pv b h).2
theorem wat_drop(b:List Int)(i j:Nat):Sp.wat (b.drop i) j=Sp.wat b (i+j):=by
 unfold Sp.wat
 simp only[List.getD_eq_getElem?_getD,List.getElem?_drop,Nat.add_assoc]
theorem wat_take(b:List Int)(n j:Nat)(h:j+4<=n):Sp.wat (b.take n) j=Sp.wat b j:=by
 unfold Sp.wat
 simp only[List.getD_eq_getElem?_getD,List.getElem?_take]
 simp only[show j<n by omega,show j+1<n by omega,show j+2<n by omega,show j+3<n by omega,if_true]
theorem turn_pv(x:Int)(n:Nat)(h0:n<=32):p_107 x n=true/\v_107 x n=(Sp.rotr x n,()):=by
 refine pv_107 x n ?_
 unfold F_107 Sp.rotr
 rw[wu64 (by omega) (by omega)]
 simp (disch:=first|omega|(simp only[List.length_drop,List.length_take,List.length_set,List.length_append,List.length_replicate,List.length_cons,List.length_nil];omega)) only[gd_and,gd_tt,gd_dec,gd_beq,gd_inB,gd_sl3,gd_room,cond_dtt,cond_dff,cond_ett,cond_eff,cond_ntt,cond_nff,cond_t,cond_f,wi64,Int.toNat_natCast]
 rw[show(32-(n:Int)).toNat=32-n by omega,nmin_l (by omega),nmin_l (by omega)]
theorem rot_aux(x n:Int)(m:Nat)(h:(Sp.andI .u64 (wrap .u64 (wrap .i64 (0-n))) 31)=((32-m:Nat):Int))(h1:m<=32):p_127 x n=true/\v_127 x n=(Sp.rotr x m,()):=by
 have h2:p_128 x (wrap .i64 (0-n))=true/\v_128 x (wrap .i64 (0-n))=(Sp.rotr x m,()):=by
  refine pv_128 _ _ ?_
  unfold F_128 Sp.rotr
  rw[h,wu64 (by omega) (by omega)]
  simp (disch:=first|omega|(simp only[List.length_drop,List.length_take,List.length_set,List.length_append,List.length_replicate,List.length_cons,List.length_nil];omega)) only[gd_and,gd_tt,gd_dec,gd_beq,gd_inB,gd_sl3,gd_room,cond_dtt,cond_dff,cond_ett,cond_eff,cond_ntt,cond_nff,cond_t,cond_f,wi64,Int.toNat_natCast]
  rw[show(32-(((32-m:Nat)):Int)).toNat=m by omega,nmin_l (by omega),nmin_l (by omega),orI_comm]
 refine pv_127 x n ?_
 unfold F_127
 rw[h2.1,h2.2];rfl
theorem right7(x:Int):p_127 x 7=true/\v_127 x 7=(Sp.rotr x 7,()):=rot_aux x 7 7 (by kernel_rfl) (by decide)
theorem right18(x:Int):p_127 x 18=true/\v_127 x 18=(Sp.rotr x 18,()):=rot_aux x 18 18 (by kernel_rfl) (by decide)
theorem right17(x:Int):p_127 x 17=true/\v_127 x 17=(Sp.rotr x 17,()):=rot_aux x 17 17 (by kernel_rfl) (by decide)
theorem right19(x:Int):p_127 x 19=true/\v_127 x 19=(Sp.rotr x 19,()):=rot_aux x 19 19 (by kernel_rfl) (by decide)
theorem right6(x:Int):p_127 x 6=true/\v_127 x 6=(Sp.rotr x 6,()):=rot_aux x 6 6 (by kernel_rfl) (by decide)
theorem right11(x:Int):p_127 x 11=true/\v_127 x 11=(Sp.rotr x 11,()):=rot_aux x 11 11 (by kernel_rfl) (by decide)
theorem right25(x:Int):p_127 x 25=true/\v_127 x 25=(Sp.rotr x 25,()):=rot_aux x 25 25 (by kernel_rfl) (by decide)
theorem right2(x:Int):p_127 x 2=true/\v_127 x 2=(Sp.rotr x 2,()):=rot_aux x 2 2 (by kernel_rfl) (by decide)
theorem right13(x:Int):p_127 x 13=true/\v_127 x 13=(Sp.rotr x 13,()):=rot_aux x 13 13 (by kernel_rfl) (by decide)
theorem right22(x:Int):p_127 x 22=true/\v_127 x 22=(Sp.rotr x 22,()):=rot_aux x 22 22 (by kernel_rfl) (by decide)
theorem turn7(x:Int):p_107 x 7=true/\v_107 x 7=(Sp.rotr x 7,()):=turn_pv x 7 (by decide)
theorem turn18(x:Int):p_107 x 18=true/\v_107 x 18=(Sp.rotr x 18,()):=turn_pv x 18 (by decide)
theorem turn17(x:Int):p_107 x 17=true/\v_107 x 17=(Sp.rotr x 17,()):=turn_pv x 17 (by decide)
theorem turn19(x:Int):p_107 x 19=true/\v_107 x 19=(Sp.rotr x 19,()):=turn_pv x 19 (by decide)
theorem turn6(x:Int):p_107 x 6=true/\v_107 x 6=(Sp.rotr x 6,()):=turn_pv x 6 (by decide)
theorem turn11(x:Int):p_107 x 11=true/\v_107 x 11=(Sp.rotr x 11,()):=turn_pv x 11 (by decide)
theorem turn25(x:Int):p_107 x 25=true/\v_107 x 25=(Sp.rotr x 25,()):=turn_pv x 25 (by decide)
theorem turn2(x:Int):p_107 x 2=true/\v_107 x 2=(Sp.rotr x 2,()):=turn_pv x 2 (by decide)
theorem turn13(x:Int):p_107 x 13=true/\v_107 x 13=(Sp.rotr x 13,()):=turn_pv x 13 (by decide)
theorem turn22(x:Int):p_107 x 22=true/\v_107 x 22=(Sp.rotr x 22,()):=turn_pv x 22 (by decide)
set_option maxRecDepth 100000
set_option maxHeartbeats 4000000
namespace Sp
noncomputable def w0(b:List Int):List Int:=foldB (fun j a=>a.set j (wat b (4*j))) 0 16 (replicate 64 0)
noncomputable def stW(j:Nat)(a:List Int):List Int:=a.set j (wrap .u32 (wrap .u32 (wrap .u32 (xorI .u32 (xorI .u32 (rotr (a.getD (j-2) 0) 17) (rotr (a.getD (j-2) 0) 19)) (Int.fdiv (a.getD (j-2) 0) 1024)+a.getD (j-7) 0)+xorI .u32 (xorI .u32 (rotr (a.getD (j-15) 0) 7) (rotr (a.getD (j-15) 0) 18)) (Int.fdiv (a.getD (j-15) 0) 8))+a.getD (j-16) 0))
noncomputable def w1(b:List Int):List Int:=foldB stW 16 48 (w0 b)
noncomputable def t1(k w:List Int)(j:Nat)(s:List Int):Int:=wrap .u32 (wrap .u32 (wrap .u32 (wrap .u32 (s.getD 7 0+xorI .u32 (xorI .u32 (rotr (s.getD 4 0) 6) (rotr (s.getD 4 0) 11)) (rotr (s.getD 4 0) 25))+xorI .u32 (andI .u32 (s.getD 4 0) (s.getD 5 0)) (andI .u32 (xorI .u32 4294967295 (s.getD 4 0)) (s.getD 6 0)))+k.getD j 0)+w.getD j 0)
noncomputable def t2(s:List Int):Int:=wrap .u32 (xorI .u32 (xorI .u32 (rotr (s.getD 0 0) 2) (rotr (s.getD 0 0) 13)) (rotr (s.getD 0 0) 22)+xorI .u32 (xorI .u32 (andI .u32 (s.getD 0 0) (s.getD 1 0)) (andI .u32 (s.getD 0 0) (s.getD 2 0))) (andI .u32 (s.getD 1 0) (s.getD 2 0)))
noncomputable def stR(k w:List Int)(j:Nat)(s:List Int):List Int:=[wrap .u32 (t1 k w j s+t2 s),s.getD 0 0,s.getD 1 0,s.getD 2 0,wrap .u32 (s.getD 3 0+t1 k w j s),s.getD 4 0,s.getD 5 0,s.getD 6 0]
noncomputable def rnds(k w s:List Int):List Int:=foldB (stR k w) 0 64 s
noncomputable def addS(s v:List Int):List Int:=foldB (fun j s=>s.set j (wrap .u32 (s.getD j 0+v.getD j 0))) 0 8 s
noncomputable def blk(k s b:List Int):List Int:=addS s (rnds k (w1 b) s)
end Sp
theorem foldB_len{f:Nat->List Int->List Int}(h:∀j a,(f j a).length=a.length):∀d j a,(foldB f j d a).length=a.length
 |0,_,_=>rfl
 |d+1,j,a=>by rw[foldB,foldB_len h d,h]
theorem w0_len(b:List Int):(Sp.w0 b).length=64:=by unfold Sp.w0;rw[foldB_len (fun j a=>by simp)];simp
theorem i_w0(m:Nat)(hm:16<m)(b p2 p3 p4:List Int)(hb:b.length=64):L_110_121_0_0 m b 0 p2 p3 p4 (replicate 64 0)=some (.e0 p2 p3 p4 (Sp.w0 b)):=by
 refine(cnt0 (fun m j a=>L_110_121_0_0 m b j p2 p3 p4 a) (n:=16) (inv:=fun _ a=>a.length=64) (step:=fun j a=>a.set j (Sp.wat b (4*j))) (ex:=fun a=>some (.e0 p2 p3 p4 a)) (m:=m) (by simp) hm ?_ ?_ ?_)
 ·intro m j a hj ha
  show L_110_121_0_0 (m+1) b j p2 p3 p4 a=_
  rw[L_110_121_0_0,S_110_121_0_0]
  have h1:(4*(j:Int)).toNat=4*j:=by omega
  simp (disch:=first|omega|(simp only[List.length_drop,List.length_take,List.length_set,List.length_append,List.length_replicate,List.length_cons,List.length_nil];omega)) only[gd_and,gd_tt,gd_dec,gd_beq,gd_inB,gd_sl3,gd_room,cond_dtt,cond_dff,cond_ett,cond_eff,cond_ntt,cond_nff,cond_t,cond_f,wi64,Int.toNat_natCast,h1,p_word,v_word,wat_drop,Nat.add_zero]
  rfl
 ·intro j a hj ha;simpa using ha
 ·intro m a ha
  show L_110_121_0_0 (m+1) b 16 p2 p3 p4 a=_
  rw[L_110_121_0_0,S_110_121_0_0,cond_dff (by decide)]
theorem i_w1(m:Nat)(hm:48<m)(b p1 p2 p3:List Int):L_110_121_1_0 m 16 p1 p2 p3 (Sp.w0 b)=some (.e0 p1 p2 p3 (Sp.w1 b)):=by
 refine(cnt_loop (fun m j a=>L_110_121_1_0 m j p1 p2 p3 a) (n:=64) (inv:=fun j a=>a.length=64/\16<=j) (step:=Sp.stW) (ex:=fun a=>some (.e0 p1 p2 p3 a)) ?_ ?_ ?_ 48 m 16 (Sp.w0 b) (by omega) ⟨w0_len b,by omega⟩ hm)
 ·intro m j a hj ⟨ha,hj16⟩
  show L_110_121_1_0 (m+1) j p1 p2 p3 a=_
  rw[L_110_121_1_0,S_110_121_1_0]
  have h1:((j:Int)-15).toNat=j-15:=by omega
  have h2:((j:Int)-2).toNat=j-2:=by omega
  have h3:((j:Int)-7).toNat=j-7:=by omega
  have h4:((j:Int)-16).toNat=j-16:=by omega
  simp (disch:=first|omega|(simp only[List.length_drop,List.length_take,List.length_set,List.length_append,List.length_replicate,List.length_cons,List.length_nil];omega)) only[gd_and,gd_tt,gd_dec,gd_beq,gd_inB,gd_sl3,gd_room,cond_dtt,cond_dff,cond_ett,cond_eff,cond_ntt,cond_nff,cond_t,cond_f,wi64,Int.toNat_natCast,h1,h2,h3,h4,right7,right18,right17,right19]
  rfl
 ·intro j a hj ⟨ha,hj16⟩;exact⟨by simpa[Sp.stW]using ha,by omega⟩
 ·intro m a ⟨ha,_⟩
  show L_110_121_1_0 (m+1) 64 p1 p2 p3 a=_
  rw[L_110_121_1_0,S_110_121_1_0,cond_dff (by decide)]
theorem i_rn(m:Nat)(hm:64<m)(p1 p2 k w s:List Int):L_110_121_2_0 m 0 p1 p2 k w s=some (.e0 p1 p2 k (Sp.rnds k w s)):=by
 refine(cnt0 (fun m j a=>L_110_121_2_0 m j p1 p2 k w a) (n:=64) (inv:=fun _ _=>True) (step:=Sp.stR k w) (ex:=fun a=>some (.e0 p1 p2 k a)) (m:=m) trivial hm ?_ ?_ ?_)
 ·intro m j a hj _
  show L_110_121_2_0 (m+1) j p1 p2 k w a=_
  rw[L_110_121_2_0,S_110_121_2_0]
  simp (disch:=first|omega|(simp only[List.length_drop,List.length_take,List.length_set,List.length_append,List.length_replicate,List.length_cons,List.length_nil];omega)) only[gd_and,gd_tt,gd_dec,gd_beq,gd_inB,gd_sl3,gd_room,cond_dtt,cond_dff,cond_ett,cond_eff,cond_ntt,cond_nff,cond_t,cond_f,wi64,Int.toNat_natCast,right6,right11,right25,right2,right13,right22]
  rfl
 ·intro j a hj _;trivial
 ·intro m a _
  show L_110_121_2_0 (m+1) 64 p1 p2 k w a=_
  rw[L_110_121_2_0,S_110_121_2_0,cond_dff (by decide)]
theorem i_ad(m:Nat)(hm:8<m)(p1 s k v:List Int):L_110_121_3_0 m 0 p1 s k v=some (.e0 p1 (Sp.addS s v) k):=by
 refine(cnt0 (fun m j a=>L_110_121_3_0 m j p1 a k v) (n:=8) (inv:=fun _ _=>True) (step:=fun j s=>s.set j (wrap .u32 (s.getD j 0+v.getD j 0))) (ex:=fun a=>some (.e0 p1 a k)) (m:=m) trivial hm ?_ ?_ ?_)
 ·intro m j a hj _
  show L_110_121_3_0 (m+1) j p1 a k v=_
  rw[L_110_121_3_0,S_110_121_3_0]
  simp (disch:=first|omega|(simp only[List.length_drop,List.length_take,List.length_set,List.length_append,List.length_replicate,List.length_cons,List.length_nil];omega)) only[gd_and,gd_tt,gd_dec,gd_beq,gd_inB,gd_sl3,gd_room,cond_dtt,cond_dff,cond_ett,cond_eff,cond_ntt,cond_nff,cond_t,cond_f,wi64,Int.toNat_natCast]
  rfl
 ·intro j a hj _;trivial
 ·intro m a _
  show L_110_121_3_0 (m+1) 8 p1 a k v=_
  rw[L_110_121_3_0,S_110_121_3_0,cond_dff (by decide)]
set_option maxRecDepth 100000
set_option maxHeartbeats 4000000
theorem j_w0(m:Nat)(hm:16<m)(o z:Nat)(p4 p5 p6 l:List Int)(ho:o+64<=128)(hl:l.length=128):L_110_121_0_1 m o 64 z 0 p4 p5 p6 l (replicate 64 0)=some (.e0 p4 p5 p6 l (Sp.w0 ((l.drop o).take 64))):=by
 refine(cnt0 (fun m j a=>L_110_121_0_1 m o 64 z j p4 p5 p6 l a) (n:=16) (inv:=fun _ a=>a.length=64) (step:=fun j a=>a.set j (Sp.wat ((l.drop o).take 64) (4*j))) (ex:=fun a=>some (.e0 p4 p5 p6 l a)) (m:=m) (by simp) hm ?_ ?_ ?_)
 ·intro m j a hj ha
  show L_110_121_0_1 (m+1) o 64 z j p4 p5 p6 l a=_
  rw[L_110_121_0_1,S_110_121_0_1]
  have h1:(4*(j:Int)).toNat=4*j:=by omega
  have h2:((64:Nat):Int).toNat=64:=rfl
  simp (disch:=first|omega|(simp only[List.length_drop,List.length_take,List.length_set,List.length_append,List.length_replicate,List.length_cons,List.length_nil];omega)) only[gd_and,gd_tt,gd_dec,gd_beq,gd_inB,gd_sl3,gd_room,cond_dtt,cond_dff,cond_ett,cond_eff,cond_ntt,cond_nff,cond_t,cond_f,wi64,Int.toNat_natCast,h1,h2,p_word,v_word,wat_take,wat_drop,Nat.add_zero]
  rfl
 ·intro j a hj ha;simpa using ha
 ·intro m a ha
  show L_110_121_0_1 (m+1) o 64 z 16 p4 p5 p6 l a=_
  rw[L_110_121_0_1,S_110_121_0_1,cond_dff (by decide)]
theorem j_w1(m:Nat)(hm:48<m)(b p1 p2 p3 l:List Int):L_110_121_1_1 m 16 p1 p2 p3 l (Sp.w0 b)=some (.e0 p1 p2 p3 l (Sp.w1 b)):=by
 refine(cnt_loop (fun m j a=>L_110_121_1_1 m j p1 p2 p3 l a) (n:=64) (inv:=fun j a=>a.length=64/\16<=j) (step:=Sp.stW) (ex:=fun a=>some (.e0 p1 p2 p3 l a)) ?_ ?_ ?_ 48 m 16 (Sp.w0 b) (by omega) ⟨w0_len b,by omega⟩ hm)
 ·intro m j a hj ⟨ha,hj16⟩
  show L_110_121_1_1 (m+1) j p1 p2 p3 l a=_
  rw[L_110_121_1_1,S_110_121_1_1]
  have h1:((j:Int)-15).toNat=j-15:=by omega
  have h2:((j:Int)-2).toNat=j-2:=by omega
  have h3:((j:Int)-7).toNat=j-7:=by omega
  have h4:((j:Int)-16).toNat=j-16:=by omega
  simp (disch:=first|omega|(simp only[List.length_drop,List.length_take,List.length_set,List.length_append,List.length_replicate,List.length_cons,List.length_nil];omega)) only[gd_and,gd_tt,gd_dec,gd_beq,gd_inB,gd_sl3,gd_room,cond_dtt,cond_dff,cond_ett,cond_eff,cond_ntt,cond_nff,cond_t,cond_f,wi64,Int.toNat_natCast,h1,h2,h3,h4,right7,right18,right17,right19]
  rfl
 ·intro j a hj ⟨ha,hj16⟩;exact⟨by simpa[Sp.stW]using ha,by omega⟩
 ·intro m a ⟨ha,_⟩
  show L_110_121_1_1 (m+1) 64 p1 p2 p3 l a=_
  rw[L_110_121_1_1,S_110_121_1_1,cond_dff (by decide)]
theorem j_rn(m:Nat)(hm:64<m)(p1 p2 k l w s:List Int):L_110_121_2_1 m 0 p1 p2 k l w s=some (.e0 p1 p2 k l (Sp.rnds k w s)):=by
 refine(cnt0 (fun m j a=>L_110_121_2_1 m j p1 p2 k l w a) (n:=64) (inv:=fun _ _=>True) (step:=Sp.stR k w) (ex:=fun a=>some (.e0 p1 p2 k l a)) (m:=m) trivial hm ?_ ?_ ?_)
 ·intro m j a hj _
  show L_110_121_2_1 (m+1) j p1 p2 k l w a=_
  rw[L_110_121_2_1,S_110_121_2_1]
  simp (disch:=first|omega|(simp only[List.length_drop,List.length_take,List.length_set,List.length_append,List.length_replicate,List.length_cons,List.length_nil];omega)) only[gd_and,gd_tt,gd_dec,gd_beq,gd_inB,gd_sl3,gd_room,cond_dtt,cond_dff,cond_ett,cond_eff,cond_ntt,cond_nff,cond_t,cond_f,wi64,Int.toNat_natCast,right6,right11,right25,right2,right13,right22]
  rfl
 ·intro j a hj _;trivial
 ·intro m a _
  show L_110_121_2_1 (m+1) 64 p1 p2 k l w a=_
  rw[L_110_121_2_1,S_110_121_2_1,cond_dff (by decide)]
theorem j_ad(m:Nat)(hm:8<m)(p1 s k l v:List Int):L_110_121_3_1 m 0 p1 s k l v=some (.e0 p1 (Sp.addS s v) k l):=by
 refine(cnt0 (fun m j a=>L_110_121_3_1 m j p1 a k l v) (n:=8) (inv:=fun _ _=>True) (step:=fun j s=>s.set j (wrap .u32 (s.getD j 0+v.getD j 0))) (ex:=fun a=>some (.e0 p1 a k l)) (m:=m) trivial hm ?_ ?_ ?_)
 ·intro m j a hj _
  show L_110_121_3_1 (m+1) j p1 a k l v=_
  rw[L_110_121_3_1,S_110_121_3_1]
  simp (disch:=first|omega|(simp only[List.length_drop,List.length_take,List.length_set,List.length_append,List.length_replicate,List.length_cons,List.length_nil];omega)) only[gd_and,gd_tt,gd_dec,gd_beq,gd_inB,gd_sl3,gd_room,cond_dtt,cond_dff,cond_ett,cond_eff,cond_ntt,cond_nff,cond_t,cond_f,wi64,Int.toNat_natCast]
  rfl
 ·intro j a hj _;trivial
 ·intro m a _
  show L_110_121_3_1 (m+1) 8 p1 a k l v=_
  rw[L_110_121_3_1,S_110_121_3_1,cond_dff (by decide)]
theorem r_w0(m:Nat)(hm:16<m)(b p2 p3:List Int)(hb:b.length=64):L_81_0 m b 0 p2 p3 (replicate 64 0)=some (.e0 p2 p3 (Sp.w0 b)):=by
 refine(cnt0 (fun m j a=>L_81_0 m b j p2 p3 a) (n:=16) (inv:=fun _ a=>a.length=64) (step:=fun j a=>a.set j (Sp.wat b (4*j))) (ex:=fun a=>some (.e0 p2 p3 a)) (m:=m) (by simp) hm ?_ ?_ ?_)
 ·intro m j a hj ha
  show L_81_0 (m+1) b j p2 p3 a=_
  rw[L_81_0,S_81_0]
  have h1:(4*(j:Int)).toNat=4*j:=by omega
  have h2:(4*(j:Int)+1).toNat=4*j+1:=by omega
  have h3:(4*(j:Int)+2).toNat=4*j+2:=by omega
  have h4:(4*(j:Int)+3).toNat=4*j+3:=by omega
  simp (disch:=first|omega|(simp only[List.length_drop,List.length_take,List.length_set,List.length_append,List.length_replicate,List.length_cons,List.length_nil];omega)) only[gd_and,gd_tt,gd_dec,gd_beq,gd_inB,gd_sl3,gd_room,cond_dtt,cond_dff,cond_ett,cond_eff,cond_ntt,cond_nff,cond_t,cond_f,wi64,Int.toNat_natCast,h1,h2,h3,h4]
  rfl
 ·intro j a hj ha;simpa using ha
 ·intro m a ha
  show L_81_0 (m+1) b 16 p2 p3 a=_
  rw[L_81_0,S_81_0,cond_dff (by decide)]
theorem r_w1(m:Nat)(hm:48<m)(b p1 p2:List Int):L_81_1 m 16 p1 p2 (Sp.w0 b)=some (.e0 p1 p2 (Sp.w1 b)):=by
 refine(cnt_loop (fun m j a=>L_81_1 m j p1 p2 a) (n:=64) (inv:=fun j a=>a.length=64/\16<=j) (step:=Sp.stW) (ex:=fun a=>some (.e0 p1 p2 a)) ?_ ?_ ?_ 48 m 16 (Sp.w0 b) (by omega) ⟨w0_len b,by omega⟩ hm)
 ·intro m j a hj ⟨ha,hj16⟩
  show L_81_1 (m+1) j p1 p2 a=_
  rw[L_81_1,S_81_1]
  have h1:((j:Int)-15).toNat=j-15:=by omega
  have h2:((j:Int)-2).toNat=j-2:=by omega
  have h3:((j:Int)-7).toNat=j-7:=by omega
  have h4:((j:Int)-16).toNat=j-16:=by omega
  simp (disch:=first|omega|(simp only[List.length_drop,List.length_take,List.length_set,List.length_append,List.length_replicate,List.length_cons,List.length_nil];omega)) only[gd_and,gd_tt,gd_dec,gd_beq,gd_inB,gd_sl3,gd_room,cond_dtt,cond_dff,cond_ett,cond_eff,cond_ntt,cond_nff,cond_t,cond_f,wi64,Int.toNat_natCast,h1,h2,h3,h4,turn7,turn18,turn17,turn19]
  rfl
 ·intro j a hj ⟨ha,hj16⟩;exact⟨by simpa[Sp.stW]using ha,by omega⟩
 ·intro m a ⟨ha,_⟩
  show L_81_1 (m+1) 64 p1 p2 a=_
  rw[L_81_1,S_81_1,cond_dff (by decide)]
theorem r_rn(m:Nat)(hm:64<m)(p1 p2 w k s:List Int):L_81_2 m 0 p1 p2 w k s=some (.e0 p1 p2 (Sp.rnds k w s)):=by
 refine(cnt0 (fun m j a=>L_81_2 m j p1 p2 w k a) (n:=64) (inv:=fun _ _=>True) (step:=Sp.stR k w) (ex:=fun a=>some (.e0 p1 p2 a)) (m:=m) trivial hm ?_ ?_ ?_)
 ·intro m j a hj _
  show L_81_2 (m+1) j p1 p2 w k a=_
  rw[L_81_2,S_81_2]
  simp (disch:=first|omega|(simp only[List.length_drop,List.length_take,List.length_set,List.length_append,List.length_replicate,List.length_cons,List.length_nil];omega)) only[gd_and,gd_tt,gd_dec,gd_beq,gd_inB,gd_sl3,gd_room,cond_dtt,cond_dff,cond_ett,cond_eff,cond_ntt,cond_nff,cond_t,cond_f,wi64,Int.toNat_natCast,turn6,turn11,turn25,turn2,turn13,turn22]
  rfl
 ·intro j a hj _;trivial
 ·intro m a _
  show L_81_2 (m+1) 64 p1 p2 w k a=_
  rw[L_81_2,S_81_2,cond_dff (by decide)]
theorem r_ad(m:Nat)(hm:8<m)(s p2 v:List Int):L_81_3 m 0 s p2 v=some (.e0 (Sp.addS s v) p2):=by
 refine(cnt0 (fun m j a=>L_81_3 m j a p2 v) (n:=8) (inv:=fun _ _=>True) (step:=fun j s=>s.set j (wrap .u32 (s.getD j 0+v.getD j 0))) (ex:=fun a=>some (.e0 a p2)) (m:=m) trivial hm ?_ ?_ ?_)
 ·intro m j a hj _
  show L_81_3 (m+1) j a p2 v=_
  rw[L_81_3,S_81_3]
  simp (disch:=first|omega|(simp only[List.length_drop,List.length_take,List.length_set,List.length_append,List.length_replicate,List.length_cons,List.length_nil];omega)) only[gd_and,gd_tt,gd_dec,gd_beq,gd_inB,gd_sl3,gd_room,cond_dtt,cond_dff,cond_ett,cond_eff,cond_ntt,cond_nff,cond_t,cond_f,wi64,Int.toNat_natCast]
  rfl
 ·intro j a hj _;trivial
 ·intro m a _
  show L_81_3 (m+1) 8 a p2 v=_
  rw[L_81_3,S_81_3,cond_dff (by decide)]
noncomputable def Sp.K64:List Int:=(v_120).1
theorem pq_32:p_120=true:=by kernel_rfl
theorem pq_51:p_108=true:=by kernel_rfl
theorem vq_51:(v_108).1=Sp.K64:=by kernel_rfl
theorem r_block(s b:List Int)(hb:b.length=64):F_81 s b=some (Sp.blk Sp.K64 s b,()):=by
 unfold F_81
 rw[r_w0 _ (by omega) b s _ hb]
 simp only[B_81_0]
 rw[r_w1 _ (by omega)]
 simp only[B_81_1]
 rw[pq_51,gd_tt,vq_51,r_rn _ (by omega)]
 simp only[B_81_2]
 rw[r_ad _ (by omega)]
 rfl
namespace Sp
noncomputable def shaS:Nat->List Int->List Int->List Int
 |0,_,s=>s
 |n+1,l,s=>shaS n (l.drop 64) (blk K64 s (l.take 64))
end Sp
theorem shaS_app:∀(n m:Nat)(l s:List Int),Sp.shaS (n+m) l s=Sp.shaS m (l.drop (64*n)) (Sp.shaS n l s)
 |0,m,l,s=>by simp[Sp.shaS]
 |n+1,m,l,s=>by
  rw[show n+1+m=(n+m)+1 by omega,Sp.shaS,Sp.shaS,shaS_app n m,List.drop_drop]
  rw[show 64+64*n=64*(n+1) by omega]
theorem shaS_congr:∀(n:Nat)(l l' s:List Int),l.take (64*n)=l'.take (64*n)->Sp.shaS n l s=Sp.shaS n l' s
 |0,_,_,_,_=>rfl
 |n+1,l,l',s,h=>by
  have h1:l.take 64=l'.take 64:=by
   have:=congrArg (take 64) h
   simpa[List.take_take,show min 64 (64*(n+1))=64 by omega]using this
  have h2:(l.drop 64).take (64*n)=(l'.drop 64).take (64*n):=by
   have:=congrArg (drop 64) h
   simpa[List.drop_take,show 64*(n+1)-64=64*n by omega]using this
  rw[Sp.shaS,Sp.shaS,h1,shaS_congr n _ _ _ h2]
theorem i_main:∀(q m:Nat)(b l o s:List Int),64*q<=l.length->l.length<64*q+64->q<m->l.length<4611686018427387904->L_110_0 m b l o s Sp.K64=some (.e0 b (l.drop (64*q)) o (Sp.shaS q l s) Sp.K64)
 |0,m+1,b,l,o,s,h1,h2,_,h4=>by
  rw[L_110_0,S_110_0,cond_dff (by omega)]
  simp[Sp.shaS]
 |q+1,m+1,b,l,o,s,h1,h2,h3,h4=>by
  rw[L_110_0,S_110_0,cond_dtt (by omega),gd_sl3 (by omega) (by omega) (by omega),List.drop_zero,i_w0 _ (by omega) _ _ _ _ (by simp;omega)]
  simp only[B_110_121_0_0]
  rw[i_w1 _ (by omega)]
  simp only[B_110_121_1_0]
  rw[i_rn _ (by omega)]
  simp only[B_110_121_2_0]
  rw[i_ad _ (by omega)]
  simp only[B_110_121_3_0]
  rw[gd_sl3 (by omega) (by omega) (by omega),i_main q m b (l.drop 64) o _ (by simp;omega) (by simp;omega) (by omega) (by simp;omega),List.drop_drop,Sp.shaS]
  rw[show 64+64*q=64*(q+1) by omega]
  rfl
theorem r_main:∀(q m j:Nat)(l o s:List Int),l.length=64*(j+q)->q<m->l.length<4611686018427387904->L_53_0 m l ((64*j:Nat):Int) o s=some (.e0 o (Sp.shaS q (l.drop (64*j)) s))
 |0,m+1,j,l,o,s,h1,_,h4=>by
  rw[L_53_0,S_53_0,cond_dff (by omega)]
  rfl
 |q+1,m+1,j,l,o,s,h1,h3,h4=>by
  have e1:(((64*j:Nat):Int)+64)=((64*(j+1):Nat):Int):=by omega
  have e2:64*(j+1)-64*j=64:=by omega
  rw[L_53_0,S_53_0,cond_dtt (by omega),wi64 (by omega) (by omega),gd_sl3 (by omega) (by omega) (by omega),e1,Int.toNat_natCast,Int.toNat_natCast,e2]
  have hb:=pv_81 _ _ (r_block s ((l.drop (64*j)).take 64) (by simp;omega))
  rw[hb.1,hb.2,gd_tt,r_main q m (j+1) l o _ (by omega) (by omega) h4,Sp.shaS,List.drop_drop]
  rfl
set_option maxRecDepth 100000
set_option maxHeartbeats 4000000
theorem j_main:∀(q m j:Nat)(o s l:List Int),j+q<=2->l.length=128->q<m->L_110_2 m ((64*(j+q):Nat):Int) ((64*j:Nat):Int) o s Sp.K64 l=some (.e0 o (Sp.shaS q (l.drop (64*j)) s))
 |0,m+1,j,o,s,l,h1,h2,_=>by
  rw[L_110_2,S_110_2,cond_dff (by omega)]
  rfl
 |q+1,m+1,j,o,s,l,h1,h2,h3=>by
  have e1:(((64*j:Nat):Int)+64)=((64*(j+1):Nat):Int):=by omega
  have e2:64*(j+1)-64*j=64:=by omega
  rw[L_110_2,S_110_2,cond_dtt (by omega),wi64 (by omega) (by omega),gd_sl3 (by omega) (by omega) (by omega),e1,Int.toNat_natCast,Int.toNat_natCast,e2,j_w0 _ (by omega) _ _ _ _ _ _ (by omega) h2]
  simp only[B_110_121_0_1]
  rw[j_w1 _ (by omega)]
  simp only[B_110_121_1_1]
  rw[j_rn _ (by omega)]
  simp only[B_110_121_2_1]
  rw[j_ad _ (by omega)]
  simp only[B_110_121_3_1]
  have:=j_main q m (j+1) o (Sp.addS s (Sp.rnds Sp.K64 (Sp.w1 ((l.drop (64*j)).take 64)) s)) l (by omega) h2 (by omega)
  rw[show j+1+q=j+(q+1) by omega]at this
  rw[this,Sp.shaS,List.drop_drop]
  rfl
theorem pad0:∀(c m:Nat)(b p:List Int),(p.length+c)%64=56->c<64->c<m->p.length+c<140737488300000->L_80_0 m b p=some (.e0 b (p++replicate c 0))
 |0,m+1,b,p,h1,_,_,_=>by
  have e:Int.tmod (p.length:Int) 64=((p.length%64:Nat):Int):=(Int.ofNat_tmod p.length 64).symm
  rw[L_80_0,S_80_0,e,cond_nff (by omega)]
  simp
 |c+1,m+1,b,p,h1,h2,h3,h4=>by
  have e:Int.tmod (p.length:Int) 64=((p.length%64:Nat):Int):=(Int.ofNat_tmod p.length 64).symm
  rw[L_80_0,S_80_0,e,cond_ntt (by omega),gd_room (by omega) (by omega),pad0 c m b (p++[0]) (by simp;omega) (by omega) (by omega) (by simp;omega),List.append_assoc]
  rfl
namespace Sp
noncomputable def szB(n:Int):List Int:=[wrap .u8 (Int.fdiv n (2^56)),wrap .u8 (Int.fdiv n (2^48)),wrap .u8 (Int.fdiv n (2^40)),wrap .u8 (Int.fdiv n (2^32)),wrap .u8 (Int.fdiv n (2^24)),wrap .u8 (Int.fdiv n (2^16)),wrap .u8 (Int.fdiv n (2^8)),wrap .u8 (Int.fdiv n (2^0))]
noncomputable def padB(b:List Int)(c:Nat):List Int:=b++[128]++replicate c 0++szB (b.length*8)
end Sp
theorem pad_step(m:Nat)(n:Int)(i:Nat)(hi:i<=56)(p:List Int)(hp:p.length<140737488300000):L_80_1 (m+1) n (i:Nat) p=L_80_1 m n ((i:Int)-8) (p++[wrap .u8 (Int.fdiv n (2^i))]):=by
 rw[L_80_1,S_80_1,cond_dtt (by omega),wu64 (by omega) (by omega),gd_dec (by omega),gd_room (by omega) (by omega),wi64 (by omega) (by omega),Int.toNat_natCast,nmin_l (by omega)]
theorem pad1(m:Nat)(hm:9<m)(n:Int)(p:List Int)(hp:p.length<140737488200000):L_80_1 m n 56 p=some (.e0 (p++Sp.szB n)):=by
 obtain⟨m,rfl⟩:∃k,m=k+9:=⟨m-9,by omega⟩
 have h:=pad_step (m+8) n 56 (by omega) p (by omega)
 have h2:=pad_step (m+7) n 48 (by omega) (p++[wrap .u8 (Int.fdiv n (2^56))]) (by simp;omega)
 have h3:=pad_step (m+6) n 40 (by omega) (p++[wrap .u8 (Int.fdiv n (2^56))]++[wrap .u8 (Int.fdiv n (2^48))]) (by simp;omega)
 have h4:=pad_step (m+5) n 32 (by omega) (p++[wrap .u8 (Int.fdiv n (2^56))]++[wrap .u8 (Int.fdiv n (2^48))]++[wrap .u8 (Int.fdiv n (2^40))]) (by simp;omega)
 have h5:=pad_step (m+4) n 24 (by omega) (p++[wrap .u8 (Int.fdiv n (2^56))]++[wrap .u8 (Int.fdiv n (2^48))]++[wrap .u8 (Int.fdiv n (2^40))]++[wrap .u8 (Int.fdiv n (2^32))]) (by simp;omega)
 have h6:=pad_step (m+3) n 16 (by omega) (p++[wrap .u8 (Int.fdiv n (2^56))]++[wrap .u8 (Int.fdiv n (2^48))]++[wrap .u8 (Int.fdiv n (2^40))]++[wrap .u8 (Int.fdiv n (2^32))]++[wrap .u8 (Int.fdiv n (2^24))]) (by simp;omega)
 have h7:=pad_step (m+2) n 8 (by omega) (p++[wrap .u8 (Int.fdiv n (2^56))]++[wrap .u8 (Int.fdiv n (2^48))]++[wrap .u8 (Int.fdiv n (2^40))]++[wrap .u8 (Int.fdiv n (2^32))]++[wrap .u8 (Int.fdiv n (2^24))]++[wrap .u8 (Int.fdiv n (2^16))]) (by simp;omega)
 have h8:=pad_step (m+1) n 0 (by omega) (p++[wrap .u8 (Int.fdiv n (2^56))]++[wrap .u8 (Int.fdiv n (2^48))]++[wrap .u8 (Int.fdiv n (2^40))]++[wrap .u8 (Int.fdiv n (2^32))]++[wrap .u8 (Int.fdiv n (2^24))]++[wrap .u8 (Int.fdiv n (2^16))]++[wrap .u8 (Int.fdiv n (2^8))]) (by simp;omega)
 refine h.trans (h2.trans (h3.trans (h4.trans (h5.trans (h6.trans (h7.trans (h8.trans ?_)))))))
 show L_80_1 (m+1) n (-8) _=_
 rw[L_80_1,S_80_1,cond_dff (by decide)]
 simp[Sp.szB]
theorem pad_ok(b:List Int)(c:Nat)(h1:(b.length+1+c)%64=56)(h2:c<64)(h3:b.length<100000000000):F_80 b=some (Sp.padB b c,()):=by
 unfold F_80
 rw[gd_room (by omega) (by omega),List.nil_append,gd_room (by omega) (by omega),pad0 c _ b (b++[128]) (by simp;omega) h2 (by omega) (by simp;omega)]
 simp only[B_80_0]
 rw[wu64 (n:=(b.length:Int)) (by omega) (by omega),wu64 (n:=(b.length:Int)*8) (by omega) (by omega),pad1 _ (by omega) _ _ (by simp;omega)]
 rfl
set_option maxRecDepth 100000
set_option maxHeartbeats 4000000
namespace Sp
noncomputable def H0:List Int:=[1779033703,3144134277,1013904242,2773480762,1359893119,2600822924,528734635,1541459225]
noncomputable def outB(s:List Int):List Int:=foldB (fun i o=>(((o.set (4*i) (wrap .u8 (Int.fdiv (s.getD i 0) 16777216))).set (4*i+1) (wrap .u8 (Int.fdiv (s.getD i 0) 65536))).set (4*i+2) (wrap .u8 (Int.fdiv (s.getD i 0) 256))).set (4*i+3) (wrap .u8 (s.getD i 0))) 0 8 (replicate 32 0)
noncomputable def sha(b:List Int):List Int:=outB (shaS ((b.length+72)/64) (padB b ((119-b.length%64)%64)) H0)
end Sp
theorem i_out(m:Nat)(hm:8<m)(s p2:List Int):L_110_3 m s 0 p2 (replicate 32 0)=some (.e0 p2 (Sp.outB s)):=by
 refine(cnt0 (fun m j a=>L_110_3 m s j p2 a) (n:=8) (inv:=fun _ a=>True) (step:=fun i o=>(((o.set (4*i) (wrap .u8 (Int.fdiv (s.getD i 0) 16777216))).set (4*i+1) (wrap .u8 (Int.fdiv (s.getD i 0) 65536))).set (4*i+2) (wrap .u8 (Int.fdiv (s.getD i 0) 256))).set (4*i+3) (wrap .u8 (s.getD i 0))) (ex:=fun a=>some (.e0 p2 a)) (m:=m) trivial hm ?_ ?_ ?_)
 ·intro m j a hj _
  show L_110_3 (m+1) s j p2 a=_
  rw[L_110_3,S_110_3]
  have h1:(4*(j:Int)).toNat=4*j:=by omega
  simp (disch:=first|omega|(simp only[List.length_drop,List.length_take,List.length_set,List.length_append,List.length_replicate,List.length_cons,List.length_nil];omega)) only[gd_and,gd_tt,gd_dec,gd_beq,gd_inB,gd_sl3,gd_room,cond_dtt,cond_dff,cond_ett,cond_eff,cond_ntt,cond_nff,cond_t,cond_f,wi64,Int.toNat_natCast,h1,Nat.add_zero]
  rfl
 ·intro j a hj _;trivial
 ·intro m a _
  show L_110_3 (m+1) s 8 p2 a=_
  rw[L_110_3,S_110_3,cond_dff (by decide)]
namespace Sp
noncomputable def stO(s:List Int)(j:Nat)(o:List Int):List Int:=o.set j (wrap .u8 (Int.fdiv (s.getD (j/4) 0) (2^(24-j%4*8))))
end Sp
theorem r_out(m:Nat)(hm:32<m)(s p1:List Int):L_53_1 m 0 p1 s (replicate 32 0)=some (.e0 p1 (foldB (Sp.stO s) 0 32 (replicate 32 0))):=by
 refine(cnt0 (fun m j a=>L_53_1 m j p1 s a) (n:=32) (inv:=fun _ a=>True) (step:=Sp.stO s) (ex:=fun a=>some (.e0 p1 a)) (m:=m) trivial hm ?_ ?_ ?_)
 ·intro m j a hj _
  show L_53_1 (m+1) j p1 s a=_
  have e:Int.tmod (j:Int) 4=((j%4:Nat):Int):=(Int.ofNat_tmod j 4).symm
  have e2:Int.tdiv (j:Int) 4=((j/4:Nat):Int):=(Int.ofNat_tdiv j 4).symm
  have e3:((24:Int)-((j%4:Nat):Int)*8)=((24-j%4*8:Nat):Int):=by omega
  rw[L_53_1,S_53_1,e,e2]
  simp (disch:=first|omega|(simp only[List.length_drop,List.length_take,List.length_set,List.length_append,List.length_replicate,List.length_cons,List.length_nil];omega)) only[gd_and,gd_tt,gd_dec,gd_beq,gd_inB,gd_sl3,gd_room,cond_dtt,cond_dff,cond_ett,cond_eff,cond_ntt,cond_nff,cond_t,cond_f,wi64,Int.toNat_natCast]
  rw[e3,wu64 (by omega) (by omega),gd_dec (by omega),Int.toNat_natCast,nmin_l (by omega)]
  rfl
 ·intro j a hj _;trivial
 ·intro m a _
  show L_53_1 (m+1) 32 p1 s a=_
  rw[L_53_1,S_53_1,cond_dff (by decide)]
theorem fdiv1(x:Int):Int.fdiv x (2^0)=x:=by simp
theorem out_eq(s:List Int):foldB (Sp.stO s) 0 32 (replicate 32 0)=Sp.outB s:=by
 simp only[foldB,Sp.outB,Sp.stO,fdiv1,Nat.reduceMul,Nat.reduceAdd,Nat.reduceDiv,Nat.reduceMod,Nat.reduceSub]
 rfl
set_option maxRecDepth 100000
set_option maxHeartbeats 4000000
theorem r_sum(b:List Int)(h3:b.length<100000000000):F_53 b=some (Sp.sha b,()):=by
 have hp:=pv_80 _ (pad_ok b ((119-b.length%64)%64) (by omega) (by omega) h3)
 have hl:(Sp.padB b ((119-b.length%64)%64)).length=64*(0+(b.length+72)/64):=by
  simp[Sp.padB,Sp.szB];omega
 unfold F_53
 rw[hp.1,hp.2,gd_tt]
 have:=r_main ((b.length+72)/64) 4611686018427387904 0 _ (replicate 32 0) Sp.H0 hl (by omega) (by omega)
 rw[show((64*0:Nat):Int)=0 from rfl]at this
 show B_53_0 (L_53_0 _ _ 0 (replicate 32 0) Sp.H0) _=_
 rw[this]
 simp only[B_53_0]
 rw[r_out _ (by omega),out_eq]
 rfl
theorem set8(A C:List Int)(c0 c1 c2 c3 c4 c5 c6 c7 x0 x1 x2 x3 x4 x5 x6 x7:Int)(n:Nat)(hn:A.length=n) :
 ((((((((A++c0::c1::c2::c3::c4::c5::c6::c7::C).set (n+0) x0).set (n+1) x1).set (n+2) x2).set (n+3) x3).set (n+4) x4).set (n+5) x5).set (n+6) x6).set (n+7) x7=A++x0::x1::x2::x3::x4::x5::x6::x7::C:=by
 subst hn
 simp only[List.set_append,Nat.lt_irrefl,Nat.add_sub_cancel_left,if_false,show ∀k,¬(A.length+k<A.length)from fun k=>by omega,List.set_cons_zero,List.set_cons_succ]
theorem size_eq(n:Int)(h0:0<=n)(h1:n<18446744073709551616):[wrap .u8 (Int.fdiv (wrap .u32 (Int.fdiv n 4294967296)) 16777216),wrap .u8 (Int.fdiv (wrap .u32 (Int.fdiv n 4294967296)) 65536),wrap .u8 (Int.fdiv (wrap .u32 (Int.fdiv n 4294967296)) 256),wrap .u8 (wrap .u32 (Int.fdiv n 4294967296)),wrap .u8 (Int.fdiv (wrap .u32 n) 16777216),wrap .u8 (Int.fdiv (wrap .u32 n) 65536),wrap .u8 (Int.fdiv (wrap .u32 n) 256),wrap .u8 (wrap .u32 n)]=Sp.szB n:=by
 unfold Sp.szB
 simp only[u8_mod,u32_mod,Int.fdiv_eq_ediv_of_nonneg _ (show(0:Int)<=4294967296 by decide),Int.fdiv_eq_ediv_of_nonneg _ (show(0:Int)<=16777216 by decide),Int.fdiv_eq_ediv_of_nonneg _ (show(0:Int)<=65536 by decide),Int.fdiv_eq_ediv_of_nonneg _ (show(0:Int)<=256 by decide),
  Int.fdiv_eq_ediv_of_nonneg _ (show(0:Int)<=2^56 by decide),Int.fdiv_eq_ediv_of_nonneg _ (show(0:Int)<=2^48 by decide),Int.fdiv_eq_ediv_of_nonneg _ (show(0:Int)<=2^40 by decide),Int.fdiv_eq_ediv_of_nonneg _ (show(0:Int)<=2^32 by decide),Int.fdiv_eq_ediv_of_nonneg _ (show(0:Int)<=2^24 by decide),Int.fdiv_eq_ediv_of_nonneg _ (show(0:Int)<=2^16 by decide),Int.fdiv_eq_ediv_of_nonneg _ (show(0:Int)<=2^8 by decide),fdiv1]
 simp only[List.cons.injEq,and_true]
 refine⟨?_,?_,?_,?_,?_,?_,?_,?_⟩<;>omega
theorem last_eq(rest:List Int)(e:Nat)(he:e=64\/e=128)(hn:rest.length+9<=e):(over (replicate 128 0) 0 (rest.take 128)).set rest.length 128=(rest++[128]++replicate (e-9-rest.length) 0)++(0:Int)::0::0::0::0::0::0::0::replicate (128-e) 0:=by
 have h1:rest.take 128=rest:=List.take_of_length_le (by omega)
 have h2:over (replicate 128 (0:Int)) 0 rest=rest++0::replicate (127-rest.length) 0:=by
  unfold over
  simp only[List.take_zero,List.nil_append,List.drop_replicate]
  rw[show 128-(0+rest.length)=(127-rest.length)+1 by omega,List.replicate_succ]
 rw[h1,h2,List.set_append,if_neg (by omega),Nat.sub_self,List.set_cons_zero]
 rw[show 127-rest.length=(e-9-rest.length)+(8+(128-e)) by omega,<-List.replicate_append_replicate,<-List.replicate_append_replicate]
 simp[replicate]
theorem J_ok(b o st rest:List Int)(e:Nat)(he:e=64\/e=128)(hn:rest.length+9<=e)(hb:b.length<100000000000) :
 J_110_1 b e (replicate 32 0) st Sp.K64 ((over (replicate 128 0) 0 (rest.take 128)).set rest.length 128)=some (.e0 (Sp.outB (Sp.shaS (e/64) (rest++[128]++replicate (e-9-rest.length) 0++Sp.szB (b.length*8)) st))):=by
 have e8:((e:Int)-8).toNat=e-8:=by omega
 have e4:((e:Int)-4).toNat=e-4:=by omega
 rw[last_eq rest e he hn]
 unfold J_110_1 S_110_1
 simp (disch:=first|omega|(simp only[List.length_drop,List.length_take,List.length_set,List.length_append,List.length_replicate,List.length_cons,List.length_nil];omega)) only[gd_and,gd_tt,gd_dec,gd_beq,gd_inB,gd_sl3,gd_room,cond_dtt,cond_dff,cond_ett,cond_eff,cond_ntt,cond_nff,cond_t,cond_f,wi64,Int.toNat_natCast,e8,e4]
 rw[wu64 (n:=(b.length:Int)) (by omega) (by omega),wu64 (n:=(b.length:Int)*8) (by omega) (by omega)]
 rw[show e-4+0=e-8+4 by omega,show e-4+1=e-8+5 by omega,show e-4+2=e-8+6 by omega,show e-4+3=e-8+7 by omega]
 rw[set8 _ _ _ _ _ _ _ _ _ _ _ _ _ _ _ _ _ _ (e-8) (by simp;omega)]
 have hsz:=size_eq ((b.length:Int)*8) (by omega) (by omega)
 generalize hA:rest++[128]++replicate (e-9-rest.length) (0:Int)=A
 have hAl:A.length=e-8:=by rw[<-hA];simp;omega
 generalize hx:(wrap .u8 (Int.fdiv (wrap .u32 (Int.fdiv ((b.length:Int)*8) 4294967296)) 16777216))=x0 at hsz⊢
 generalize (wrap .u8 (Int.fdiv (wrap .u32 (Int.fdiv ((b.length:Int)*8) 4294967296)) 65536))=x1 at hsz⊢
 generalize (wrap .u8 (Int.fdiv (wrap .u32 (Int.fdiv ((b.length:Int)*8) 4294967296)) 256))=x2 at hsz⊢
 generalize (wrap .u8 (wrap .u32 (Int.fdiv ((b.length:Int)*8) 4294967296)))=x3 at hsz⊢
 generalize (wrap .u8 (Int.fdiv (wrap .u32 ((b.length:Int)*8)) 16777216))=x4 at hsz⊢
 generalize (wrap .u8 (Int.fdiv (wrap .u32 ((b.length:Int)*8)) 65536))=x5 at hsz⊢
 generalize (wrap .u8 (Int.fdiv (wrap .u32 ((b.length:Int)*8)) 256))=x6 at hsz⊢
 generalize (wrap .u8 (wrap .u32 ((b.length:Int)*8)))=x7 at hsz⊢
 have hl:(A++x0::x1::x2::x3::x4::x5::x6::x7::replicate (128-e) 0).length=128:=by simp[hAl];omega
 have hm:=j_main (e/64) 4611686018427387904 0 (replicate 32 0) st _ (by omega) hl (by omega)
 rw[show 64*(0+e/64)=e by omega,show((64*0:Nat):Int)=0 from rfl]at hm
 rw[hm]
 simp only[B_110_2]
 rw[List.drop_zero,i_out _ (by omega)]
 simp only[B_110_3]
 rw[<-hsz,shaS_congr (e/64) _ (A++[x0,x1,x2,x3,x4,x5,x6,x7])]
 rw[show 64*(e/64)=(A++[x0,x1,x2,x3,x4,x5,x6,x7]).length by simp[hAl];omega,List.take_length,
  show A++x0::x1::x2::x3::x4::x5::x6::x7::replicate (128-e) 0=(A++[x0,x1,x2,x3,x4,x5,x6,x7])++replicate (128-e) 0 by simp,List.take_left]
theorem i_sum(b:List Int)(h3:b.length<100000000000):F_110 b=some (Sp.sha b,()):=by
 unfold F_110
 rw[pq_32,gd_tt]
 have hq:=i_main (b.length/64) 4611686018427387904 b b (replicate 32 0) Sp.H0 (by omega) (by omega) (by omega) (by omega)
 show B_110_0 (L_110_0 _ b b (replicate 32 0) Sp.H0 Sp.K64) _=_
 rw[hq]
 simp only[B_110_0]
 have hrl:(b.drop (64*(b.length/64))).length=b.length%64:=by simp;omega
 generalize hr:b.drop (64*(b.length/64))=rest at hrl⊢
 rw[nmin_l (by omega),gd_inB (by omega) (by omega),Int.toNat_natCast,gd_and,gd_dec (by omega),gd_tt,wi64 (by omega) (by omega)]
 have hN:(b.length+72)/64=b.length/64+((if rest.length<=55 then 64 else 128)/64):=by split<;>omega
 have hfin:∀e:Nat,e=(if rest.length<=55 then 64 else 128)->Sp.outB (Sp.shaS (e/64) (rest++[128]++replicate (e-9-rest.length) 0++Sp.szB (b.length*8)) (Sp.shaS (b.length/64) b Sp.H0))=Sp.sha b:=by
  intro e he
  unfold Sp.sha
  rw[hN,<-he,shaS_app]
  have hc:(119-b.length%64)%64=e-9-rest.length:=by rw[hrl]at he⊢;split at he<;>omega
  have e1:(Sp.padB b ((119-b.length%64)%64)).drop (64*(b.length/64))=rest++[128]++replicate (e-9-rest.length) 0++Sp.szB (b.length*8):=by
   rw[hc,Sp.padB]
   simp only[List.append_assoc]
   rw[List.drop_append_of_le_length (by omega),hr]
  have e2:Sp.shaS (b.length/64) (Sp.padB b ((119-b.length%64)%64)) Sp.H0=Sp.shaS (b.length/64) b Sp.H0:=by
   refine shaS_congr _ _ _ _ ?_
   rw[Sp.padB]
   simp only[List.append_assoc]
   rw[List.take_append_of_le_length (by omega)]
  rw[e1,e2]
 by_cases h:rest.length<=55
 ·rw[cond_dff (by omega)]
  have:=J_ok b (replicate 32 0) (Sp.shaS (b.length/64) b Sp.H0) rest 64 (.inl rfl) (by omega) h3
  rw[show((64:Nat):Int)=64 from rfl]at this
  rw[this]
  simp only[B_110_1]
  rw[hfin 64 (by rw[if_pos h])]
 ·rw[cond_dtt (by omega)]
  have:=J_ok b (replicate 32 0) (Sp.shaS (b.length/64) b Sp.H0) rest 128 (.inr rfl) (by omega) h3
  rw[show((128:Nat):Int)=128 from rfl]at this
  rw[this]
  simp only[B_110_1]
  rw[hfin 128 (by rw[if_neg h])]
namespace Sp
noncomputable def hi4(x:Int):Int:=wrap .i64 (Int.fdiv x 16)
noncomputable def lo4(x:Int):Int:=wrap .i64 (andI .u8 x 15)
noncomputable def dig(h:List Int)(j:Nat):Int:=if j%2=0 then hi4 (h.getD (j/2) 0)else lo4 (h.getD (j/2) 0)
noncomputable def digs(h:List Int)(n:Nat):List Int:=(List.range n).map (dig h)
noncomputable def dsum(h:List Int):Nat->Int
 |0=>0
 |n+1=>dsum h n+(15-dig h n)
end Sp
theorem and15(x:Int):Sp.andI .u8 x 15=x%16:=by
 unfold Sp.andI
 rw[u8_mod]
 have h:(BitVec.ofInt 8 x&&&BitVec.ofInt 8 15).toNat=(BitVec.ofInt 8 x).toNat%16:=by
  rw[BitVec.toNat_and]
  show(BitVec.ofInt 8 x).toNat&&&15=_
  exact Nat.and_two_pow_sub_one_eq_mod _ 4
 show(((BitVec.ofInt 8 x&&&BitVec.ofInt 8 15).toNat:Nat):Int)%256=x%16
 rw[h,BitVec.toNat_ofInt]
 omega
theorem hi_b(x:Int)(h0:0<=x)(h1:x<=255):0<=Sp.hi4 x/\Sp.hi4 x<=15:=by
 unfold Sp.hi4
 rw[Int.fdiv_eq_ediv_of_nonneg _ (by decide),wi64 (by omega) (by omega)]
 omega
theorem lo_b(x:Int):0<=Sp.lo4 x/\Sp.lo4 x<=15:=by
 unfold Sp.lo4
 rw[and15,wi64 (by omega) (by omega)]
 omega
abbrev bytes(h:List Int):Prop:=∀x∈h,0<=x/\x<=255
theorem bytes_get{h:List Int}(hb:bytes h)(i:Nat):0<=h.getD i 0/\h.getD i 0<=255:=by
 rcases Nat.lt_or_ge i h.length with hi|hi
 ·rw[List.getD_eq_getElem?_getD,List.getElem?_eq_getElem hi];exact hb _ (List.getElem_mem hi)
 ·rw[List.getD_eq_getElem?_getD,List.getElem?_eq_none hi];simp
theorem dig_b{h:List Int}(hb:bytes h)(j:Nat):0<=Sp.dig h j/\Sp.dig h j<=15:=by
 unfold Sp.dig
 split
 ·exact hi_b _ (bytes_get hb _).1 (bytes_get hb _).2
 ·exact lo_b _
theorem dsum_b{h:List Int}(hb:bytes h):∀n,0<=Sp.dsum h n/\Sp.dsum h n<=15*n
 |0=>by simp[Sp.dsum]
 |n+1=>by
  have h1:=dsum_b hb n
  have h2:=dig_b hb n
  simp only[Sp.dsum];omega
theorem digs_len(h:List Int)(n:Nat):(Sp.digs h n).length=n:=by simp[Sp.digs]
theorem digs_succ(h:List Int)(n:Nat):Sp.digs h (n+1)=Sp.digs h n++[Sp.dig h n]:=by simp[Sp.digs,List.range_succ]
theorem i_dig1(m:Nat)(hm:2<m)(s:Int)(h:List Int)(hb:bytes h)(q:Nat)(x y:Int)(hx:x=Sp.dig h (2*q))(hy:y=Sp.dig h (2*q+1))(i:Int)(hs:s=Sp.dsum h (2*q))(hq:q<32):L_86_1 m s h i [x,y] 0 (Sp.digs h (2*q))=some (.e0 (Sp.dsum h (2*q+2)) h i (Sp.digs h (2*q+2))):=by
 obtain⟨m,rfl⟩:∃k,m=k+3:=⟨m-3,by omega⟩
 have b0:=dsum_b hb (2*q)
 have b1:=dig_b hb (2*q)
 have b2:=dig_b hb (2*q+1)
 subst hs hx hy
 rw[L_86_1,S_86_1,cond_dtt (by decide),gd_inB (by decide) (by decide),gd_room (by rw[digs_len];omega) (by rw[digs_len];omega)]
 show L_86_1 (m+2) (wrap .i64 (Sp.dsum h (2*q)+wrap .i64 (15-Sp.dig h (2*q)))) h i _ 1 (Sp.digs h (2*q)++[Sp.dig h (2*q)])=_
 rw[wi64 (n:=15-Sp.dig h (2*q)) (by omega) (by omega),wi64 (by omega) (by omega),<-digs_succ,L_86_1,S_86_1,cond_dtt (by decide),gd_inB (by decide) (by decide),gd_room (by rw[digs_len];omega) (by rw[digs_len];omega)]
 show L_86_1 (m+1) (wrap .i64 (Sp.dsum h (2*q)+(15-Sp.dig h (2*q))+wrap .i64 (15-Sp.dig h (2*q+1)))) h i _ 2 (Sp.digs h (2*q+1)++[Sp.dig h (2*q+1)])=_
 rw[wi64 (n:=15-Sp.dig h (2*q+1)) (by omega) (by omega),wi64 (by omega) (by omega),<-digs_succ,L_86_1,S_86_1,cond_dff (by decide)]
 rfl
theorem i_dig0:∀(d m q:Nat)(h:List Int),bytes h->q+d=32->d<m->L_86_0 m (Sp.dsum h (2*q)) h (q:Nat) (Sp.digs h (2*q))=some (.e0 (Sp.dsum h 64) (Sp.digs h 64))
 |0,m+1,q,h,hb,hq,_=>by
  rw[L_86_0,S_86_0,cond_dff (by omega),show 2*q=64 by omega]
 |d+1,m+1,q,h,hb,hq,hm=>by
  rw[L_86_0,S_86_0,cond_dtt (by omega),gd_inB (by omega) (by omega),Int.toNat_natCast]
  rw[i_dig1 _ (by omega) _ h hb q _ _ (by simp[Sp.dig,Sp.hi4]) (by simp[Sp.dig,Sp.lo4,show(2*q+1)/2=q by omega,show(2*q+1)%2=1 by omega]) _ rfl (by omega)]
  simp only[B_86_1]
  rw[wi64 (by omega) (by omega)]
  exact i_dig0 d m (q+1) h hb (by omega) (by omega)
theorem r_dig0:∀(d m j:Nat)(h:List Int),bytes h->j+d=64->d<m->L_57_0 m (Sp.dsum h j) (j:Nat) h (Sp.digs h j)=some (.e0 (Sp.dsum h 64) (Sp.digs h 64))
 |0,m+1,j,h,hb,hq,_=>by
  rw[L_57_0,S_57_0,cond_dff (by omega),show j=64 by omega]
 |d+1,m+1,j,h,hb,hq,hm=>by
  have e:Int.tmod (j:Int) 2=((j%2:Nat):Int):=(Int.ofNat_tmod j 2).symm
  have e2:Int.tdiv (j:Int) 2=((j/2:Nat):Int):=(Int.ofNat_tdiv j 2).symm
  have b0:=dsum_b hb j
  have b1:=dig_b hb j
  have ih:=r_dig0 d m (j+1) h hb (by omega) (by omega)
  rw[L_57_0,S_57_0,cond_dtt (by omega),e,e2,wi64 (n:=((j/2:Nat):Int)) (by omega) (by omega),gd_inB (by omega) (by omega),gd_and,Int.toNat_natCast,gd_dec (by omega),gd_tt]
  rw[wi64 (n:=Sp.dsum h j+15) (by omega) (by omega),wi64 (n:=(j:Int)+1) (by omega) (by omega)]
  by_cases h2:j%2=0
  ·have ed:Sp.dig h j=wrap .i64 (Int.fdiv (h.getD (j/2) 0) 16):=by simp[Sp.dig,h2,Sp.hi4]
   rw[cond_eff (by omega),gd_room (by rw[digs_len];omega) (by rw[digs_len];omega),<-ed,wi64 (n:=Sp.dsum h j+15-Sp.dig h j) (by omega) (by omega),<-digs_succ,
    show Sp.dsum h j+15-Sp.dig h j=Sp.dsum h (j+1) by simp only[Sp.dsum];omega]
   exact ih
  ·have ed:Sp.dig h j=wrap .i64 (Sp.andI .u8 (h.getD (j/2) 0) 15):=by simp[Sp.dig,h2,Sp.lo4]
   rw[cond_ett (by omega),gd_inB (by omega) (by omega),gd_and,gd_dec (by omega),gd_tt,gd_room (by rw[digs_len];omega) (by rw[digs_len];omega),<-ed,wi64 (n:=Sp.dsum h j+15-Sp.dig h j) (by omega) (by omega),<-digs_succ,
    show Sp.dsum h j+15-Sp.dig h j=Sp.dsum h (j+1) by simp only[Sp.dsum];omega]
   exact ih
theorem and15'(x:Int):Sp.andI .i64 x 15=x%16:=by
 unfold Sp.andI
 have h:(BitVec.ofInt 64 x&&&BitVec.ofInt 64 15).toNat=(BitVec.ofInt 64 x).toNat%16:=by
  rw[BitVec.toNat_and]
  show(BitVec.ofInt 64 x).toNat&&&15=_
  exact Nat.and_two_pow_sub_one_eq_mod _ 4
 show wrap .i64 (((BitVec.ofInt 64 x&&&BitVec.ofInt 64 15).toNat:Nat):Int)=x%16
 rw[h,BitVec.toNat_ofInt,wi64 (by omega) (by omega)]
 omega
namespace Sp
noncomputable def digL(h:List Int):List Int:=digs h 64++[dsum h 64/256,dsum h 64/16%16,dsum h 64%16]
end Sp
theorem i_digits(h:List Int)(hb:bytes h):F_86 h=some (Sp.digL h,()):=by
 have b0:=dsum_b hb 64
 unfold F_86
 have:=i_dig0 32 4611686018427387904 0 h hb (by omega) (by omega)
 rw[show L_86_0 4611686018427387904 0 h 0 []=some (.e0 (Sp.dsum h 64) (Sp.digs h 64))from this]
 simp only[B_86_0]
 rw[gd_room (by rw[digs_len];omega) (by rw[digs_len];omega),Int.fdiv_eq_ediv_of_nonneg _ (by decide),Int.fdiv_eq_ediv_of_nonneg _ (by decide),and15',and15']
 rfl
theorem r_digits(h:List Int)(hb:bytes h):F_57 h=some (Sp.digL h,()):=by
 have b0:=dsum_b hb 64
 unfold F_57
 have:=r_dig0 64 4611686018427387904 0 h hb (by omega) (by omega)
 rw[show L_57_0 4611686018427387904 0 0 h []=some (.e0 (Sp.dsum h 64) (Sp.digs h 64))from this]
 simp only[B_57_0]
 rw[gd_room (by rw[digs_len];omega) (by rw[digs_len];omega),Int.tdiv_eq_ediv_of_nonneg b0.1,Int.tdiv_eq_ediv_of_nonneg b0.1,Int.tmod_eq_emod_of_nonneg b0.1,wi64 (by omega) (by omega),wi64 (by omega) (by omega),Int.tmod_eq_emod_of_nonneg (by omega)]
 rfl
set_option maxRecDepth 100000
set_option maxHeartbeats 4000000
theorem u8_b{n:Int}(h:(Lit.int .u8 n).wf=true):0<=n/\n<=255:=by
 simp[Lit.wf,IntKind.min,IntKind.max,IntKind.signed,IntKind.bits]at h;omega
theorem wf_bytes{n:Nat}{h:List Int}(w:wfD (.arr n (.int .u8)) h):h.length=n/\bytes h:=⟨w.1,fun x hx=>u8_b (w.2 x hx)⟩
namespace Sp
noncomputable def link(j:Int)(h:List Int):List Int:=sha ([wrap .u8 j]++h.take 32)
noncomputable def chn:Nat->Int->List Int->List Int
 |0,_,h=>h
 |n+1,j,h=>chn n (j+1) (link j h)
end Sp
theorem i_chain:∀(d m:Nat)(j e:Int)(h o:List Int),e=j+d-> -1000<=j->e<=1000->d<m->L_87_0 m e j h o=some (.e0 (Sp.chn d j h) o)
 |0,m+1,j,e,h,o,h1,h2,h3,_=>by
  rw[L_87_0,S_87_0,cond_dff (by omega)]
  rfl
 |d+1,m+1,j,e,h,o,h1,h2,h3,h4=>by
  have hl:(h.take 32).length<=32:=by simp;omega
  have hs:p_110 ([wrap .u8 j]++h.take 32)=true/\v_110 ([wrap .u8 j]++h.take 32)=(Sp.link j h,()):=pv_110 _ (i_sum _ (by rw[List.length_append,List.length_singleton];omega))
  rw[L_87_0,S_87_0,cond_dtt (by omega),List.drop_zero,gd_room (by omega) (by omega),hs.1,hs.2,gd_tt,wi64 (by omega) (by omega)]
  rw[Sp.chn]
  dsimp only
  exact i_chain d m (j+1) e (Sp.link j h) o (by omega) (by omega) h3 (by omega)
theorem r_chain:∀(d m:Nat)(j e:Int)(h o:List Int),e=j+d-> -1000<=j->e<=1000->d<m->L_58_0 m e j h o=some (.e0 (Sp.chn d j h) o)
 |0,m+1,j,e,h,o,h1,h2,h3,_=>by
  rw[L_58_0,S_58_0,cond_dff (by omega)]
  rfl
 |d+1,m+1,j,e,h,o,h1,h2,h3,h4=>by
  have hl:(h.take 32).length<=32:=by simp;omega
  have hs:p_53 ([wrap .u8 j]++h.take 32)=true/\v_53 ([wrap .u8 j]++h.take 32)=(Sp.link j h,()):=pv_53 _ (r_sum _ (by rw[List.length_append,List.length_singleton];omega))
  rw[L_58_0,S_58_0,cond_dtt (by omega),List.drop_zero,gd_room (by omega) (by omega),hs.1,hs.2,gd_tt,wi64 (by omega) (by omega)]
  rw[Sp.chn]
  dsimp only
  exact r_chain d m (j+1) e (Sp.link j h) o (by omega) (by omega) h3 (by omega)
theorem chain_ok(h:List Int)(j e:Int)(h0:0<=j)(h1:j<=e)(h2:e<=15):F_87 h j e=some (Sp.chn (e-j).toNat j h,()):=by
 unfold F_87
 rw[i_chain (e-j).toNat _ j e h _ (by omega) (by omega) (by omega) (by omega)]
 rfl
theorem rchain_ok(h:List Int)(j e:Int)(h0:0<=j)(h1:j<=e)(h2:e<=15):F_58 h j e=some (Sp.chn (e-j).toNat j h,()):=by
 unfold F_58
 rw[r_chain (e-j).toNat _ j e h _ (by omega) (by omega) (by omega) (by omega)]
 rfl
set_option maxRecDepth 100000
set_option maxHeartbeats 4000000
namespace Sp
noncomputable def node(a b:List Int):List Int:=sha ([255]++a.take 32++b.take 32)
noncomputable def sec(s:List Int)(k j:Int):List Int:=sha (s.take 32++[wrap .u8 k,wrap .u8 j])
noncomputable def cat(l:List (List Int)):List Int:=l.flatMap fun h=>h.take 32
noncomputable def leafE(l:List (List Int)):List Int:=sha (cat l)
noncomputable def ends(s:List Int)(k:Int)(n:Nat):List (List Int):=(List.range n).map fun j:Nat=>chn 15 0 (sec s k (j:Int))
noncomputable def leafS(s:List Int)(k:Int):List Int:=leafE (ends s k 67)
noncomputable def pubK(s:List Int):List Int:=node (node (leafS s 0) (leafS s 1)) (node (leafS s 2) (leafS s 3))
end Sp
theorem tk32(a:List Int):(a.take 32).length<=32:=by rw[List.length_take];omega
theorem above_ok(a b:List Int):F_89 a b=some (Sp.node a b,()):=by
 have h1:=tk32 a
 have h2:=tk32 b
 have hs:p_110 ([255]++a.take 32++b.take 32)=true/\v_110 ([255]++a.take 32++b.take 32)=(Sp.node a b,()):=pv_110 _ (i_sum _ (by rw[List.length_append,List.length_append,List.length_singleton];omega))
 unfold F_89
 rw[List.drop_zero,List.drop_zero,gd_room (by omega) (by omega),gd_room (by rw[List.length_append,List.length_singleton];omega) (by rw[List.length_append,List.length_singleton];omega),hs.1,hs.2,gd_tt]
theorem node_ok(a b:List Int):F_60 a b=some (Sp.node a b,()):=by
 have h1:=tk32 a
 have h2:=tk32 b
 have hs:p_53 ([255]++a.take 32++b.take 32)=true/\v_53 ([255]++a.take 32++b.take 32)=(Sp.node a b,()):=pv_53 _ (r_sum _ (by rw[List.length_append,List.length_append,List.length_singleton];omega))
 unfold F_60
 rw[List.drop_zero,List.drop_zero,gd_room (by omega) (by omega),gd_room (by rw[List.length_append,List.length_singleton];omega) (by rw[List.length_append,List.length_singleton];omega),hs.1,hs.2,gd_tt]
theorem cat_len:∀l:List (List Int),(Sp.cat l).length<=32*l.length
 |[]=>by simp[Sp.cat]
 |h::l=>by
  have h1:=cat_len l
  have h2:=tk32 h
  simp only[Sp.cat,List.flatMap_cons,List.length_append,List.length_cons]at h1⊢
  omega
theorem cat_succ(l:List (List Int))(j:Nat)(hj:j<l.length):Sp.cat (l.take (j+1))=Sp.cat (l.take j)++(l.getD j (Ty.dflt (.arr 32 (.int .u8)))).take 32:=by
 have e:l.getD j (Ty.dflt (.arr 32 (.int .u8)))=l[j]:=by simp[List.getD_eq_getElem?_getD,hj]
 rw[List.take_succ_eq_append_getElem hj,e]
 simp only[Sp.cat,List.flatMap_append,List.flatMap_cons,List.flatMap_nil,List.append_nil]
theorem leafE_loop(o:List Int)(l:List (List Int))(hl:l.length<1000000):∀(d m j:Nat),j+d=l.length->d<m->L_88_0 m l l.length (j:Nat) o (Sp.cat (l.take j))=some (.e0 o (Sp.cat l))
 |0,m+1,j,hj,_=>by
  rw[L_88_0,S_88_0,cond_dff (by omega),List.take_of_length_le (by omega)]
 |d+1,m+1,j,hj,hm=>by
  have h1:=cat_len (l.take j)
  have h2:=tk32 (l.getD j (Ty.dflt (.arr 32 (.int .u8))))
  have h3:(l.take j).length<=1000000:=by rw[List.length_take];omega
  rw[L_88_0,S_88_0,cond_dtt (by omega),gd_inB (by omega) (by omega),Int.toNat_natCast,List.drop_zero,gd_room (by omega) (by omega),wi64 (by omega) (by omega),<-cat_succ l j (by omega)]
  exact leafE_loop o l hl d m (j+1) (by omega) (by omega)
theorem rleafE_loop(o:List Int)(l:List (List Int))(hl:l.length<1000000):∀(d m j:Nat),j+d=l.length->d<m->L_59_0 m l (j:Nat) o (Sp.cat (l.take j))=some (.e0 o (Sp.cat l))
 |0,m+1,j,hj,_=>by
  rw[L_59_0,S_59_0,cond_dff (by omega),List.take_of_length_le (by omega)]
 |d+1,m+1,j,hj,hm=>by
  have h1:=cat_len (l.take j)
  have h2:=tk32 (l.getD j (Ty.dflt (.arr 32 (.int .u8))))
  have h3:(l.take j).length<=1000000:=by rw[List.length_take];omega
  rw[L_59_0,S_59_0,cond_dtt (by omega),gd_inB (by omega) (by omega),Int.toNat_natCast,List.drop_zero,gd_room (by omega) (by omega),wi64 (by omega) (by omega),<-cat_succ l j (by omega)]
  exact rleafE_loop o l hl d m (j+1) (by omega) (by omega)
theorem leafE_ok(l:List (List Int))(hl:l.length<1000000):F_88 l=some (Sp.leafE l,()):=by
 have h1:=cat_len l
 have hs:p_110 (Sp.cat l)=true/\v_110 (Sp.cat l)=(Sp.leafE l,()):=pv_110 _ (i_sum _ (by omega))
 unfold F_88
 rw[show L_88_0 4611686018427387904 l l.length 0 (replicate 32 0) []=_ from leafE_loop (replicate 32 0) l hl l.length 4611686018427387904 0 (by omega) (by omega)]
 simp only[B_88_0]
 rw[hs.1,hs.2,gd_tt]
theorem rleafE_ok(l:List (List Int))(hl:l.length<1000000):F_59 l=some (Sp.leafE l,()):=by
 have h1:=cat_len l
 have hs:p_53 (Sp.cat l)=true/\v_53 (Sp.cat l)=(Sp.leafE l,()):=pv_53 _ (r_sum _ (by omega))
 unfold F_59
 rw[show L_59_0 4611686018427387904 l 0 (replicate 32 0) []=_ from rleafE_loop (replicate 32 0) l hl l.length 4611686018427387904 0 (by omega) (by omega)]
 simp only[B_59_0]
 rw[hs.1,hs.2,gd_tt]
theorem above_pv(a b:List Int):p_89 a b=true/\v_89 a b=(Sp.node a b,()):=pv_89 a b (above_ok a b)
theorem node_pv(a b:List Int):p_60 a b=true/\v_60 a b=(Sp.node a b,()):=pv_60 a b (node_ok a b)
theorem digL_len(h:List Int):(Sp.digL h).length=67:=by simp[Sp.digL,digs_len]
theorem dig_get(h:List Int)(n j:Nat)(hj:j<n):(Sp.digs h n).getD j 0=Sp.dig h j:=by
 simp[Sp.digs,List.getD_eq_getElem?_getD,hj]
theorem digL_get(h:List Int)(j:Nat)(hj:j<64):(Sp.digL h).getD j 0=Sp.dig h j:=by
 unfold Sp.digL
 rw[List.getD_eq_getElem?_getD,List.getElem?_append_left (by rw[digs_len];exact hj),<-List.getD_eq_getElem?_getD,dig_get h 64 j hj]
theorem digL_top(h:List Int):(Sp.digL h).getD 64 0=Sp.dsum h 64/256/\(Sp.digL h).getD 65 0=Sp.dsum h 64/16%16/\(Sp.digL h).getD 66 0=Sp.dsum h 64%16:=by
 unfold Sp.digL
 refine⟨?_,?_,?_⟩<;>(rw[List.getD_eq_getElem?_getD,List.getElem?_append_right (by rw[digs_len];omega),digs_len];rfl)
theorem digL_b{h:List Int}(hb:bytes h)(j:Nat)(hj:j<67):0<=(Sp.digL h).getD j 0/\(Sp.digL h).getD j 0<=15:=by
 have b0:=dsum_b hb 64
 have t:=digL_top h
 rcases Nat.lt_or_ge j 64 with h1|h1
 ·rw[digL_get h j h1];exact dig_b hb j
 ·rcases(show j=64\/j=65\/j=66 by omega)with rfl|rfl|rfl
  ·rw[t.1];omega
  ·rw[t.2.1];omega
  ·rw[t.2.2];omega
noncomputable def anyB(p:Nat->Bool):Nat->Bool
 |0=>false
 |n+1=>anyB p n||p n
set_option maxRecDepth 100000
set_option maxHeartbeats 4000000
abbrev SigT:=Int×List (List Int)×List (List Int)×PUnit
abbrev h0:List Int:=Ty.dflt (.arr 32 (.int .u8))
namespace Sp
noncomputable def shp(s:SigT):Bool:=decide (0<=s.1)&&(decide (s.1<4)&&((s.2.1.length:Int)==67&&(s.2.2.1.length:Int)==2))
noncomputable def vend(d:List Int)(c:List (List Int))(n:Nat):List (List Int):=(List.range n).map fun j:Nat=>chn (15-d.getD j 0).toNat (d.getD j 0) (c.getD j h0)
noncomputable def up(i:Int)(p e:List Int):List Int:=if i=1 then node p e else node e p
noncomputable def verF(key dg:List Int)(s:SigT):Bool:=shp s&&(up (s.1/2) (s.2.2.1.getD 1 h0) (up (s.1%2) (s.2.2.1.getD 0 h0) (leafE (vend (digL dg) s.2.1 67)))==key)
end Sp
theorem shp_ok(s:SigT):F_85 s=some (Sp.shp s,()):=by
 unfold F_85 Sp.shp
 by_cases h1:s.1>=0
 ·by_cases h2:s.1<4
  ·rw[cond_dtt h1,cond_dtt h2,decide_eq_true (show 0<=s.1 from h1),decide_eq_true h2]
   cases ((s.2.1.length:Int)==67)<;>rfl
  ·rw[cond_dtt h1,cond_dff h2,decide_eq_false h2];simp
 ·rw[cond_dff h1,decide_eq_false (show ¬0<=s.1 from h1)];rfl
theorem rshp_ok(s:SigT):F_56 s=some (Sp.shp s,()):=by
 unfold F_56 Sp.shp
 by_cases h1:s.1>=0
 ·by_cases h2:s.1<4
  ·rw[cond_dtt h1,cond_dtt (show s.1<=3 by omega),decide_eq_true (show 0<=s.1 from h1),decide_eq_true h2]
   cases ((s.2.1.length:Int)==67)<;>rfl
  ·rw[cond_dtt h1,cond_dff (show ¬s.1<=3 by omega),decide_eq_false h2];simp
 ·rw[cond_dff h1,decide_eq_false (show ¬0<=s.1 from h1)];rfl
theorem vend_len(d:List Int)(c:List (List Int))(n:Nat):(Sp.vend d c n).length=n:=by simp[Sp.vend]
theorem vend_succ(d:List Int)(c:List (List Int))(n:Nat):Sp.vend d c (n+1)=Sp.vend d c n++[Sp.chn (15-d.getD n 0).toNat (d.getD n 0) (c.getD n h0)]:=by simp[Sp.vend,List.range_succ]
theorem ver_loop(key dg:List Int)(hb:bytes dg)(s:SigT)(hs:s.2.1.length=67):∀(d m j:Nat),j+d=67->d<m->L_62_0 m (Sp.digL dg) 67 (j:Nat) key s (Sp.vend (Sp.digL dg) s.2.1 j)=some (.e0 key s (Sp.vend (Sp.digL dg) s.2.1 67))
 |0,m+1,j,hj,_=>by
  rw[L_62_0,S_62_0,cond_dff (by omega),show j=67 by omega]
 |d+1,m+1,j,hj,hm=>by
  have hl:=digL_len dg
  have hd:=digL_b hb j (by omega)
  have h2:=pv_87 _ _ _ (chain_ok (s.2.1.getD j h0) ((Sp.digL dg).getD j 0) 15 hd.1 hd.2 (by decide))
  rw[L_62_0,S_62_0,cond_dtt (by omega),gd_inB (by omega) (by omega),gd_inB (by omega) (by omega),Int.toNat_natCast,h2.1,h2.2,gd_tt,gd_room (by rw[vend_len];omega) (by rw[vend_len];omega),wi64 (by omega) (by omega)]
  dsimp only
  rw[<-vend_succ]
  exact ver_loop key dg hb s hs d m (j+1) (by omega) (by omega)
theorem rver_loop(key dg:List Int)(hb:bytes dg)(s:SigT)(hs:s.2.1.length=67):∀(d m j:Nat),j+d=67->d<m->L_26_0 m (Sp.digL dg) (j:Nat) key s (Sp.vend (Sp.digL dg) s.2.1 j)=some (.e0 key s (Sp.vend (Sp.digL dg) s.2.1 67))
 |0,m+1,j,hj,_=>by
  rw[L_26_0,S_26_0,cond_dff (by omega),show j=67 by omega]
 |d+1,m+1,j,hj,hm=>by
  have hl:=digL_len dg
  have hd:=digL_b hb j (by omega)
  have h2:=pv_58 _ _ _ (rchain_ok (s.2.1.getD j h0) ((Sp.digL dg).getD j 0) 15 hd.1 hd.2 (by decide))
  rw[L_26_0,S_26_0,cond_dtt (by omega),gd_inB (by omega) (by omega),gd_inB (by omega) (by omega),Int.toNat_natCast,h2.1,h2.2,gd_tt,gd_room (by rw[vend_len];omega) (by rw[vend_len];omega),wi64 (by omega) (by omega)]
  dsimp only
  rw[<-vend_succ]
  exact rver_loop key dg hb s hs d m (j+1) (by omega) (by omega)
end Go.Ev
