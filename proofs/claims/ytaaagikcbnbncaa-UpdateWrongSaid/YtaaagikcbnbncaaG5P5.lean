/- Helpers: functions of the program as Lean functions, and what they compute. No condition. -/
import Derived.Test.YtaaagikcbnbncaaG5P4
import Derived.Test.YtaaagikcbnbncaaE5P5
import Derived.Test.YtaaagikcbnbncaaG5P1
import Derived.Test.YtaaagikcbnbncaaE5P4
import Derived.Test.YtaaagikcbnbncaaG5P2
import Derived.Test.YtaaagikcbnbncaaG5P3
set_option maxRecDepth 10000
set_option linter.unusedVariables false
set_option linter.unusedSimpArgs false
open Go.IntKind (wrap i64 i32 i16 i8 u64 u32 u16 u8)
open List (getD length take drop replicate)
open Int (toNat)
open Go.Ev.Sp
set_option linter.unusedSimpArgs false
set_option linter.unusedVariables false
namespace Go.Ev
open Go
set_option maxRecDepth 100000
set_option maxHeartbeats 4000000
namespace Sp
noncomputable def wd(a b c d:Int):Int:=orI .u32 (orI .u32 (orI .u32 (wrap .u32 (wrap .u32 a*16777216)) (wrap .u32 (wrap .u32 b*65536))) (wrap .u32 (wrap .u32 c*256))) (wrap .u32 d)
noncomputable def hwd(h:List Int)(i:Nat):Int:=wd (h.getD (4*i) 0) (h.getD (4*i+1) 0) (h.getD (4*i+2) 0) (h.getD (4*i+3) 0)
noncomputable def hws(h:List Int)(n:Nat):List Int:=(List.range n).map (hwd h)
noncomputable def cws(l:List (List Int)):List Int:=l.flatMap fun h=>hws h 8
noncomputable def wordsF(s:SigT):List Int:=[wrap .u32 s.1]++cws s.2.1++cws s.2.2.1
end Sp
theorem hws_len(h:List Int)(n:Nat):(Sp.hws h n).length=n:=by simp[Sp.hws]
theorem hws_succ(h:List Int)(n:Nat):Sp.hws h (n+1)=Sp.hws h n++[Sp.hwd h n]:=by simp[Sp.hws,List.range_succ]
theorem cws_len:∀l:List (List Int),(Sp.cws l).length=8*l.length
 |[]=>rfl
 |h::l=>by
  have:=cws_len l
  simp only[Sp.cws,List.flatMap_cons,List.length_append,List.length_cons,hws_len]at this⊢
  omega
theorem cws_succ(l:List (List Int))(j:Nat)(hj:j<l.length):Sp.cws (l.take (j+1))=Sp.cws (l.take j)++Sp.hws (l.getD j h0) 8:=by
 rw[List.take_succ_eq_append_getElem hj,getD_at _ hj]
 simp only[Sp.cws,List.flatMap_append,List.flatMap_cons,List.flatMap_nil,List.append_nil]
theorem seg_get(h:List Int)(hl:h.length=32)(i k:Nat)(hi:i<8)(hk:k<4):(take (32-4*i) (drop (4*i) h)).getD k 0=h.getD (4*i+k) 0:=by
 rw[List.getD_eq_getElem?_getD,List.getD_eq_getElem?_getD,List.getElem?_take,if_pos (by omega),List.getElem?_drop]
theorem sword_ok(h:List Int)(hl:h.length=32)(i:Nat)(hi:i<8):F_100 (take (32-4*i) (drop (4*i) h))=some (Sp.hwd h i,()):=by
 have hlen:(take (32-4*i) (drop (4*i) h)).length=32-4*i:=by simp;omega
 unfold F_100
 rw[hlen,gd_inB (by omega) (by omega),gd_inB (by omega) (by omega),gd_inB (by omega) (by omega),gd_inB (by omega) (by omega),seg_get h hl i 0 hi (by omega),seg_get h hl i 1 hi (by omega),seg_get h hl i 2 hi (by omega),seg_get h hl i 3 hi (by omega)]
 rfl
set_option maxRecDepth 100000
set_option maxHeartbeats 4000000
namespace Sp
noncomputable def byt(w:List Int)(k i:Nat):Int:=wrap .u8 (Int.fdiv (w.getD (1+8*k+i/4) 0) (2^(24-8*(i%4))))
noncomputable def rdp(w:List Int)(k n:Nat):List Int:=(List.range 32).map fun i=>if i<n then byt w k i else 0
noncomputable def rdh(w:List Int)(k:Nat):List Int:=(List.range 32).map (byt w k)
noncomputable def rdC(w:List Int)(n:Nat):List (List Int):=(List.range (min n 67)).map (rdh w)
noncomputable def rdP(w:List Int)(n:Nat):List (List Int):=(List.range (n-67)).map fun j=>rdh w (67+j)
noncomputable def rd(w:List Int):SigT:=(wrap .i64 (w.getD 0 0),rdC w 69,rdP w 69,())
noncomputable def okw(w:List Int):Bool:=decide (w.length=553)&&decide (w.getD 0 0<4)
end Sp
theorem rdp_zero(w:List Int)(k:Nat):Sp.rdp w k 0=replicate 32 0:=by
 unfold Sp.rdp
 apply List.ext_getElem
 ·simp
 ·intro i h1 h2;rw[List.getElem_replicate,List.getElem_map,List.getElem_range,if_neg (by omega)]
theorem rdp_full(w:List Int)(k:Nat):Sp.rdp w k 32=Sp.rdh w k:=by
 unfold Sp.rdp Sp.rdh
 refine List.map_congr_left fun i hi=> ?_
 rw[if_pos (by simpa using hi)]
theorem set_map(f:Nat->Int)(n a:Nat)(v:Int):((List.range n).map f).set a v=(List.range n).map fun i=>if i=a then v else f i:=by
 apply List.ext_getElem
 ·simp
 ·intro i h1 h2
  simp only[List.getElem_set,List.getElem_map,List.getElem_range]
  by_cases h:a=i
  ·subst h;simp
  ·rw[if_neg h,if_neg (fun e=>h e.symm)]
theorem rdp_set(w:List Int)(k n:Nat):(Sp.rdp w k n).set n (Sp.byt w k n)=Sp.rdp w k (n+1):=by
 unfold Sp.rdp
 rw[set_map]
 refine List.map_congr_left fun i _=> ?_
 by_cases h:i=n
 ·subst h;rw[if_pos rfl,if_pos (by omega)]
 ·rw[if_neg h]
  by_cases h2:i<n
  ·rw[if_pos h2,if_pos (by omega)]
  ·rw[if_neg h2,if_neg (by omega)]
theorem byt_at(w:List Int)(k j r:Nat)(hr:r<4):Sp.byt w k (4*j+r)=wrap .u8 (Int.fdiv (w.getD (1+8*k+j) 0) (2^(24-8*r))):=by
 unfold Sp.byt
 rw[show(4*j+r)/4=j by omega,show(4*j+r)%4=r by omega]
theorem fdiv_one(x:Int):Int.fdiv x (2^0)=x:=by simp
theorem rd_inner(w:List Int)(hw:w.length=553)(k:Nat)(hk:k<69)(p2 p4:Int)(p5 p6:List (List Int))(p7:Int)(p8 p9:List (List Int)):L_117_1 4611686018427387904 w k p2 0 p4 p5 p6 p7 p8 p9 (replicate 32 0)=some (.e0 w k p2 p4 p5 p6 p7 p8 p9 (Sp.rdh w k)):=by
 have:=run0 (fun m i s=>L_117_1 m w k p2 i p4 p5 p6 p7 p8 p9 s) (n:=8) (fun j=>Sp.rdp w k (4*j)) (r:=some (.e0 w k p2 p4 p5 p6 p7 p8 p9 (Sp.rdh w k))) (by decide) (fun m j hj=>by
  show L_117_1 (m+1) w k p2 (j:Int) p4 p5 p6 p7 p8 p9 (Sp.rdp w k (4*j))=_
  have e0:wrap .i64 (4*(j:Int))=4*(j:Int):=wi64 (by omega) (by omega)
  have e1:wrap .i64 (wrap .i64 (1+wrap .i64 (8*(k:Int)))+(j:Int))=((1+8*k+j:Nat):Int):=by
   rw[wi64 (n:=8*(k:Int)) (by omega) (by omega),wi64 (n:=1+8*(k:Int)) (by omega) (by omega),wi64 (by omega) (by omega)];omega
  have e2:toNat (4*(j:Int))=4*j:=by omega
  rw[L_117_1,S_117_1,cond_dtt (by omega),e0,e1,e2,Int.toNat_natCast,gd_sl3 (by omega) (by omega) (by omega),gd_inB (by omega) (by omega),gd_inB (by omega) (by omega),gd_inB (by omega) (by omega),gd_inB (by omega) (by omega),gd_inB (by omega) (by omega),Bool.and_true,Bool.and_true,Bool.and_true,Bool.and_true,gd_dec (by omega),gd_dec (by omega),gd_dec (by omega),gd_dec (by omega),wi64 (n:=(j:Int)+1) (by omega) (by omega)]
  have b0:=byt_at w k j 0 (by decide)
  have b1:=byt_at w k j 1 (by decide)
  have b2:=byt_at w k j 2 (by decide)
  have b3:=byt_at w k j 3 (by decide)
  rw[show(24-8*3:Nat)=0 from rfl,fdiv_one]at b3
  have f0:(16777216:Int)=2^(24-8*0):=by decide
  have f1:(65536:Int)=2^(24-8*1):=by decide
  have f2:(256:Int)=2^(24-8*2):=by decide
  have s0:(Sp.rdp w k (4*j)).set (4*j+0) (Sp.byt w k (4*j+0))=Sp.rdp w k (4*j+1):=rdp_set w k (4*j)
  have s1:(Sp.rdp w k (4*j+1)).set (4*j+1) (Sp.byt w k (4*j+1))=Sp.rdp w k (4*j+2):=rdp_set w k (4*j+1)
  have s2:(Sp.rdp w k (4*j+2)).set (4*j+2) (Sp.byt w k (4*j+2))=Sp.rdp w k (4*j+3):=rdp_set w k (4*j+2)
  have s3:(Sp.rdp w k (4*j+3)).set (4*j+3) (Sp.byt w k (4*j+3))=Sp.rdp w k (4*(j+1)):=rdp_set w k (4*j+3)
  rw[f0,f1,f2,<-b0,<-b1,<-b2,<-b3,s0,s1,s2,s3]
  rfl) (fun m=>by
  show L_117_1 (m+1) w k p2 8 p4 p5 p6 p7 p8 p9 (Sp.rdp w k 32)=_
  rw[L_117_1,S_117_1,cond_dff (by decide),rdp_full])
 rw[<-rdp_zero w k]
 exact this
theorem rdC_len(w:List Int)(n:Nat):(Sp.rdC w n).length=min n 67:=by simp[Sp.rdC]
theorem rdP_len(w:List Int)(n:Nat):(Sp.rdP w n).length=n-67:=by simp[Sp.rdP]
theorem rd_succ(w:List Int)(k:Nat):(k<67->Sp.rdC w (k+1)=Sp.rdC w k++[Sp.rdh w k]/\Sp.rdP w (k+1)=Sp.rdP w k)/\(67<=k->Sp.rdC w (k+1)=Sp.rdC w k/\Sp.rdP w (k+1)=Sp.rdP w k++[Sp.rdh w k]):=by
 refine⟨fun h=> ?_,fun h=> ?_⟩
 ·unfold Sp.rdC Sp.rdP
  rw[Nat.min_eq_left (by omega),Nat.min_eq_left (by omega),show k+1-67=0 by omega,show k-67=0 by omega,List.range_succ,List.map_append]
  exact⟨rfl,rfl⟩
 ·unfold Sp.rdC Sp.rdP
  rw[Nat.min_eq_right (by omega),Nat.min_eq_right (by omega),show k+1-67=(k-67)+1 by omega,List.range_succ (n:=k-67),List.map_append]
  refine⟨rfl,?_⟩
  simp only[List.map_cons,List.map_nil,show 67+(k-67)=k by omega]
theorem rd_outer(w:List Int)(hw:w.length=553)(x:Int):L_117_0 4611686018427387904 w 0 0 [] [] x [] []=some (.e0 0 [] [] x (Sp.rdC w 69) (Sp.rdP w 69)):=by
 have:=run0 (fun m i(s:List (List Int)×List (List Int))=>L_117_0 m w i 0 [] [] x s.1 s.2) (n:=69) (fun j=>(Sp.rdC w j,Sp.rdP w j)) (r:=some (.e0 0 [] [] x (Sp.rdC w 69) (Sp.rdP w 69))) (by decide) (fun m j hj=>by
  show L_117_0 (m+1) w (j:Int) 0 [] [] x (Sp.rdC w j) (Sp.rdP w j)=L_117_0 m w ((j+1:Nat):Int) 0 [] [] x (Sp.rdC w (j+1)) (Sp.rdP w (j+1))
  have l1:=rdC_len w j
  have l2:=rdP_len w j
  rw[L_117_0,S_117_0,cond_dtt (by omega),rd_inner w hw j hj]
  simp only[B_117_1]
  rw[wi64 (by omega) (by omega)]
  by_cases h:j<67
  ·rw[cond_dtt (by omega),gd_room (by omega) (by omega),((rd_succ w j).1 h).1,((rd_succ w j).1 h).2];rfl
  ·rw[cond_dff (by omega),gd_room (by omega) (by omega),((rd_succ w j).2 (by omega)).1,((rd_succ w j).2 (by omega)).2];rfl) (fun m=>by
  show L_117_0 (m+1) w 69 0 [] [] x (Sp.rdC w 69) (Sp.rdP w 69)=_
  rw[L_117_0,S_117_0,cond_dff (by decide)])
 exact this
theorem read_ok(w:List Int):F_117 w=some (if Sp.okw w=true then(Sp.rd w,0,())else((0,[],[],()),3,())):=by
 unfold F_117 Sp.okw
 by_cases h1:w.length=553
 ·rw[cond_nff (by omega),decide_eq_true h1,gd_inB (by omega) (by omega)]
  by_cases h2:w.getD 0 0<4
  ·rw[cond_dff (by omega),decide_eq_true h2,gd_inB (by omega) (by omega),rd_outer w h1]
   rfl
  ·rw[cond_dtt (by omega),decide_eq_false h2];rfl
 ·rw[cond_ntt (by omega),decide_eq_false h1];rfl
set_option maxRecDepth 100000
set_option maxHeartbeats 4000000
theorem hloop(h:List Int)(hl:h.length=32)(p1 p2:Int)(p3:List (List Int))(p4 p5:Int)(p6:List Int)(h6:p6.length<=1000000)(p8:List (List (List Int))):L_74_2 4611686018427387904 0 p1 p2 p3 p4 p5 p6 h p8=some (.e0 p1 p2 p3 p4 p5 (p6++Sp.hws h 8) p8):=by
 have:=run0 (fun m i s=>L_74_2 m (4*i) p1 p2 p3 p4 p5 s h p8) (n:=8) (fun j=>p6++Sp.hws h j) (r:=some (.e0 p1 p2 p3 p4 p5 (p6++Sp.hws h 8) p8)) (by decide) (fun m j hj=>by
  have hp:=pv_100 _ (sword_ok h hl j hj)
  have e:toNat (4*(j:Int))=4*j:=by omega
  show L_74_2 (m+1) (4*(j:Int)) p1 p2 p3 p4 p5 (p6++Sp.hws h j) h p8=_
  rw[L_74_2,S_74_2,cond_dtt (by omega),gd_sl3 (by omega) (by omega) (by omega),e,hp.1,hp.2,Bool.and_true,Bool.and_true,gd_dec (by omega),gd_room (by rw[List.length_append,hws_len];omega) (by rw[List.length_append,hws_len];omega),wi64 (by omega) (by omega),hws_succ,List.append_assoc,show 4*(j:Int)+4=4*((j+1:Nat):Int) by omega]) (fun m=>by
  show L_74_2 (m+1) 32 p1 p2 p3 p4 p5 (p6++Sp.hws h 8) h p8=_
  rw[L_74_2,S_74_2,cond_dff (by decide)])
 simpa[Sp.hws]using this
theorem cloop(p0 p1:Int)(l:List (List Int))(hl:∀h∈l,h.length=32)(hn:l.length<=1000)(p5:List Int)(h5:p5.length<=100000)(p6:List (List (List Int))):L_74_1 4611686018427387904 p0 p1 l l.length 0 p5 p6=some (.e0 p0 p1 (p5++Sp.cws l) p6):=by
 have:=run0 (fun m i s=>L_74_1 m p0 p1 l l.length i s p6) (n:=l.length) (fun j=>p5++Sp.cws (l.take j)) (r:=some (.e0 p0 p1 (p5++Sp.cws l) p6)) (by omega) (fun m j hj=>by
  have hg:(l.getD j h0).length=32:=by rw[getD_at _ hj];exact hl _ (List.getElem_mem hj)
  have hc:(Sp.cws (l.take j)).length<=8000:=by rw[cws_len,List.length_take];omega
  show L_74_1 (m+1) p0 p1 l l.length j (p5++Sp.cws (l.take j)) p6=_
  rw[L_74_1,S_74_1,cond_dtt (by omega),gd_inB (by omega) (by omega),Int.toNat_natCast,hloop _ hg _ _ _ _ _ _ (by rw[List.length_append];omega)]
  simp only[B_74_2]
  rw[wi64 (by omega) (by omega),cws_succ l j hj,List.append_assoc]
  rfl) (fun m=>by
  show L_74_1 (m+1) p0 p1 l l.length l.length (p5++Sp.cws (l.take l.length)) p6=_
  rw[L_74_1,S_74_1,cond_dff (by omega),List.take_length])
 simpa[Sp.cws]using this
theorem swords_ok(s:SigT)(h1:∀h∈s.2.1,h.length=32)(h2:∀h∈s.2.2.1,h.length=32):F_74 s=some (if Sp.shp s=true then(Sp.wordsF s,0,())else([],1,())):=by
 have a:=pv_85 _ (shp_ok s)
 unfold F_74
 rw[a.1,a.2,gd_tt]
 cases hs:Sp.shp s
 ·rfl
 ·obtain⟨_,_,h3,h4⟩:0<=s.1/\s.1<4/\s.2.1.length=67/\s.2.2.1.length=2:=by
   simp only[Sp.shp,Bool.and_eq_true,decide_eq_true_eq,beq_iff_eq]at hs
   omega
  have l1:=cws_len s.2.1
  simp only[Bool.not_true,cond_f,if_true]
  have e0:L_74_0 4611686018427387904 ((2:Nat):Int) 0 [wrap .u32 s.1] [s.2.1,s.2.2.1]=some (.e0 (Sp.wordsF s)):=by
   show L_74_0 (4611686018427387901+1+1+1) ((2:Nat):Int) 0 [wrap .u32 s.1] [s.2.1,s.2.2.1]=_
   rw[L_74_0,S_74_0,cond_dtt (by decide),gd_inB (by simp) (by simp)]
   simp only[Int.toNat_zero,List.getD_cons_zero,List.length_cons,List.length_nil,Nat.zero_add]
   rw[Bool.and_true,gd_dec (by decide),cloop _ _ _ h1 (by omega) _ (by simp)]
   simp only[B_74_1]
   rw[show wrap .i64 (0+1)=1 from by decide,L_74_0,S_74_0,cond_dtt (by decide),gd_inB (by simp) (by simp)]
   simp only[show toNat 1=1 from rfl,List.getD_cons_succ,List.getD_cons_zero,List.length_cons,List.length_nil]
   rw[Bool.and_true,gd_dec (by decide),cloop _ _ _ h2 (by omega) _ (by rw[List.length_append,l1,List.length_singleton];omega)]
   simp only[B_74_1]
   rw[show wrap .i64 (1+1)=2 from by decide,L_74_0,S_74_0,cond_dff (by decide)]
   rfl
  rw[e0]
  rfl
abbrev HdrT:=Int×Int×List Int×SigT×Unit
abbrev DlT:=Int×Int×Int×HdrT×Unit
structure H32(h:HdrT):Prop where
 d:h.2.2.1.length=32
 c:∀x∈h.2.2.2.1.2.1,x.length=32
 p:∀x∈h.2.2.2.1.2.2.1,x.length=32
namespace Sp
noncomputable def z32:List Int:=replicate 32 0
noncomputable def zsg(s:SigT):Bool:=s.1==0&&(s.2.1.length==0&&s.2.2.1.length==0)
noncomputable def zhd(h:HdrT):Bool:=h.1==0&&(h.2.1==0&&(h.2.2.1==z32&&zsg h.2.2.2.1))
noncomputable def zdl(d:DlT):Bool:=d.1==0&&(d.2.1==0&&(d.2.2.1==0&&zhd d.2.2.2.1))
noncomputable def rgt(h:HdrT)(n:Int):Bool:=decide (1<=h.1)&&(decide (h.1<=2147483647)&&(decide (1<=h.2.1)&&(decide (h.2.1<=n)&&shp h.2.2.2.1)))
noncomputable def vst(d:DlT):Bool:=bif d.1==1 then decide (0<=d.2.2.1)&&(decide (d.2.2.1<d.2.2.2.1.2.1)&&Int.tmod d.2.2.1 32==0)else bif d.1==2 then d.2.2.1==d.2.2.2.1.2.1 else false
noncomputable def vdl(d:DlT):Bool:=zdl d||((d.2.1==0||d.2.1==1)&&(rgt d.2.2.2.1 1484&&vst d))
end Sp
theorem zero_ok(d:DlT):F_37 d=some (Sp.zdl d,()):=by
 unfold F_37 Sp.zdl Sp.zhd Sp.zsg
 have e:∀(l:List (List Int)),((l.length:Int)==0)=(l.length==0):=fun l=>by
  rw[Bool.eq_iff_iff,beq_iff_eq,beq_iff_eq];omega
 rw[e,e]
 show _=some (_,())
 have hb:Ty.beq (.arr 32 (.int .u8)) d.2.2.2.1.2.2.1 (replicate 32 0)=(d.2.2.2.1.2.2.1==Sp.z32):=rfl
 rw[hb]
 cases d.1==0<;>cases d.2.1==0<;>cases d.2.2.1==0<;>cases d.2.2.2.1.1==0<;>cases d.2.2.2.1.2.1==0<;>cases d.2.2.2.1.2.2.1==Sp.z32<;>cases d.2.2.2.1.2.2.2.1.1==0<;>cases d.2.2.2.1.2.2.2.1.2.1.length==0<;>rfl
theorem right_ok{h:HdrT}(hh:H32 h)(n:Int):F_38 h n=some (Sp.rgt h n,()):=by
 have w:=pv_74 _ (swords_ok h.2.2.2.1 hh.c hh.p)
 unfold F_38 Sp.rgt
 rw[w.1,w.2,gd_tt]
 have e:((if Sp.shp h.2.2.2.1=true then(Sp.wordsF h.2.2.2.1,0,())else(([]:List Int),(1:Int),())).2.1==0)=Sp.shp h.2.2.2.1:=by
  cases Sp.shp h.2.2.2.1<;>rfl
 rw[e]
 show(bif decide (1<=h.1)then bif decide (h.1<=2147483647)then bif decide (1<=h.2.1)then bif decide (h.2.1<=n)then some (Sp.shp h.2.2.2.1,())else some (false,())else some (false,())else some (false,())else some (false,()))=_
 cases decide (1<=h.1)<;>cases decide (h.1<=2147483647)<;>cases decide (1<=h.2.1)<;>cases decide (h.2.1<=n)<;>rfl
theorem ssame0(s:SigT):F_73 s (0,[],[],())=some (Sp.zsg s,()):=by
 unfold F_73 Sp.zsg
 show(bif s.1 !=0 then some (false,())else bif(s.2.1.length:Int)!=0 then some (false,())else bif(s.2.2.1.length:Int)!=0 then some (false,())else _)=_
 by_cases h1:s.1=0
 rotate_left
 ·rw[cond_ntt h1,beq_eq_false_iff_ne.2 h1];rfl
 rw[cond_nff h1,beq_iff_eq.2 h1,Bool.true_and]
 by_cases h2:s.2.1.length=0
 rotate_left
 ·rw[cond_ntt (by omega),beq_eq_false_iff_ne.2 h2];rfl
 rw[cond_nff (by omega),beq_iff_eq.2 h2,Bool.true_and]
 by_cases h3:s.2.2.1.length=0
 rotate_left
 ·rw[cond_ntt (by omega),beq_eq_false_iff_ne.2 h3]
 rw[cond_nff (by omega),beq_iff_eq.2 h3]
 have l0:L_73_0 4611686018427387904 0 s (0,[],[],())=some (.e1 s (0,[],[],())):=by
  show L_73_0 (4611686018427387903+1) 0 s (0,[],[],())=_
  rw[L_73_0,S_73_0,cond_dff (by omega)]
 have l1:L_73_1 4611686018427387904 0 s (0,[],[],())=some .e1:=by
  show L_73_1 (4611686018427387903+1) 0 s (0,[],[],())=_
  rw[L_73_1,S_73_1,cond_dff (by omega)]
 rw[l0]
 simp only[B_73_0]
 rw[l1]
 rfl
theorem hsame0(h:HdrT):F_36 h (0,0,replicate 32 0,(0,[],[],()),())=some (Sp.zhd h,()):=by
 have s:=pv_73 _ _ (ssame0 h.2.2.2.1)
 unfold F_36 Sp.zhd
 show(bif h.1==0 then bif h.2.1==0 then bif h.2.2.1==Sp.z32 then gd (p_73 h.2.2.2.1 (0,[],[],())) (some ((v_73 h.2.2.2.1 (0,[],[],())).1,()))else some (false,())else some (false,())else some (false,()))=_
 rw[s.1,s.2,gd_tt]
 cases h.1==0<;>cases h.2.1==0<;>cases h.2.2.1==Sp.z32<;>rfl
theorem rzero_ok(d:DlT):F_10 d=some (Sp.zdl d,()):=by
 have s:=pv_36 _ _ (hsame0 d.2.2.2.1)
 unfold F_10 Sp.zdl
 rw[s.1,s.2,gd_tt]
 cases d.1==0<;>cases d.2.1==0<;>cases d.2.2.1==0<;>rfl
theorem valid_ok{d:DlT}(hh:H32 d.2.2.2.1):F_13 d=some (Sp.vdl d,()):=by
 have z:=pv_37 _ (zero_ok d)
 have r:=pv_38 _ _ (right_ok hh 1484)
 unfold F_13 Sp.vdl Sp.vst
 rw[z.1,z.2,gd_tt,r.1,r.2,gd_tt]
 dsimp only
 cases Sp.zdl d
 rotate_left
 ·rfl
 unfold J_13_0 S_13_0
 have e0:(d.2.1 !=0)= !(d.2.1==0):=rfl
 have e1:(d.2.1 !=1)= !(d.2.1==1):=rfl
 rw[e0,e1]
 show(bif !(d.2.1==0)then _ else _)=_
 generalize Sp.rgt d.2.2.2.1 1484=g
 have e2:decide (d.2.2.1>=0)=decide (0<=d.2.2.1):=rfl
 rw[e2]
 by_cases s1:d.1=1
 ·rw[s1]
  cases d.2.1==0<;>cases d.2.1==1<;>cases g<;>cases decide (0<=d.2.2.1)<;>cases decide (d.2.2.1<d.2.2.2.1.2.1)<;>rfl
 ·rw[beq_eq_false_iff_ne.2 s1]
  by_cases s2:d.1=2
  ·rw[beq_iff_eq.2 s2]
   cases d.2.1==0<;>cases d.2.1==1<;>cases g<;>rfl
  ·rw[beq_eq_false_iff_ne.2 s2]
   cases d.2.1==0<;>cases d.2.1==1<;>cases g<;>rfl
set_option maxRecDepth 100000
set_option maxHeartbeats 4000000
namespace Sp
noncomputable def hdp(h:HdrT):List Int:=[wrap .u32 h.1,wrap .u32 h.2.1]
noncomputable def hdw(h:HdrT):List Int:=hdp h++hws h.2.2.1 8++wordsF h.2.2.2.1
end Sp
theorem chunk_e(j:Nat)(hj:j<8):wrap .i64 (((4*j:Nat):Int)+if((32-toNat ((4*j:Nat):Int):Nat):Int)<4 then((32-toNat ((4*j:Nat):Int):Nat):Int)else 4)=((4*j+4:Nat):Int):=by
 rw[Int.toNat_natCast,if_neg (by omega),wi64 (by omega) (by omega)]
 push_cast
 rfl
theorem hd_n(h:HdrT):∀(d m j:Nat),j+d=8->d<m->L_65_113_0_1 m ((4*j:Nat):Int) h 4 (Sp.hdp h++Sp.hws h.2.2.1 j)=some (.e0 h 4 (Sp.hdp h++Sp.hws h.2.2.1 8))
 |0,m+1,j,hj,_=>by
  have:j=8:=by omega
  subst this
  rw[L_65_113_0_1,S_65_113_0_1,cond_dff (by omega)]
 |d+1,m+1,j,hj,hm=>by
  have hl:(Sp.hdp h++Sp.hws h.2.2.1 j).length=2+j:=by rw[List.length_append,hws_len];rfl
  rw[L_65_113_0_1,S_65_113_0_1,cond_dtt (by omega),gd_sl3 (by omega) (by omega) (by omega),chunk_e j (by omega),gd_and,gd_sl3 (by omega) (by omega) (by omega),gd_dec (by omega),Int.toNat_natCast,Int.toNat_natCast,gd_inB (by omega) (by omega),gd_and,gd_dec (by omega),gd_tt,gd_inB (by omega) (by omega),gd_and,gd_dec (by omega),gd_tt,gd_inB (by omega) (by omega),gd_and,gd_dec (by omega),gd_tt,gd_inB (by omega) (by omega),gd_and,gd_dec (by omega),gd_tt,gd_room (by omega) (by omega),wi64 (n:=((4*j:Nat):Int)+4) (by omega) (by omega),show((4*j:Nat):Int)+4=((4*(j+1):Nat):Int) by omega]
  have:=hd_n h d m (j+1) (by omega) (by omega)
  rw[hws_succ,<-List.append_assoc]at this
  simp only[Nat.zero_add,Nat.add_zero]
  exact this
theorem hd_f(h:HdrT):L_65_113_0_0 4611686018427387904 0 h (Sp.hdp h) 4=some (.e1 h 4 (Sp.hdp h++Sp.hws h.2.2.1 8)):=by
 show L_65_113_0_0 (4611686018427387903+1) ((4*0:Nat):Int) h (Sp.hdp h) 4=_
 have hl:(Sp.hdp h).length=2:=rfl
 rw[L_65_113_0_0,S_65_113_0_0,cond_dtt (by omega),gd_sl3 (by omega) (by omega) (by omega),chunk_e 0 (by omega),gd_and,gd_sl3 (by omega) (by omega) (by omega),gd_dec (by omega),Int.toNat_natCast,Int.toNat_natCast,gd_inB (by omega) (by omega),gd_and,gd_dec (by omega),gd_tt,gd_inB (by omega) (by omega),gd_and,gd_dec (by omega),gd_tt,gd_inB (by omega) (by omega),gd_and,gd_dec (by omega),gd_tt,gd_inB (by omega) (by omega),gd_and,gd_dec (by omega),gd_tt,gd_room (by omega) (by omega),wi64 (n:=((4*0:Nat):Int)+4) (by omega) (by omega),show((4*0:Nat):Int)+4=((4*1:Nat):Int) by omega]
 have:=hd_n h 7 4611686018427387903 1 (by omega) (by omega)
 have e1:Sp.hws h.2.2.1 1=[Sp.hwd h.2.2.1 0]:=rfl
 rw[e1]at this
 simp only[Nat.zero_add,Nat.add_zero]
 refine(congrArg (fun z=>B_65_113_0_1 z _) this).trans ?_
 rfl
theorem wordsF_len{s:SigT}(h:Sp.shp s=true):(Sp.wordsF s).length=553:=by
 obtain⟨h3,h4⟩:s.2.1.length=67/\s.2.2.1.length=2:=by
  simp only[Sp.shp,Bool.and_eq_true,decide_eq_true_eq,beq_iff_eq]at h
  omega
 unfold Sp.wordsF
 rw[List.length_append,List.length_append,cws_len,cws_len,h3,h4]
 rfl
theorem hdw_len{h:HdrT}(hs:Sp.shp h.2.2.2.1=true):(Sp.hdw h).length=563:=by
 unfold Sp.hdw
 rw[List.length_append,List.length_append,hws_len,wordsF_len hs]
 rfl
theorem hdw_pv{h:HdrT}(hh:H32 h)(hs:Sp.shp h.2.2.2.1=true):p_65 h=true/\v_65 h=(Sp.hdw h,()):=by
 refine pv_65 h ?_
 have w:=pv_74 _ (swords_ok h.2.2.2.1 hh.c hh.p)
 unfold F_65
 refine(congrArg (fun z=>B_65_113_0_0 z _ _) (hd_f h)).trans ?_
 unfold B_65_113_0_0
 dsimp only
 rw[w.1,w.2,gd_tt,if_pos hs]
 dsimp only
 have l1:(Sp.hdp h++Sp.hws h.2.2.1 8).length=10:=by rw[List.length_append,hws_len];rfl
 have l2:=wordsF_len hs
 rw[gd_room (by omega) (by omega)]
 rfl
theorem fnd_has(l:List Int)(x:Int):(match fnd (fun j=>x==l.getD j 0) l.length 0 with|some k=>decide ((k:Int)>=0)|none=>decide ((-1:Int)>=0))=l.contains x:=by
 cases hf:fnd (fun j=>x==l.getD j 0) l.length 0 with
 |none=>
  have:=fnd_none.1 hf
  show false=_
  cases hc:l.contains x
  ·rfl
  ·have hm:x∈l:=by simpa using hc
   obtain⟨i,hi,e⟩:=List.mem_iff_getElem.1 hm
   have h2:=this i (by omega) (by omega)
   rw[getD_at 0 hi,e]at h2
   simp at h2
 |some k=>
  have hk:=fnd_some hf
  show decide ((k:Int)>=0)=_
  rw[decide_eq_true (by omega)]
  have h2:(x==l.getD k 0)=true:=hk.2.2.1
  have h3:k<l.length:=by have:=hk.2.1;omega
  rw[getD_at 0 h3]at h2
  have:x∈l:=by rw[beq_iff_eq.1 h2];exact List.getElem_mem h3
  exact(by simpa using this:l.contains x=true).symm
theorem cont_pv(l:List Int)(x:Int)(hl:l.length<1000000):p_63 l x=true/\v_63 l x=(l.contains x,()):=by
 have i:∃k:Int,(p_90 l x=true/\v_90 l x=(k,()))/\decide (k>=0)=l.contains x:=by
  have hf:=find0 (fun m i=>L_90_0 m l x l.length i) (n:=l.length) (fun j=>x==l.getD j 0) (ex:=fun j=>some (.e0 (j:Int))) (e1:=some .e1) (by omega) (fun m j hj=>by
   show L_90_0 (m+1) l x l.length (j:Int)=bif x==l.getD j 0 then some (.e0 (j:Int))else L_90_0 m l x l.length ((j+1:Nat):Int)
   rw[L_90_0,S_90_0,cond_dtt (by omega),gd_inB (by omega) (by omega),Int.toNat_natCast,wi64 (by omega) (by omega)]
   push_cast
   rfl) (fun m=>by
   show L_90_0 (m+1) l x l.length (l.length:Int)=_
   rw[L_90_0,S_90_0,cond_dff (by omega)])
  have e:=fnd_has l x
  cases hq:fnd (fun j=>x==l.getD j 0) l.length 0 with
  |none=>
   rw[hq]at hf e
   refine⟨-1,pv_90 l x ?_,e⟩
   unfold F_90
   exact(congrArg (fun z=>B_90_0 z _ _) hf).trans rfl
  |some k=>
   rw[hq]at hf e
   refine⟨k,pv_90 l x ?_,e⟩
   unfold F_90
   exact(congrArg (fun z=>B_90_0 z _ _) hf).trans rfl
 obtain⟨k,⟨h1,h2⟩,h3⟩:=i
 refine pv_63 l x ?_
 unfold F_63
 rw[h1,h2,gd_tt,<-h3]
set_option maxRecDepth 100000
set_option maxHeartbeats 4000000
abbrev FlT:=List Int×List Int×Int×Unit
abbrev PwT:=Int×Int×Unit
abbrev OpT:=Bool×Int×Int×Unit
abbrev RsT:=FlT×PwT×Int×Unit
namespace Sp
noncomputable def wb(f:FlT)(j:Nat):Bool:=decide (f.2.1.getD j 0<0)||decide (f.2.1.getD j 0>f.2.2.1)
noncomputable def fv(f:FlT):Bool:=decide (1<=f.2.1.length)&&(decide (f.2.1.length<=64)&&(decide (f.1.length=f.2.1.length*64)&&(decide (1<=f.2.2.1)&&(decide (f.2.2.1<=1000000)&&(fnd (wb f) f.2.1.length 0).isNone))))
noncomputable def pw(f:FlT)(k:Nat)(w bits:Int):FlT:=(f.1.set k (andnI .u32 (f.1.getD k 0) (andnI .u32 bits w)),f.2.1,f.2.2.1,())
noncomputable def prg(f:FlT)(k:Nat)(w:Int)(p:PwT):RsT:=if p.1=0 then(f,p,18,())else if p.1=1 then(pw f k w p.2.1,(0,p.2),18,())else(pw f k w 4294967295,(p.1-1,p.2),0,())
noncomputable def orW(ws:List Int)(o:Nat)(bits:Int)(n:Nat):List Int:=ws.mapIdx (fun i x=>if o<=i/\i<o+n then orI .u32 x bits else x)
noncomputable def ew(f:FlT)(s:Nat)(bits:Int):FlT:=(orW f.1 (s*64) bits 64,f.2.1.set s (f.2.1.getD s 0+1),f.2.2.1,())
noncomputable def ers(f:FlT)(s:Nat)(p:PwT):RsT:=if f.2.1.getD s 0=f.2.2.1 then(([],[],0,()),(0,0,()),19,())else if p.1=0 then(f,p,18,())else if p.1=1 then(ew f s p.2.1,(0,p.2),18,())else(ew f s 4294967295,(p.1-1,p.2),0,())
end Sp
theorem full_pv:p_28=true/\v_28=((1099511627776,0,()),()):=pv_28 rfl
theorem fv_iff{f:FlT}:Sp.fv f=true↔1<=f.2.1.length/\f.2.1.length<=64/\f.1.length=f.2.1.length*64/\1<=f.2.2.1/\f.2.2.1<=1000000/\∀j,j<f.2.1.length->0<=f.2.1.getD j 0/\f.2.1.getD j 0<=f.2.2.1:=by
 simp only[Sp.fv,Bool.and_eq_true,decide_eq_true_eq,Option.isNone_iff_eq_none,fnd_none,Sp.wb,Bool.or_eq_false_iff,decide_eq_false_iff_not]
 constructor
 ·rintro⟨a,b,c,d,e,g⟩
  refine⟨a,b,c,d,e,fun j hj=> ?_⟩
  have:=g j (by omega) (by omega)
  omega
 ·rintro⟨a,b,c,d,e,g⟩
  refine⟨a,b,c,d,e,fun j _ hj=> ?_⟩
  have:=g j (by omega)
  omega
theorem fv_ok(f:FlT):F_69 f=some (Sp.fv f,()):=by
 unfold F_69 Sp.fv
 by_cases h1:(f.2.1.length:Int)<1
 ·rw[cond_dtt h1,decide_eq_false (by omega)];rfl
 rw[cond_dff h1,decide_eq_true (p:=1<=f.2.1.length) (by omega),Bool.true_and]
 by_cases h2:(f.2.1.length:Int)>64
 ·rw[cond_dtt h2,decide_eq_false (by omega)];rfl
 rw[cond_dff h2,decide_eq_true (p:=f.2.1.length<=64) (by omega),Bool.true_and,wi64 (by omega) (by omega)]
 by_cases h3:(f.1.length:Int)=(f.2.1.length:Int)*64
 rotate_left
 ·rw[cond_ntt h3,decide_eq_false (p:=f.1.length=_) (by omega)];rfl
 rw[cond_nff h3,decide_eq_true (p:=f.1.length=_) (by omega),Bool.true_and]
 by_cases h4:f.2.2.1<1
 ·rw[cond_dtt h4,decide_eq_false (by omega)];rfl
 rw[cond_dff h4,decide_eq_true (p:=1<=f.2.2.1) (by omega),Bool.true_and]
 by_cases h5:f.2.2.1>1000000
 ·rw[cond_dtt h5,decide_eq_false (by omega)];rfl
 rw[cond_dff h5,decide_eq_true (p:=f.2.2.1<=1000000) (by omega),Bool.true_and]
 have hf:=find0 (fun m i=>L_69_114_0_0 m f.2.1 f.2.1.length i f) (n:=f.2.1.length) (Sp.wb f) (ex:=fun j=>some (.e0 (j:Int) f)) (e1:=some (.e1 f)) (by omega) (fun m j hj=>by
  show L_69_114_0_0 (m+1) f.2.1 f.2.1.length j f=bif Sp.wb f j then some (.e0 (j:Int) f)else L_69_114_0_0 m f.2.1 f.2.1.length ((j+1:Nat):Int) f
  rw[L_69_114_0_0,S_69_114_0_0,cond_dtt (by omega),gd_inB (by omega) (by omega),Int.toNat_natCast,wi64 (by omega) (by omega)]
  unfold Sp.wb
  push_cast
  grind) (fun m=>by
  show L_69_114_0_0 (m+1) f.2.1 f.2.1.length f.2.1.length f=_
  rw[L_69_114_0_0,S_69_114_0_0,cond_dff (by omega)])
 rw[hf]
 cases fnd (Sp.wb f) f.2.1.length 0 with
 |none=>rfl
 |some k=>
  simp only[B_69_114_0_0,Option.isNone]
  rw[decide_eq_true (by omega)]
  rfl
theorem fv_pv(f:FlT):p_69 f=true/\v_69 f=(Sp.fv f,()):=pv_69 f (fv_ok f)
theorem chk_pv{f:FlT}{p:PwT}{a n:Int}(h:Sp.fv f=true)(h0:0<=p.1)(h1:p.1<=1099511627776)(h2:0<=a)(h3:a<n):p_101 f p a n=true/\v_101 f p a n=(0,()):=by
 refine pv_101 f p a n ?_
 unfold F_101
 rw[(fv_pv f).1,(fv_pv f).2,gd_tt,h,Bool.not_true,cond_f,cond_dff (by omega),cond_dff (by omega),cond_dff (by omega),cond_dff (by omega)]
theorem prg_ok{f:FlT}{p:PwT}{k:Nat}{w:Int}(h:Sp.fv f=true)(h0:0<=p.1)(h1:p.1<=1099511627776)(h2:k<f.1.length):F_76 f k w p=some (Sp.prg f k w p):=by
 have hv:=fv_iff.1 h
 unfold F_76 Sp.prg Sp.pw
 rw[(chk_pv h h0 h1 (by omega) (by omega)).1,(chk_pv h h0 h1 (by omega) (by omega)).2,gd_tt,cond_nff rfl,gd_room (by omega) (by omega),gd_room (by omega) (by omega)]
 simp only[gd_inB (show(0:Int)<=(k:Int) by omega) (show(k:Int)<((f.1.length:Nat):Int) by omega),Int.toNat_natCast,Bool.and_true,gd_dec h2]
 by_cases e0:p.1=0
 ·rw[cond_ett e0,if_pos e0]
 rw[cond_eff e0,if_neg e0]
 by_cases e1:p.1=1
 ·rw[cond_ett e1,if_pos e1]
 rw[cond_eff e1,if_neg e1,wi64 (by omega) (by omega)]
theorem prg_pv{f:FlT}{p:PwT}{k:Nat}{w:Int}(h:Sp.fv f=true)(h0:0<=p.1)(h1:p.1<=1099511627776)(h2:k<f.1.length):p_76 f k w p=true/\v_76 f k w p=Sp.prg f k w p:=pv_76 f k w p (prg_ok h h0 h1 h2)
theorem getD_set{α:Type}(l:List α)(i j:Nat)(x d:α)(h:i<l.length):(l.set i x).getD j d=if i=j then x else l.getD j d:=by
 simp only[List.getD_eq_getElem?_getD,List.getElem?_set]
 split
 ·simp[h]
 ·rfl
set_option maxRecDepth 100000
set_option maxHeartbeats 4000000
theorem orW_len(ws:List Int)(o:Nat)(b:Int)(n:Nat):(Sp.orW ws o b n).length=ws.length:=by simp[Sp.orW]
theorem orW_get(ws:List Int)(o:Nat)(b:Int)(n i:Nat)(h:i<ws.length):(Sp.orW ws o b n).getD i 0=if o<=i/\i<o+n then Sp.orI .u32 (ws.getD i 0) b else ws.getD i 0:=by
 have hl:i<(Sp.orW ws o b n).length:=by rw[orW_len];exact h
 rw[getD_at 0 hl,getD_at 0 h]
 simp[Sp.orW]
theorem orW_zero(ws:List Int)(o:Nat)(b:Int):Sp.orW ws o b 0=ws:=by
 refine list_ext 0 (orW_len ..) (fun j hj=> ?_)
 rw[orW_len]at hj
 rw[orW_get _ _ _ _ _ hj,if_neg (by omega)]
theorem orW_succ(ws:List Int)(o:Nat)(b:Int)(n:Nat)(h:o+n<ws.length):(Sp.orW ws o b n).set (o+n) (Sp.orI .u32 ((Sp.orW ws o b n).getD (o+n) 0) b)=Sp.orW ws o b (n+1):=by
 refine list_ext 0 (by rw[List.length_set,orW_len,orW_len]) (fun j hj=> ?_)
 rw[List.length_set,orW_len]at hj
 rw[getD_set _ _ _ _ _ (by rw[orW_len];exact h),orW_get _ _ _ _ _ hj,orW_get _ _ _ _ _ hj,orW_get _ _ _ _ _ h]
 split
 ·subst j
  rw[if_neg (by omega),if_pos (by omega)]
 ·by_cases hh:o<=j/\j<o+n
  ·rw[if_pos hh,if_pos (by omega)]
  ·rw[if_neg hh,if_neg (by omega)]
theorem ers_ok{f:FlT}{p:PwT}{s:Nat}(h:Sp.fv f=true)(h0:0<=p.1)(h1:p.1<=1099511627776)(h2:s<f.2.1.length):F_91 f s p=some (Sp.ers f s p):=by
 have hv:=fv_iff.1 h
 unfold F_91 Sp.ers Sp.ew
 rw[(chk_pv h h0 h1 (by omega) (by omega)).1,(chk_pv h h0 h1 (by omega) (by omega)).2,gd_tt,cond_nff rfl,gd_inB (by omega) (by omega),Int.toNat_natCast]
 by_cases e:f.2.1.getD s 0=f.2.2.1
 ·rw[cond_ett e,if_pos e]
 rw[cond_eff e,if_neg e,gd_room (by omega) (by omega),gd_room (by omega) (by omega)]
 have hb:=hv.2.2.2.2.2 s h2
 by_cases e0:p.1=0
 ·rw[cond_ett e0,if_pos e0]
 rw[cond_eff e0,if_neg e0,wi64 (n:=(s:Int)+1) (by omega) (by omega),wi64 (n:=(s:Int)*64) (by omega) (by omega),wi64 (n:=((s:Int)+1)*64) (by omega) (by omega),gd_sl3 (by omega) (by omega) (by omega),
  show(((s:Int)+1)*64).toNat-((s:Int)*64).toNat=64 by omega,show((s:Int)*64).toNat=s*64 by omega]
 have hr:∀(b:Int)(p5:FlT)(p6:Int)(p7:PwT)(p8:Int×PUnit)(p9:PwT)(p10:FlT)(p11:PwT)(p12:Int×PUnit)(p13:PwT)(p15:List Int)(p16 p17:Int×PUnit),L_91_111_0_0 4611686018427387904 b (s*64) 64 ((64:Nat):Int) 0 p5 p6 p7 p8 p9 p10 p11 p12 p13 f.1 p15 p16 p17=some (.e0 p5 p6 p7 p8 p9 p10 p11 p12 p13 (Sp.orW f.1 (s*64) b 64) p15 p16 p17):=by
  intro b p5 p6 p7 p8 p9 p10 p11 p12 p13 p15 p16 p17
  have:=run0 (fun m i ws=>L_91_111_0_0 m b (s*64) 64 ((64:Nat):Int) i p5 p6 p7 p8 p9 p10 p11 p12 p13 ws p15 p16 p17) (n:=64) (fun j=>Sp.orW f.1 (s*64) b j) (r:=some (.e0 p5 p6 p7 p8 p9 p10 p11 p12 p13 (Sp.orW f.1 (s*64) b 64) p15 p16 p17)) (by omega) (fun m j hj=>by
   show L_91_111_0_0 (m+1) b (s*64) 64 ((64:Nat):Int) (j:Int) p5 p6 p7 p8 p9 p10 p11 p12 p13 (Sp.orW f.1 (s*64) b j) p15 p16 p17=_
   rw[L_91_111_0_0,S_91_111_0_0,cond_dtt (by omega)]
   simp only[gd_inB (show(0:Int)<=(j:Int) by omega) (show(j:Int)<((64:Nat):Int) by omega),Int.toNat_natCast,Bool.and_true,orW_len,gd_dec (show s*64+j<f.1.length by omega)]
   rw[orW_succ _ _ _ _ (by omega),wi64 (by omega) (by omega)]
   push_cast
   rfl) (fun m=>by
   show L_91_111_0_0 (m+1) b (s*64) 64 ((64:Nat):Int) ((64:Nat):Int) p5 p6 p7 p8 p9 p10 p11 p12 p13 (Sp.orW f.1 (s*64) b 64) p15 p16 p17=_
   rw[L_91_111_0_0,S_91_111_0_0,cond_dff (by omega)])
  rw[orW_zero]at this
  exact this
 simp only[hr,B_91_111_0_0]
 simp only[gd_inB (show(0:Int)<=(s:Int) by omega) (show(s:Int)<((f.2.1.length:Nat):Int) by omega),Int.toNat_natCast,Bool.and_true,gd_dec h2]
 rw[wi64 (n:=f.2.1.getD s 0+1) (by omega) (by omega)]
 by_cases e1:p.1=1
 ·rw[cond_ett e1,if_pos e1]
 rw[cond_eff e1,if_neg e1,wi64 (by omega) (by omega),gd_sl3 (by omega) (by omega) (by omega)]
theorem ers_pv{f:FlT}{p:PwT}{s:Nat}(h:Sp.fv f=true)(h0:0<=p.1)(h1:p.1<=1099511627776)(h2:s<f.2.1.length):p_91 f s p=true/\v_91 f s p=Sp.ers f s p:=pv_91 f s p (ers_ok h h0 h1 h2)
abbrev BayT:=FlT×List Int×Unit
namespace Sp
noncomputable def cntB(n:Nat):Bool:=decide (n%2=0)&&(decide (18<=n)&&decide (n<=64))
noncomputable def bvb(a:BayT):Bool:=fv a.1&&cntB a.1.2.1.length
noncomputable def hlf(a:BayT):Nat:=a.1.2.1.length*32
noncomputable def wds(a:BayT)(k:Nat):List Int:=(a.1.1.drop (k*hlf a)).take (hlf a)
end Sp
theorem cnt_ok(n:Nat)(hn:n<1000000):F_70 n=some (Sp.cntB n,()):=by
 unfold F_70 Sp.cntB
 rw[Int.tmod_eq_emod_of_nonneg (by omega)]
 by_cases h:n%2=0
 ·rw[cond_ett (by omega),decide_eq_true h,Bool.true_and]
  by_cases h:18<=n
  ·rw[cond_dtt (by omega),decide_eq_true h,Bool.true_and,show decide ((n:Int)<=64)=decide (n<=64)from decide_eq_decide.2 (by omega)]
  ·rw[cond_dff (by omega),decide_eq_false h,Bool.false_and]
 ·rw[cond_eff (by omega),decide_eq_false h,Bool.false_and]
theorem val_ok(a:BayT):F_33 a=some (Sp.bvb a,()):=by
 unfold F_33 Sp.bvb
 rw[(fv_pv a.1).1,(fv_pv a.1).2,gd_tt]
 cases h:Sp.fv a.1
 ·rfl
 ·have hv:=fv_iff.1 h
  have hc:=pv_70 _ (cnt_ok a.1.2.1.length (by omega))
  rw[cond_t,hc.1,hc.2,gd_tt,Bool.true_and]
theorem val_pv(a:BayT):p_33 a=true/\v_33 a=(Sp.bvb a,()):=pv_33 a (val_ok a)
theorem bank_ok(k:Int):F_97 k=some (k==0||k==1,()):=by
 unfold F_97
 cases k==0<;>rfl
theorem bank_pv(k:Int):p_97 k=true/\v_97 k=(k==0||k==1,()):=pv_97 k (bank_ok k)
theorem bank_nat(k:Nat)(h:k<2):(((k:Nat):Int)==0||((k:Nat):Int)==1)=true:=by
 match k,h with
 |0,_=>rfl
 |1,_=>rfl
structure BV(a:BayT):Prop where
 v:Sp.fv a.1=true
 e:a.1.2.1.length%2=0
 lo:18<=a.1.2.1.length
 hi:a.1.2.1.length<=64
 l:a.1.1.length=2*Sp.hlf a
 h0:576<=Sp.hlf a
 h1:Sp.hlf a<=2048
theorem bv_of{a:BayT}(h:Sp.bvb a=true):BV a:=by
 unfold Sp.bvb Sp.cntB at h
 simp only[Bool.and_eq_true,decide_eq_true_eq]at h
 obtain⟨h,e,lo,hi⟩:=h
 have hv:=fv_iff.1 h
 refine⟨h,e,lo,hi,?_,?_,?_⟩<;>unfold Sp.hlf<;>omega
theorem half_eq{a:BayT}(h:BV a):wrap .i64 (Int.tdiv (a.1.1.length:Int) 2)=Sp.hlf a:=by
 rw[h.l,show Int.tdiv ((2*Sp.hlf a:Nat):Int) 2=Sp.hlf a by rw[Int.tdiv_eq_ediv_of_nonneg (by omega)];omega]
 exact wi64 (by omega) (by have:=h.h1;omega)
theorem off_eq{a:BayT}(h:BV a)(k:Nat)(hk:k<3):wrap .i64 ((k:Int)*(Sp.hlf a:Int))=((k*Sp.hlf a:Nat):Int):=by
 have:=h.h1
 have:k*Sp.hlf a<=2*Sp.hlf a:=Nat.mul_le_mul_right _ (by omega)
 rw[<-Int.natCast_mul,wi64 (by omega) (by omega)]
theorem off_lt{a:BayT}(h:BV a)(k:Nat)(hk:k<2):k*Sp.hlf a+Sp.hlf a<=a.1.1.length:=by
 have:=h.l
 match k,hk with
 |0,_=>omega
 |1,_=>omega
theorem wds_len{a:BayT}(h:BV a)(k:Nat)(hk:k<2):(Sp.wds a k).length=Sp.hlf a:=by
 have:=off_lt h k hk
 unfold Sp.wds
 rw[List.length_take,List.length_drop]
 omega
theorem words_ok{a:BayT}(h:BV a)(k:Nat)(hk:k<2):F_84 a k=some (Sp.wds a k,()):=by
 have hl:=off_lt h k hk
 have e:wrap .i64 ((k:Int)+1)=((k+1:Nat):Int):=by rw[wi64 (by omega) (by omega)];push_cast;rfl
 unfold F_84 Sp.wds
 rw[half_eq h,e,off_eq h k (by omega),off_eq h (k+1) (by omega),gd_sl3 (by omega) (by rw[Nat.add_mul];omega) (by rw[Nat.add_mul];omega),Int.toNat_natCast,Int.toNat_natCast,show(k+1)*Sp.hlf a-k*Sp.hlf a=Sp.hlf a by rw[Nat.add_mul];omega]
theorem words_pv{a:BayT}(h:BV a)(k:Nat)(hk:k<2):p_84 a k=true/\v_84 a k=(Sp.wds a k,()):=pv_84 a k (words_ok h k hk)
theorem wds_get{a:BayT}(h:BV a)(k:Nat)(hk:k<2):(Sp.wds a k).getD 0 0=a.1.1.getD (k*Sp.hlf a) 0:=by
 have:=off_lt h k hk
 have:=h.h0
 unfold Sp.wds
 simp only[List.getD_eq_getElem?_getD,List.getElem?_take,List.getElem?_drop]
 rw[if_pos (by omega),Nat.add_zero]
theorem act_pv{a:BayT}(h:BV a)(k:Nat)(hk:k<2):p_93 a k=true/\v_93 a k=(a.1.1.getD (k*Sp.hlf a) 0==0,()):=by
 refine pv_93 a k ?_
 have:=h.h0
 unfold F_93
 rw[(words_pv h k hk).1,(words_pv h k hk).2,gd_tt,gd_inB (by decide) (by show(0:Int)<((Sp.wds a k).length:Int);rw[wds_len h k hk];omega)]
 show some ((Sp.wds a k).getD 0 0==0,())=_
 rw[wds_get h k hk]
theorem cat_l0(m:Nat)(x y:List Int)(hx:x.length<1000000)(hy:y.length<1000000):L_119_0 (m+3) [x,y] 0 [x,y] 2 0=some (.e0 [x,y] ((x.length:Int)+(y.length:Int))):=by
 rw[L_119_0,S_119_0,cond_dtt (by decide),gd_inB (by decide) (by show(0:Int)<((2:Nat):Int);decide)]
 show(bif decide (wrap .i64 (0+(x.length:Int))<0)then none else L_119_0 (m+2) [x,y] (wrap .i64 (0+(x.length:Int))) [x,y] 2 1)=_
 rw[wi64 (n:=0+(x.length:Int)) (by omega) (by omega),cond_dff (by omega),L_119_0,S_119_0,cond_dtt (by decide),gd_inB (by decide) (by show(1:Int)<((2:Nat):Int);decide)]
 show(bif decide (wrap .i64 (0+(x.length:Int)+(y.length:Int))<0)then none else L_119_0 (m+1) [x,y] (wrap .i64 (0+(x.length:Int)+(y.length:Int))) [x,y] 2 2)=_
 rw[wi64 (n:=0+(x.length:Int)+(y.length:Int)) (by omega) (by omega),cond_dff (by omega),L_119_0,S_119_0,cond_dff (by decide),Int.zero_add]
theorem cat_l1(m:Nat)(x y:List Int)(hx:x.length<1000000)(hy:y.length<1000000):L_119_1 (m+3) [x,y] 2 0 []=some (.e0 (x++y)):=by
 rw[L_119_1,S_119_1,cond_dtt (by decide),gd_inB (by decide) (by show(0:Int)<((2:Nat):Int);decide),gd_room (by show(0+x.length)*4<=_;omega) (by show 0+x.length<=_;omega)]
 show L_119_1 (m+2) [x,y] 2 1 x=_
 rw[L_119_1,S_119_1,cond_dtt (by decide),gd_inB (by decide) (by show(1:Int)<((2:Nat):Int);decide),gd_room (by show(x.length+y.length)*4<=_;omega) (by show x.length+y.length<=_;omega)]
 show L_119_1 (m+1) [x,y] 2 2 (x++y)=_
 rw[L_119_1,S_119_1,cond_dff (by decide)]
theorem cat_ok(x y:List Int)(hx:x.length<1000000)(hy:y.length<1000000):F_119 [x,y]=some (x++y,()):=by
 unfold F_119
 refine(congrArg (fun z=>B_119_0 z _) (cat_l0 4611686018427387901 x y hx hy)).trans ?_
 refine Eq.trans (b:=gd (decide ((0:Int)<=(x.length:Int)+(y.length:Int))&&room (toNat ((x.length:Int)+(y.length:Int))) 4) (B_119_1 (L_119_1 4611686018427387904 [x,y] 2 0 []) fun y5=>some (y5,()))) rfl ?_
 rw[gd_and,gd_dec (by omega),gd_room (by omega) (by omega)]
 exact(congrArg (fun z=>B_119_1 z _) (cat_l1 4611686018427387901 x y hx hy)).trans rfl
namespace Sp
noncomputable def w4(x:Int):List Int:=[wrap .u8 (Int.fdiv x 16777216),wrap .u8 (Int.fdiv x 65536),wrap .u8 (Int.fdiv x 256),wrap .u8 x]
noncomputable def spr(l:List Int):List Int:=l.flatMap w4
end Sp
theorem spr_len(l:List Int):(Sp.spr l).length=4*l.length:=by
 induction l with
 |nil=>rfl
 |cons x l ih=>show(Sp.w4 x++Sp.spr l).length=_;rw[List.length_append,ih,List.length_cons];show 4+_=_;omega
theorem spr_succ(l:List Int)(j:Nat)(hj:j<l.length):Sp.spr (l.take (j+1))=Sp.spr (l.take j)++Sp.w4 (l.getD j 0):=by
 have e:l.getD j 0=l[j]:=by simp[List.getD_eq_getElem?_getD,List.getElem?_eq_getElem hj]
 unfold Sp.spr
 rw[e,List.take_succ_eq_append_getElem hj,List.flatMap_append,List.flatMap_cons,List.flatMap_nil,List.append_nil]
theorem spr_b(l:List Int):bytes (Sp.spr l):=by
 intro x hx
 unfold Sp.spr at hx
 rw[List.mem_flatMap]at hx
 obtain⟨y,_,hx⟩:=hx
 simp only[Sp.w4,List.mem_cons,List.not_mem_nil,or_false]at hx
 rcases hx with rfl|rfl|rfl|rfl<;>rw[u8_mod]<;>omega
theorem spr_loop(l:List Int)(hl:l.length<1000000):∀(d m j:Nat),j+d=l.length->d<m->L_116_0 m l l.length (j:Nat) (Sp.spr (l.take j))=some (.e0 (Sp.spr l)):=by
 intro d
 induction d with
 |zero=>
  intro m j hj hm
  obtain⟨m,rfl⟩:∃k,m=k+1:=⟨m-1,by omega⟩
  rw[L_116_0,S_116_0,cond_dff (by omega),List.take_of_length_le (by omega)]
 |succ d ih=>
  intro m j hj hm
  obtain⟨m,rfl⟩:∃k,m=k+1:=⟨m-1,by omega⟩
  have hs:=spr_len (l.take j)
  rw[List.length_take]at hs
  rw[L_116_0,S_116_0,cond_dtt (by omega),gd_inB (by omega) (by omega),gd_room (by omega) (by omega),wi64 (by omega) (by omega),Int.toNat_natCast]
  have:=ih m (j+1) (by omega) (by omega)
  rw[spr_succ l j (by omega)]at this
  push_cast at this
  exact this
theorem spr_eq(l:List Int)(hl:l.length<1000000):F_116 l=some (Sp.spr l,()):=by
 unfold F_116
 exact(congrArg (fun z=>B_116_0 z _) (spr_loop l hl l.length 4611686018427387904 0 (by omega) (by omega))).trans rfl
theorem spr_ok(l:List Int)(hl:l.length<1000000):∃o,F_116 l=some (o,())/\o.length=4*l.length/\bytes o:=⟨_,spr_eq l hl,spr_len l,spr_b l⟩
set_option maxRecDepth 100000
set_option maxHeartbeats 4000000
theorem bit_of(i:Int)(h0:0<=i)(h1:i<4):(Sp.andI .i64 (Int.fdiv i (2^Nat.min 0 64)) 1=i%2)/\(Sp.andI .i64 (Int.fdiv i (2^Nat.min 1 64)) 1=i/2):=by
 rcases(show i=0\/i=1\/i=2\/i=3 by omega)with rfl|rfl|rfl|rfl<;>exact⟨by kernel_rfl,by kernel_rfl⟩
theorem up_step(m:Nat)(p:List (List Int))(hp:p.length=2)(j:Nat)(hj:j<2)(key:List Int)(s:SigT)(e:List Int)(b:Int)(hb:Sp.andI .i64 (Int.fdiv s.1 (2^Nat.min j 64)) 1=b):L_62_1 (m+1) p 2 (j:Nat) key s e=L_62_1 m p 2 ((j:Int)+1) key s (Sp.up b (p.getD j h0) e):=by
 have a1:=above_pv (p.getD j h0) e
 have a2:=above_pv e (p.getD j h0)
 rw[L_62_1,S_62_1,cond_dtt (by omega),gd_inB (by omega) (by omega),gd_dec (by omega),Int.toNat_natCast,hb,wi64 (by omega) (by omega)]
 by_cases h:b=1
 ·rw[cond_ett h,a1.1,a1.2,gd_tt,Sp.up,if_pos h]
 ·rw[cond_eff h,a2.1,a2.2,gd_tt,Sp.up,if_neg h]
theorem up_loop(m:Nat)(hm:3<=m)(p:List (List Int))(hp:p.length=2)(key:List Int)(s:SigT)(e:List Int)(h0':0<=s.1)(h1':s.1<4):L_62_1 m p 2 0 key s e=some (.e0 key (Sp.up (s.1/2) (p.getD 1 h0) (Sp.up (s.1%2) (p.getD 0 h0) e))):=by
 obtain⟨m,rfl⟩:∃k,m=k+3:=⟨m-3,by omega⟩
 have hb:=bit_of s.1 h0' h1'
 have s1:=up_step (m+2) p hp 0 (by omega) key s e _ hb.1
 have s2:=up_step (m+1) p hp 1 (by omega) key s (Sp.up (s.1%2) (p.getD 0 h0) e) _ hb.2
 refine s1.trans (s2.trans ?_)
 show L_62_1 (m+1) p 2 2 key s _=_
 rw[L_62_1,S_62_1,cond_dff (by decide)]
theorem shp_spec{s:SigT}(h:Sp.shp s=true):0<=s.1/\s.1<4/\s.2.1.length=67/\s.2.2.1.length=2:=by
 simp only[Sp.shp,Bool.and_eq_true,decide_eq_true_eq,beq_iff_eq]at h
 omega
theorem verify_ok(key dg:List Int)(hb:bytes dg)(s:SigT):F_62 key dg s=some (Sp.verF key dg s,()):=by
 have a:=pv_85 _ (shp_ok s)
 unfold F_62 Sp.verF
 rw[a.1,a.2,gd_tt]
 cases hs:Sp.shp s
 ·rfl
 ·obtain⟨h1,h2,h3,h4⟩:=shp_spec hs
  have d:=pv_86 _ (i_digits dg hb)
  have l:=pv_88 _ (leafE_ok (Sp.vend (Sp.digL dg) s.2.1 67) (by rw[vend_len];omega))
  rw[d.1,d.2,gd_tt]
  dsimp only
  rw[digL_len]
  simp only[Bool.not_true,cond_f]
  rw[show L_62_0 4611686018427387904 (Sp.digL dg) ((67:Nat):Int) 0 key s []=_ from ver_loop key dg hb s h3 67 4611686018427387904 0 (by omega) (by omega)]
  simp only[B_62_0]
  rw[l.1,l.2,gd_tt]
  dsimp only
  rw[h4]
  rw[show L_62_1 4611686018427387904 s.2.2.1 ((2:Nat):Int) 0 key s (Sp.leafE (Sp.vend (Sp.digL dg) s.2.1 67))=_ from up_loop _ (by omega) s.2.2.1 h4 key s _ h1 h2]
  simp only[B_62_1,arr_beq,Bool.true_and]
theorem J_ver(key:List Int)(s:SigT)(h1:0<=s.1)(h2:s.1<4)(h4:s.2.2.1.length=2)(e:List Int) :
 B_26_1 (J_26_1 key s e) (fun k y z=>some (Ty.beq (.arr 32 (.int .u8)) (v_60 (y.2.2.1.getD 1 h0) z).1 k,PUnit.unit)) (fun k y z=>some (Ty.beq (.arr 32 (.int .u8)) (v_60 z (y.2.2.1.getD 1 h0)).1 k,PUnit.unit))=some ((Sp.up (s.1/2) (s.2.2.1.getD 1 h0) e==key),PUnit.unit):=by
 have n1:=node_pv (s.2.2.1.getD 1 h0) e
 have n2:=node_pv e (s.2.2.1.getD 1 h0)
 have ed:wrap .i64 (Int.tdiv s.1 2)=s.1/2:=by rw[Int.tdiv_eq_ediv_of_nonneg h1,wi64 (by omega) (by omega)]
 unfold J_26_1 S_26_1
 rw[ed]
 by_cases h:s.1/2=1
 ·rw[cond_ett h,gd_inB (by omega) (by omega),n1.1,gd_tt]
  simp only[B_26_1,n1.2,arr_beq,Sp.up,if_pos h]
 ·rw[cond_eff h,gd_inB (by omega) (by omega),n2.1,gd_tt]
  simp only[B_26_1,n2.2,arr_beq,Sp.up,if_neg h]
theorem rverify_ok(key dg:List Int)(hb:bytes dg)(s:SigT):F_26 key dg s=some (Sp.verF key dg s,()):=by
 have a:=pv_56 _ (rshp_ok s)
 unfold F_26 Sp.verF
 rw[a.1,a.2,gd_tt]
 cases hs:Sp.shp s
 ·rfl
 ·obtain⟨h1,h2,h3,h4⟩:=shp_spec hs
  have d:=pv_57 _ (r_digits dg hb)
  have l:=pv_59 _ (rleafE_ok (Sp.vend (Sp.digL dg) s.2.1 67) (by rw[vend_len];omega))
  have em:Int.tmod s.1 2=s.1%2:=Int.tmod_eq_emod_of_nonneg h1
  rw[d.1,d.2,gd_tt]
  dsimp only
  simp only[Bool.not_true,cond_f]
  rw[show L_26_0 4611686018427387904 (Sp.digL dg) 0 key s []=_ from rver_loop key dg hb s h3 67 4611686018427387904 0 (by omega) (by omega)]
  simp only[B_26_0]
  rw[l.1,l.2,gd_tt]
  dsimp only
  have n1:=node_pv (s.2.2.1.getD 0 h0) (Sp.leafE (Sp.vend (Sp.digL dg) s.2.1 67))
  have n2:=node_pv (Sp.leafE (Sp.vend (Sp.digL dg) s.2.1 67)) (s.2.2.1.getD 0 h0)
  rw[em]
  by_cases h:s.1%2=1
  ·rw[cond_ett h,gd_inB (by omega) (by omega),n1.1,n1.2,gd_tt]
   dsimp only
   rw[J_ver key s h1 h2 h4,Bool.true_and,show Sp.up (s.1%2) (s.2.2.1.getD 0 h0) (Sp.leafE (Sp.vend (Sp.digL dg) s.2.1 67))=_ from if_pos h]
  ·rw[cond_eff h,gd_inB (by omega) (by omega),n2.1,n2.2,gd_tt]
   dsimp only
   rw[J_ver key s h1 h2 h4,Bool.true_and,show Sp.up (s.1%2) (s.2.2.1.getD 0 h0) (Sp.leafE (Sp.vend (Sp.digL dg) s.2.1 67))=_ from if_neg h]
abbrev HdT:=(Int×Int×List Int×(Int×List (List Int)×List (List Int)×Unit)×Unit)×Bool×Unit
structure HdO(n:Nat)(v:HdT):Prop where
 v0:1<=v.1.1
 v1:v.1.1<=2147483647
 s0:1<=v.1.2.1
 s1:v.1.2.1<=(n:Int)-564
 b:bytes v.1.2.2.1
abbrev hdF:HdT:=((0,0,replicate 32 0,(0,[],[],()),()),false,())
theorem hdF_o{n:Nat}(h:hdF.2.1=true):HdO n hdF:=Bool.noConfusion h
theorem over_b{x y:List Int}{n:Nat}(hx:bytes x)(hy:bytes y):bytes (over x n y):=by
 intro z hz
 unfold over at hz
 rcases List.mem_append.1 hz with h|h
 ·rcases List.mem_append.1 h with h|h
  ·exact hx z (List.mem_of_mem_take h)
  ·exact hy z h
 ·exact hx z (List.mem_of_mem_drop h)
theorem head_ok(w:List Int)(h0:576<=w.length)(h1:w.length<=2048):∃v,F_98 w=some v/\(v.2.1=true->HdO w.length v):=by
 have t1:(take 1 (drop 1 w)).length=1:=by rw[List.length_take,List.length_drop];omega
 have t2:(take 1 (drop 2 w)).length=1:=by rw[List.length_take,List.length_drop];omega
 obtain⟨o,hs,hl,hb⟩:=spr_ok (take 8 (drop 3 w)) (by rw[List.length_take];omega)
 have hs:=pv_116 _ hs
 have hr:=pv_117 _ (read_ok (take 553 (drop 11 w)))
 unfold F_98
 rw[gd_sl3 (by omega) (by omega) (by omega),gd_dec (by omega),gd_inB (by omega) (by rw[t1];decide),gd_dec (by omega),gd_inB (by omega) (by rw[t2];decide),gd_dec (by omega),hs.1,hs.2,gd_tt,gd_sl3 (by omega) (by omega) (by omega),hr.1,gd_tt,wi64 (n:=(w.length:Int)-564) (by omega) (by omega)]
 generalize v_117 (take 553 (drop 11 w))=r
 generalize wrap .i64 (getD (take 1 (drop 1 w)) 0 0)=ver
 generalize wrap .i64 (getD (take 1 (drop 2 w)) 0 0)=sz
 by_cases e:r.2.1=0
 rotate_left
 ·exact⟨hdF,by rw[cond_ntt e],hdF_o⟩
 rw[cond_nff e]
 by_cases e1:ver<1
 ·exact⟨hdF,by rw[cond_dtt e1],hdF_o⟩
 rw[cond_dff e1]
 by_cases e2:ver>2147483647
 ·exact⟨hdF,by rw[cond_dtt e2],hdF_o⟩
 rw[cond_dff e2]
 by_cases e3:sz<1
 ·exact⟨hdF,by rw[cond_dtt e3],hdF_o⟩
 rw[cond_dff e3]
 by_cases e4:sz>(w.length:Int)-564
 ·exact⟨hdF,by rw[cond_dtt e4],hdF_o⟩
 rw[cond_dff e4]
 refine⟨_,rfl,fun _=>⟨by show 1<=ver;omega,by show ver<=2147483647;omega,by show 1<=sz;omega,by show sz<=_;omega,?_⟩⟩
 refine over_b ?_ ?_
 ·intro x hx;rw[List.eq_of_mem_replicate hx];decide
 ·exact fun x hx=>hb x (List.mem_of_mem_take hx)
theorem hdr_ok{a:BayT}(h:BV a)(hb:Sp.bvb a=true)(k:Nat)(hk:k<2):∃v,F_71 a k=some v/\(v.2.1=true->HdO (Sp.hlf a) v):=by
 obtain⟨v,hv,ho⟩:=head_ok (Sp.wds a k) (by rw[wds_len h k hk];exact h.h0) (by rw[wds_len h k hk];exact h.h1)
 rw[wds_len h k hk]at ho
 have hv:=pv_98 _ hv
 refine⟨v,?_,ho⟩
 unfold F_71
 rw[(val_pv a).1,(val_pv a).2,gd_tt,(bank_pv k).1,(bank_pv k).2,gd_tt,(words_pv h k hk).1,(words_pv h k hk).2,gd_tt,hv.1,hv.2,gd_tt,hb,bank_nat k hk]
 rfl
theorem hdr_pv{a:BayT}(h:BV a)(hb:Sp.bvb a=true)(k:Nat)(hk:k<2):p_71 a k=true/\((v_71 a k).2.1=true->HdO (Sp.hlf a) (v_71 a k)):=by
 obtain⟨v,hv,ho⟩:=hdr_ok h hb k hk
 have:=pv_71 a k hv
 exact⟨this.1,by rw[this.2];exact ho⟩
theorem good_ok{a:BayT}(h:BV a)(hb:Sp.bvb a=true)(k:Nat)(hk:k<2):∃g:Bool,F_109 a k=some (g,())/\(g=true->(v_71 a k).2.1=true):=by
 have hh:=hdr_pv h hb k hk
 have hl:=wds_len h k hk
 have h0:=h.h0
 have h1:=h.h1
 unfold F_109
 rw[hh.1,gd_tt]
 cases e:(v_71 a k).2.1
 ·exact⟨false,rfl,id⟩
 have o:=hh.2 e
 have o1:=o.s0
 have o2:=o.s1
 rw[(words_pv h k hk).1,(words_pv h k hk).2,gd_tt]
 have c:=pv_119 _ (cat_ok (take 2 (drop 1 (Sp.wds a k))) (take (toNat (wrap .i64 (564+(v_71 a k).1.2.1))-564) (drop 564 (Sp.wds a k))) (by rw[List.length_take];omega) (by rw[List.length_take,List.length_drop];omega))
 have cl:(take 2 (drop 1 (Sp.wds a k))++take (toNat (wrap .i64 (564+(v_71 a k).1.2.1))-564) (drop 564 (Sp.wds a k))).length<=10000:=by rw[List.length_append,List.length_take,List.length_take,List.length_drop,List.length_drop];omega
 obtain⟨q,hq,ql,qb⟩:=spr_ok (take 2 (drop 1 (Sp.wds a k))++take (toNat (wrap .i64 (564+(v_71 a k).1.2.1))-564) (drop 564 (Sp.wds a k))) (by omega)
 have hq:=pv_116 _ hq
 have hs:=pv_110 _ (i_sum q (by omega))
 have hv:=pv_62 _ _ _ (verify_ok a.2.1 (v_71 a k).1.2.2.1 o.b (v_71 a k).1.2.2.2.1)
 dsimp only
 rw[gd_sl3 (by omega) (by omega) (by omega),gd_sl3 (lo:=564) (by omega) (by rw[wi64 (by omega) (by omega)];omega) (by rw[wi64 (by omega) (by omega)];omega),c.1,c.2,gd_tt,show((take 2 (drop 1 (Sp.wds a k))++take (toNat (wrap .i64 (564+(v_71 a k).1.2.1))-564) (drop 564 (Sp.wds a k))),()).1=(take 2 (drop 1 (Sp.wds a k))++take (toNat (wrap .i64 (564+(v_71 a k).1.2.1))-564) (drop 564 (Sp.wds a k)))from rfl,hq.1,hq.2,gd_tt,hs.1,hs.2,gd_tt,hv.1,hv.2,gd_tt]
 cases Ty.beq (.arr 32 (.int .u8)) (Sp.sha q) (v_71 a k).1.2.2.1
 ·exact⟨false,rfl,fun _=>rfl⟩
 ·exact⟨_,rfl,fun _=>rfl⟩
theorem good_pv{a:BayT}(h:BV a)(hb:Sp.bvb a=true)(k:Nat)(hk:k<2):p_109 a k=true/\((v_109 a k).1=true->(v_71 a k).2.1=true):=by
 obtain⟨g,hg,ho⟩:=good_ok h hb k hk
 have:=pv_109 a k hg
 exact⟨this.1,by rw[this.2];exact ho⟩
namespace Sp
noncomputable def acb(a:BayT)(k:Nat):Bool:=a.1.1.getD (k*hlf a) 0==0
noncomputable def gdb(a:BayT)(k:Nat):Bool:=(v_109 a k).1
noncomputable def vr(a:BayT)(k:Nat):Int:=(v_71 a k).1.1
noncomputable def cnd(a:BayT)(k:Nat):Bool:=acb a k&&gdb a k
noncomputable def sel(a:BayT):Int×Int×Unit:=bif cnd a 0 then(bif cnd a 1&&decide (vr a 1>vr a 0)then(1,0,())else(0,0,()))else bif cnd a 1 then(1,0,())else(0,7,())
end Sp
structure BB(a:BayT):Prop where
 v:BV a
 b:Sp.bvb a=true
theorem BB.vr1{a:BayT}(h:BB a)(k:Nat)(hk:k<2)(hg:Sp.gdb a k=true):(v_71 a k).2.1=true/\1<=Sp.vr a k:=by
 have o:=(good_pv h.v h.b k hk).2 hg
 exact⟨o,((hdr_pv h.v h.b k hk).2 o).v0⟩
theorem sel_step{a:BayT}(h:BB a)(k:Nat)(hk:k<2)(m:Nat)(b v:Int):L_82_0 (m+1) b v k a=bif decide (Sp.vr a k>v)&&Sp.cnd a k then L_82_0 m k (Sp.vr a k) ((k+1:Nat):Int) a else L_82_0 m b v ((k+1:Nat):Int) a:=by
 have e:wrap .i64 ((k:Int)+1)=((k+1:Nat):Int):=by rw[wi64 (by omega) (by omega)];push_cast;rfl
 have hg:=h.vr1 k hk
 rw[L_82_0,S_82_0,cond_dtt (by omega),(hdr_pv h.v h.b k hk).1,gd_tt,(act_pv h.v k hk).1,(act_pv h.v k hk).2,gd_tt,(good_pv h.v h.b k hk).1,gd_tt,e]
 show(bif(v_71 a k).2.1 then bif decide (Sp.vr a k>v)then bif Sp.acb a k then bif Sp.gdb a k then _ else _ else _ else _ else _)=_
 unfold Sp.cnd
 cases e1:Sp.gdb a k
 ·cases (v_71 a k).2.1<;>cases decide (Sp.vr a k>v)<;>cases Sp.acb a k<;>rfl
 ·rw[(hg e1).1]
  cases decide (Sp.vr a k>v)<;>cases Sp.acb a k<;>rfl
theorem sel_ok{a:BayT}(h:BB a):F_82 a=some (Sp.sel a):=by
 have l:∃b v,L_82_0 4611686018427387904 0 0 0 a=some (.e0 b v)/\(bif v==0 then(0,7,())else(b,0,()))=Sp.sel a:=by
  have s0:=sel_step h 0 (by decide) 4611686018427387903 0 0
  have s1:=fun b v=>sel_step h 1 (by decide) 4611686018427387902 b v
  have s2:∀b v,L_82_0 4611686018427387902 b v ((2:Nat):Int) a=some (.e0 b v):=fun b v=>by
   show L_82_0 (4611686018427387901+1) b v 2 a=_
   rw[L_82_0,S_82_0,cond_dff (by decide)]
  have g0:=h.vr1 0 (by decide)
  have g1:=h.vr1 1 (by decide)
  have k0:Sp.cnd a 0=true->1<=Sp.vr a 0:=fun e=>(g0 ((Bool.and_eq_true_iff.1 e).2)).2
  have k1:Sp.cnd a 1=true->1<=Sp.vr a 1:=fun e=>(g1 ((Bool.and_eq_true_iff.1 e).2)).2
  unfold Sp.sel
  cases c0:Sp.cnd a 0<;>cases c1:Sp.cnd a 1
  ·rw[c0,Bool.and_false,cond_f]at s0
   have s1:=s1 0 0
   rw[c1,Bool.and_false,cond_f]at s1
   exact⟨0,0,s0.trans (s1.trans (s2 ..)),rfl⟩
  ·rw[c0,Bool.and_false,cond_f]at s0
   have s1:=s1 0 0
   rw[c1,Bool.and_true,cond_dtt (by have:=k1 c1;omega)]at s1
   exact⟨1,Sp.vr a 1,s0.trans (s1.trans (s2 ..)),by rw[cond_eff (by have:=k1 c1;omega)];rfl⟩
  ·rw[c0,Bool.and_true,cond_dtt (by have:=k0 c0;omega)]at s0
   have s1:=s1 0 (Sp.vr a 0)
   rw[c1,Bool.and_false,cond_f]at s1
   exact⟨0,Sp.vr a 0,s0.trans (s1.trans (s2 ..)),by rw[cond_eff (by have:=k0 c0;omega)];rfl⟩
  ·rw[c0,Bool.and_true,cond_dtt (by have:=k0 c0;omega)]at s0
   have s1:=s1 0 (Sp.vr a 0)
   rw[c1,Bool.and_true]at s1
   by_cases e:Sp.vr a 1>Sp.vr a 0
   ·rw[cond_dtt e]at s1
    exact⟨1,Sp.vr a 1,s0.trans (s1.trans (s2 ..)),by rw[cond_eff (by have:=k1 c1;omega),decide_eq_true e];rfl⟩
   ·rw[cond_dff e]at s1
    exact⟨0,Sp.vr a 0,s0.trans (s1.trans (s2 ..)),by rw[cond_eff (by have:=k0 c0;omega),decide_eq_false e];rfl⟩
 obtain⟨b,v,hl,hr⟩:=l
 unfold F_82
 rw[(val_pv a).1,(val_pv a).2,gd_tt,h.b,<-hr,show(!(true,()).1)=false from rfl,cond_f]
 refine(congrArg (fun z=>B_82_0 z _) hl).trans ?_
 show(bif v==0 then some (0,7,())else some (b,0,()))=_
 cases v==0<;>rfl
theorem sel_pv{a:BayT}(h:BB a):p_82 a=true/\v_82 a=Sp.sel a:=pv_82 a (sel_ok h)
theorem atv_pv{a:BayT}(h:BB a):p_54 a=true/\v_54 a=((Sp.sel a).1,(Sp.sel a).2.1==0,()):=by
 refine pv_54 a ?_
 unfold F_54
 rw[(sel_pv h).1,(sel_pv h).2,gd_tt]
namespace Sp
noncomputable def sb(a:BayT):Nat:=bif cnd a 0 then(bif cnd a 1&&decide (vr a 1>vr a 0)then 1 else 0)else bif cnd a 1 then 1 else 0
noncomputable def has(a:BayT):Bool:=cnd a 0||cnd a 1
noncomputable def lst(a:BayT):Int:=bif has a then vr a (sb a)else 0
end Sp
theorem sb_lt(a:BayT):Sp.sb a<2:=by
 unfold Sp.sb
 cases Sp.cnd a 0<;>cases Sp.cnd a 1<;>cases decide (Sp.vr a 1>Sp.vr a 0)<;>decide
theorem sel_eq(a:BayT):(Sp.sel a).1=(Sp.sb a:Int)/\((Sp.sel a).2.1==0)=Sp.has a:=by
 unfold Sp.sb Sp.sel Sp.has
 cases Sp.cnd a 0<;>cases Sp.cnd a 1<;>cases decide (Sp.vr a 1>Sp.vr a 0)<;>exact⟨rfl,rfl⟩
theorem atv{a:BayT}(h:BB a):p_54 a=true/\v_54 a=((Sp.sb a:Int),Sp.has a,()):=by
 rw[<-(sel_eq a).1,<-(sel_eq a).2]
 exact atv_pv h
theorem lst_pv{a:BayT}(h:BB a):p_34 a=true/\v_34 a=(Sp.lst a,()):=by
 refine pv_34 a ?_
 unfold F_34 Sp.lst
 rw[(atv h).1,(atv h).2,gd_tt]
 show(bif !(Sp.has a)then some (0,())else gd (p_71 a (Sp.sb a)) (some ((v_71 a (Sp.sb a)).1.1,())))=_
 rw[(hdr_pv h.v h.b _ (sb_lt a)).1,gd_tt]
 cases Sp.has a<;>rfl
theorem cnd_sb{a:BayT}(h:Sp.has a=true):Sp.cnd a (Sp.sb a)=true:=by
 unfold Sp.has at h
 unfold Sp.sb
 cases c0:Sp.cnd a 0<;>cases c1:Sp.cnd a 1
 ·rw[c0,c1]at h;exact Bool.noConfusion h
 ·exact c1
 ·exact c0
 ·cases decide (Sp.vr a 1>Sp.vr a 0)
  ·exact c0
  ·exact c1
set_option maxRecDepth 100000
set_option maxHeartbeats 4000000
theorem tk1_get(w:List Int)(n:Nat):(take 1 (drop n w)).getD 0 0=w.getD n 0:=by
 simp only[List.getD_eq_getElem?_getD,List.getElem?_take,List.getElem?_drop]
 rfl
namespace Sp
noncomputable def hx(w:List Int):HdT:=bif okw (take 553 (drop 11 w))then bif decide (wrap .i64 (w.getD 1 0)<1)then hdF else bif decide (wrap .i64 (w.getD 1 0)>2147483647)then hdF else bif decide (wrap .i64 (w.getD 2 0)<1)then hdF else bif decide (wrap .i64 (w.getD 2 0)>(w.length:Int)-564)then hdF else((wrap .i64 (w.getD 1 0),wrap .i64 (w.getD 2 0),spr (take 8 (drop 3 w)),rd (take 553 (drop 11 w)),()),true,())else hdF
end Sp
theorem head_eq(w:List Int)(h0:576<=w.length)(h1:w.length<=2048):F_98 w=some (Sp.hx w):=by
 have t1:(take 1 (drop 1 w)).length=1:=by rw[List.length_take,List.length_drop];omega
 have t2:(take 1 (drop 2 w)).length=1:=by rw[List.length_take,List.length_drop];omega
 have t8:(take 8 (drop 3 w)).length=8:=by rw[List.length_take,List.length_drop];omega
 have hs:=pv_116 _ (spr_eq (take 8 (drop 3 w)) (by omega))
 have hr:=pv_117 _ (read_ok (take 553 (drop 11 w)))
 have ho:over (replicate 32 0) 0 (take 32 (Sp.spr (take 8 (drop 3 w))))=Sp.spr (take 8 (drop 3 w)):=by
  have l:=spr_len (take 8 (drop 3 w))
  rw[t8]at l
  rw[List.take_of_length_le (by omega)]
  unfold over
  rw[l]
  simp
 unfold F_98 Sp.hx
 rw[gd_sl3 (by omega) (by omega) (by omega),gd_dec (by omega),gd_inB (by omega) (by rw[t1];decide),gd_dec (by omega),gd_inB (by omega) (by rw[t2];decide),gd_dec (by omega),hs.1,hs.2,gd_tt,gd_sl3 (by omega) (by omega) (by omega),hr.1,hr.2,gd_tt,wi64 (n:=(w.length:Int)-564) (by omega) (by omega),tk1_get,tk1_get]
 dsimp only
 rw[ho]
 generalize wrap .i64 (w.getD 1 0)=ver
 generalize wrap .i64 (w.getD 2 0)=sz
 generalize Sp.spr (take 8 (drop 3 w))=s8
 cases e:Sp.okw (take 553 (drop 11 w))
 ·rfl
 rw[if_pos rfl]
 show(bif decide (ver<1)then _ else _)=_
 cases decide (ver<1)<;>cases decide (ver>2147483647)<;>cases decide (sz<1)<;>cases decide (sz>(w.length:Int)-564)<;>rfl
theorem hdr_eq{a:BayT}(h:BB a)(k:Nat)(hk:k<2):F_71 a k=some (Sp.hx (Sp.wds a k)):=by
 have hv:=pv_98 _ (head_eq (Sp.wds a k) (by rw[wds_len h.v k hk];exact h.v.h0) (by rw[wds_len h.v k hk];exact h.v.h1))
 unfold F_71
 rw[(val_pv a).1,(val_pv a).2,gd_tt,(bank_pv k).1,(bank_pv k).2,gd_tt,(words_pv h.v k hk).1,(words_pv h.v k hk).2,gd_tt,hv.1,hv.2,gd_tt,h.b,bank_nat k hk]
 rfl
set_option maxRecDepth 100000
set_option maxHeartbeats 4000000
namespace Sp
noncomputable def wb1(x:Int)(k:Nat):Int:=wrap .u8 (Int.fdiv x (2^(24-8*k)))
end Sp
theorem w4_eq(x:Int):Sp.w4 x=[Sp.wb1 x 0,Sp.wb1 x 1,Sp.wb1 x 2,Sp.wb1 x 3]:=by
 unfold Sp.w4 Sp.wb1
 simp[fdiv_one]
theorem sh_eq(k:Nat)(hk:k<4):wrap .i64 (24-wrap .i64 (8*(k:Int)))=((24-8*k:Nat):Int):=by
 rw[wi64 (n:=8*(k:Int)) (by omega) (by omega),wi64 (by omega) (by omega)]
 omega
theorem s_in0(m i:Nat)(p2 l o:List Int)(hi:i<l.length)(ho:o.length<1000000):L_23_52_1_0 (m+5) i 0 p2 l o=some (.e0 i p2 l (o++Sp.w4 (l.getD i 0))):=by
 have s:∀(k:Nat)(hk:k<4)(m:Nat)(q:List Int),q.length<1000010->L_23_52_1_0 (m+1) i k p2 l q=L_23_52_1_0 m i ((k+1:Nat):Int) p2 l (q++[Sp.wb1 (l.getD i 0) k]):=fun k hk m q hq=>by
  rw[L_23_52_1_0,S_23_52_1_0,cond_dtt (by omega),gd_inB (by omega) (by omega),Int.toNat_natCast,gd_and,gd_dec (by omega),gd_tt,sh_eq k hk,gd_dec (by omega),gd_room (by omega) (by omega),Int.toNat_natCast,nmin_l (by omega),wi64 (n:=(k:Int)+1) (by omega) (by omega)]
  push_cast
  rfl
 refine(s 0 (by decide) (m+4) _ (by omega)).trans ((s 1 (by decide) (m+3) _ (by simp;omega)).trans ((s 2 (by decide) (m+2) _ (by simp;omega)).trans ((s 3 (by decide) (m+1) _ (by simp;omega)).trans ?_)))
 show L_23_52_1_0 (m+1) i 4 p2 l _=_
 rw[L_23_52_1_0,S_23_52_1_0,cond_dff (by decide),w4_eq]
 simp
theorem s_in2(m:Nat)(l:List Int)(i k:Nat)(p3 p4 o:List Int)(hi:i<l.length)(hk:k<=4)(ho:o.length<1000000):L_23_52_1_2 (m+5) l i k p3 p4 o=some (.e0 l i p3 p4 (o++(Sp.w4 (l.getD i 0)).drop k)):=by
 have s:∀(k:Nat)(hk:k<4)(m:Nat)(q:List Int),q.length<1000010->L_23_52_1_2 (m+1) l i k p3 p4 q=L_23_52_1_2 m l i ((k+1:Nat):Int) p3 p4 (q++[Sp.wb1 (l.getD i 0) k]):=fun k hk m q hq=>by
  rw[L_23_52_1_2,S_23_52_1_2,cond_dtt (by omega),gd_inB (by omega) (by omega),Int.toNat_natCast,sh_eq k hk,gd_dec (by omega),gd_room (by omega) (by omega),Int.toNat_natCast,nmin_l (by omega),wi64 (n:=(k:Int)+1) (by omega) (by omega)]
  push_cast
  rfl
 have e:∀(m:Nat)(q:List Int),L_23_52_1_2 (m+1) l i ((4:Nat):Int) p3 p4 q=some (.e0 l i p3 p4 q):=fun m q=>by
  rw[L_23_52_1_2,S_23_52_1_2,cond_dff (by decide)]
 rw[w4_eq]
 match k,hk with
 |0,_=>rw[s 0 (by decide) (m+4) _ (by omega),s 1 (by decide) (m+3) _ (by simp;omega),s 2 (by decide) (m+2) _ (by simp;omega),s 3 (by decide) (m+1) _ (by simp;omega),e];simp
 |1,_=>rw[s 1 (by decide) (m+4) _ (by omega),s 2 (by decide) (m+3) _ (by simp;omega),s 3 (by decide) (m+2) _ (by simp;omega),e];simp
 |2,_=>rw[s 2 (by decide) (m+4) _ (by omega),s 3 (by decide) (m+3) _ (by simp;omega),e];simp
 |3,_=>rw[s 3 (by decide) (m+4) _ (by omega),e];simp
 |4,_=>rw[e];simp
theorem s_in1(m:Nat)(l:List Int)(i:Nat)(p3 p4 o:List Int)(hi:i<l.length)(ho:o.length<900000):L_23_52_1_1 (m+6) l i 0 p3 p4 o=some (.e1 l i p3 p4 (o++Sp.w4 (l.getD i 0))):=by
 rw[L_23_52_1_1,S_23_52_1_1,cond_dtt (by decide),gd_inB (by omega) (by omega),Int.toNat_natCast,show wrap .i64 (24-wrap .i64 (8*0))=((24-8*0:Nat):Int)from sh_eq 0 (by decide),gd_dec (by omega),gd_room (by omega) (by omega),Int.toNat_natCast,nmin_l (by omega)]
 have:=s_in2 m l i 1 p3 p4 (o++[Sp.wb1 (l.getD i 0) 0]) hi (by decide) (by simp;omega)
 refine(congrArg (fun z=>B_23_52_1_2 z _) this).trans ?_
 rw[w4_eq]
 unfold B_23_52_1_2
 simp
theorem s_out0(m:Nat)(o:List Int)(x y:Int):L_23_52_0_0 (m+3) 0 o [x,y] []=some (.e0 o [x,y] (Sp.w4 x++Sp.w4 y)):=by
 have s:∀(i:Nat)(hi:i<2)(m:Nat)(q:List Int),q.length<1000->L_23_52_0_0 (m+1) i o [x,y] q=L_23_52_0_0 m ((i+1:Nat):Int) o [x,y] (q++Sp.w4 ([x,y].getD i 0)):=fun i hi m q hq=>by
  rw[L_23_52_0_0,S_23_52_0_0,cond_dtt (by show(i:Int)<((2:Nat):Int);omega)]
  refine(congrArg (fun z=>B_23_52_1_0 z _) (s_in0 4611686018427387899 i o [x,y] q hi (by omega))).trans ?_
  unfold B_23_52_1_0
  dsimp only
  rw[wi64 (n:=(i:Int)+1) (by omega) (by omega)]
  push_cast
  rfl
 refine(s 0 (by decide) (m+2) [] (by decide)).trans ((s 1 (by decide) (m+1) _ (by show(4:Nat)<1000;decide)).trans ?_)
 show L_23_52_0_0 (m+1) 2 o [x,y] _=_
 rw[L_23_52_0_0,S_23_52_0_0,cond_dff (by show ¬(2:Int)<((2:Nat):Int);decide)]
 rfl
theorem s_out2(l p2 p3 o:List Int)(hl:l.length<100000)(ho:o.length<1000):∀(d m i:Nat),i+d=l.length->d<m->L_23_52_0_2 m l i p2 p3 (o++Sp.spr (l.take i))=some (.e0 p2 p3 (o++Sp.spr l)):=by
 intro d
 induction d with
 |zero=>
  intro m i hi hm
  obtain⟨m,rfl⟩:∃k,m=k+1:=⟨m-1,by omega⟩
  rw[L_23_52_0_2,S_23_52_0_2,cond_dff (by omega),List.take_of_length_le (by omega)]
 |succ d ih=>
  intro m i hi hm
  obtain⟨m,rfl⟩:∃k,m=k+1:=⟨m-1,by omega⟩
  have hs:=spr_len (l.take i)
  rw[List.length_take]at hs
  rw[L_23_52_0_2,S_23_52_0_2,cond_dtt (by omega)]
  refine(congrArg (fun z=>B_23_52_1_2 z _) (s_in2 4611686018427387899 l i 0 p2 p3 _ (by omega) (by decide) (by rw[List.length_append];omega))).trans ?_
  unfold B_23_52_1_2
  dsimp only
  have:=ih m (i+1) (by omega) (by omega)
  rw[spr_succ l i (by omega),<-List.append_assoc]at this
  rw[wi64 (n:=(i:Int)+1) (by omega) (by omega),List.drop_zero]
  push_cast at this
  exact this
theorem s_out1(l p2 p3 o:List Int)(hl:l.length<100000)(ho:o.length<1000):L_23_52_0_1 4611686018427387904 l 0 p2 p3 o=some (.e0 p2 p3 (o++Sp.spr l))\/L_23_52_0_1 4611686018427387904 l 0 p2 p3 o=some (.e1 p2 p3 (o++Sp.spr l)):=by
 show L_23_52_0_1 (4611686018427387903+1) l 0 p2 p3 o=_\/L_23_52_0_1 (4611686018427387903+1) l 0 p2 p3 o=_
 rw[L_23_52_0_1,S_23_52_0_1]
 by_cases e:l.length=0
 ·left
  rw[cond_dff (by omega),List.eq_nil_of_length_eq_zero e]
  show some (E_23_52_0_1.e0 p2 p3 o)=some (.e0 p2 p3 (o++[]))
  rw[List.append_nil]
 ·right
  rw[cond_dtt (by omega)]
  refine(congrArg (fun z=>B_23_52_1_1 z _ _) (s_in1 4611686018427387898 l 0 p2 p3 o (by omega) (by omega))).trans ?_
  unfold B_23_52_1_1
  dsimp only
  have:=s_out2 l p2 p3 o hl ho (l.length-1) 4611686018427387903 1 (by omega) (by omega)
  rw[spr_succ l 0 (by omega)]at this
  refine(congrArg (fun z=>B_23_52_0_2 z _) this).trans ?_
  rfl
theorem rsum_ok(v:Int)(l:List Int)(hl:l.length<100000):F_23 v l=some (Sp.sha (Sp.spr ([wrap .u32 v,wrap .u32 (l.length:Int)]++l)),()):=by
 have e:Sp.spr ([wrap .u32 v,wrap .u32 (l.length:Int)]++l)=(Sp.w4 (wrap .u32 v)++Sp.w4 (wrap .u32 (l.length:Int)))++Sp.spr l:=by
  unfold Sp.spr
  rw[List.flatMap_append]
  simp[List.flatMap_cons,List.flatMap_nil]
 have hs:=pv_53 _ (r_sum ((Sp.w4 (wrap .u32 v)++Sp.w4 (wrap .u32 (l.length:Int)))++Sp.spr l) (by rw[List.length_append,spr_len];show 8+_<_;omega))
 unfold F_23
 refine(congrArg (fun z=>B_23_52_0_0 z _) (s_out0 4611686018427387901 (replicate 32 0) (wrap .u32 v) (wrap .u32 (l.length:Int)))).trans ?_
 unfold B_23_52_0_0
 dsimp only
 rw[e]
 rcases s_out1 l (replicate 32 0) [wrap .u32 v,wrap .u32 (l.length:Int)] (Sp.w4 (wrap .u32 v)++Sp.w4 (wrap .u32 (l.length:Int))) hl (by show(8:Nat)<1000;decide)with h|h
 ·rw[h]
  unfold B_23_52_0_1
  dsimp only
  rw[hs.1,hs.2,gd_tt]
 ·rw[h]
  unfold B_23_52_0_1
  dsimp only
  rw[hs.1,hs.2,gd_tt]
set_option maxRecDepth 100000
set_option maxHeartbeats 4000000
theorem u32_b{n:Int}(h:(Lit.int .u32 n).wf=true):0<=n/\n<4294967296:=by
 simp[Lit.wf,IntKind.min,IntKind.max,IntKind.signed,IntKind.bits]at h;omega
abbrev W32(a:BayT):Prop:=∀x∈a.1.1,0<=x/\x<4294967296
theorem hx_ok{w:List Int}(h:(Sp.hx w).2.1=true):(Sp.hx w).1.1=wrap .i64 (w.getD 1 0)/\(Sp.hx w).1.2.1=wrap .i64 (w.getD 2 0):=by
 unfold Sp.hx at h⊢
 revert h
 cases Sp.okw (take 553 (drop 11 w))<;>cases decide (wrap .i64 (w.getD 1 0)<1)<;>cases decide (wrap .i64 (w.getD 1 0)>2147483647)<;>cases decide (wrap .i64 (w.getD 2 0)<1)<;>cases decide (wrap .i64 (w.getD 2 0)>(w.length:Int)-564)<;>first|exact fun h=>Bool.noConfusion h|exact fun _=>⟨rfl,rfl⟩
theorem v14_eq{a:BayT}(h:BB a)(k:Nat)(hk:k<2):v_71 a k=Sp.hx (Sp.wds a k):=(pv_71 a k (hdr_eq h k hk)).2
theorem two_eq(w:List Int)(h:3<=w.length):take 2 (drop 1 w)=[w.getD 1 0,w.getD 2 0]:=by
 match w,h with
 |a::b::c::t,_=>rfl
theorem bank_cases(k:Int):(∃n:Nat,n<2/\k=n)\/(k==0||k==1)=false:=by
 by_cases h0:k=0
 ·exact .inl ⟨0,by decide,h0⟩
 by_cases h1:k=1
 ·exact .inl ⟨1,by decide,h1⟩
 right
 rw[beq_eq_false_iff_ne.2 h0,beq_eq_false_iff_ne.2 h1]
 rfl
theorem chk_ok{a:BayT}(h:BB a)(k:Nat)(hk:k<2)(hg:Sp.gdb a k=true):p_83 a k=true/\v_83 a k=(0,()):=by
 refine pv_83 a k ?_
 unfold F_83
 rw[(val_pv a).1,(val_pv a).2,gd_tt,(bank_pv k).1,(bank_pv k).2,gd_tt,(good_pv h.v h.b k hk).1,gd_tt,h.b,bank_nat k hk,show(v_109 a k).1=true from hg]
 rfl
abbrev bF:BayT:=(([],[],0,()),replicate 32 0,())
theorem hdr_no{a:BayT}(h:BB a){k:Int}(hk:(k==0||k==1)=false):p_71 a k=true/\v_71 a k=hdF:=by
 refine pv_71 a k ?_
 unfold F_71
 rw[(val_pv a).1,(val_pv a).2,gd_tt,(bank_pv k).1,(bank_pv k).2,gd_tt,h.b,hk]
 rfl
theorem hdr_p{a:BayT}(h:BB a)(k:Int):p_71 a k=true:=by
 rcases bank_cases k with⟨n,hn,rfl⟩|hk
 ·exact(hdr_pv h.v h.b n hn).1
 ·exact(hdr_no h hk).1
theorem chk_no{a:BayT}(h:BB a){k:Int}(hk:(k==0||k==1)=false):p_83 a k=true/\v_83 a k=(2,()):=by
 refine pv_83 a k ?_
 unfold F_83
 rw[(val_pv a).1,(val_pv a).2,gd_tt,(bank_pv k).1,(bank_pv k).2,gd_tt,h.b,hk]
 rfl
theorem chk_bad{a:BayT}(h:BB a)(k:Nat)(hk:k<2)(hg:Sp.gdb a k=false):p_83 a k=true/\v_83 a k=(14,()):=by
 refine pv_83 a k ?_
 unfold F_83
 rw[(val_pv a).1,(val_pv a).2,gd_tt,(bank_pv k).1,(bank_pv k).2,gd_tt,(good_pv h.v h.b k hk).1,gd_tt,h.b,bank_nat k hk,show(v_109 a k).1=false from hg]
 rfl
theorem j0_bad{a:BayT}(h:BB a)(k c:Int)(hc:c≠0)(p:PwT)(x4:Int×Unit)(x5:List Int×Unit)(x6 x7:List Int)(x8:PwT):J_66_0 k c a p x4 x5 x6 x7 x8=some (.e0 c):=by
 unfold J_66_0 S_66_0
 rw[hdr_p h,gd_tt,cond_eff hc]
 have:J_66_1 k c a p x4 x5 x6 x7 x8=some (.e0 c):=by
  unfold J_66_1 S_66_1
  rw[cond_ntt hc]
 rw[this]
 rfl
theorem j0_old{a:BayT}(h:BB a)(k:Nat)(hk:k<2)(hv:Sp.vr a k<Sp.lst a)(p:PwT)(x4:Int×Unit)(x5:List Int×Unit)(x6 x7:List Int)(x8:PwT):J_66_0 k 0 a p x4 x5 x6 x7 x8=some (.e0 20):=by
 unfold J_66_0 S_66_0
 rw[hdr_p h,gd_tt,cond_ett rfl,(lst_pv h).1,(lst_pv h).2,gd_tt]
 rw[show decide ((v_71 a k).1.1<(Sp.lst a,()).1)=true from decide_eq_true hv,cond_t]
 rfl
noncomputable def Cd(a:BayT)(k c:Int):Prop:=((k==0||k==1)=false/\c=2)\/∃n:Nat,n<2/\k=n/\((Sp.gdb a n=false/\c=14)\/(Sp.gdb a n=true/\Sp.acb a n=true/\c=6)\/(Sp.gdb a n=true/\Sp.acb a n=false/\Sp.vr a n<Sp.lst a/\c=20))
theorem act_any{a:BayT}(h:BB a)(k:Int):(∃c,c≠0/\Cd a k c/\∀p:PwT,0<=p.1->p.1<=1099511627776->F_66 a k p=some (bF,(0,0,()),c,()))\/(∃n:Nat,n<2/\k=n/\Sp.gdb a n=true/\Sp.acb a n=false/\Sp.lst a<=Sp.vr a n):=by
 have bad:∀c,c≠0->p_83 a k=true->v_83 a k=(c,())->∀p:PwT,0<=p.1->p.1<=1099511627776->F_66 a k p=some (bF,(0,0,()),c,()):=by
  intro c hc cp cv p h0 h1
  unfold F_66
  rw[cond_dff (by omega),full_pv.1,full_pv.2,gd_tt,cond_dff (by show ¬(p.1>1099511627776);omega),cp,cv,gd_tt,cond_eff hc]
  exact(congrArg (fun z=>B_66_0 z _ _ _) (j0_bad h k c hc p (0,()) (replicate 32 0,()) [] [] (0,0,()))).trans rfl
 rcases bank_cases k with⟨n,hn,rfl⟩|hk
 rotate_left
 ·exact .inl ⟨2,by decide,.inl ⟨hk,rfl⟩,bad 2 (by decide) (chk_no h hk).1 (chk_no h hk).2⟩
 cases hg:Sp.gdb a n
 ·exact .inl ⟨14,by decide,.inr ⟨n,hn,rfl,.inl ⟨hg,rfl⟩⟩,bad 14 (by decide) (chk_bad h n hn hg).1 (chk_bad h n hn hg).2⟩
 have pre:∀p:PwT,0<=p.1->p.1<=1099511627776->F_66 a n p=bif Sp.acb a n then B_66_0 (J_66_0 n 6 a p (0,()) (replicate 32 0,()) [] [] (0,0,())) (fun y=>some (bF,(0,0,()),y,())) (fun y26 y27 y28=>some (bF,(0,0,()),(v_76 y27.1 (wrap .i64 (wrap .i64 (Int.tdiv (wrap .i64 (y26*(y27.1.1.length:Int))) 2)+0)) 0 y28).2.2.1,())) (fun y29 y30 y31=>some (((v_76 y30.1 (wrap .i64 (wrap .i64 (Int.tdiv (wrap .i64 (y29*(y30.1.1.length:Int))) 2)+0)) 0 y31).1,y30.2.1,()),(v_76 y30.1 (wrap .i64 (wrap .i64 (Int.tdiv (wrap .i64 (y29*(y30.1.1.length:Int))) 2)+0)) 0 y31).2.1,(v_76 y30.1 (wrap .i64 (wrap .i64 (Int.tdiv (wrap .i64 (y29*(y30.1.1.length:Int))) 2)+0)) 0 y31).2.2.1,()))else B_66_0 (J_66_0 n 0 a p (0,()) (replicate 32 0,()) [] [] (0,0,())) (fun y=>some (bF,(0,0,()),y,())) (fun y26 y27 y28=>some (bF,(0,0,()),(v_76 y27.1 (wrap .i64 (wrap .i64 (Int.tdiv (wrap .i64 (y26*(y27.1.1.length:Int))) 2)+0)) 0 y28).2.2.1,())) (fun y29 y30 y31=>some (((v_76 y30.1 (wrap .i64 (wrap .i64 (Int.tdiv (wrap .i64 (y29*(y30.1.1.length:Int))) 2)+0)) 0 y31).1,y30.2.1,()),(v_76 y30.1 (wrap .i64 (wrap .i64 (Int.tdiv (wrap .i64 (y29*(y30.1.1.length:Int))) 2)+0)) 0 y31).2.1,(v_76 y30.1 (wrap .i64 (wrap .i64 (Int.tdiv (wrap .i64 (y29*(y30.1.1.length:Int))) 2)+0)) 0 y31).2.2.1,())):=by
  intro p h0 h1
  unfold F_66
  rw[cond_dff (by omega),full_pv.1,full_pv.2,gd_tt,cond_dff (by show ¬(p.1>1099511627776);omega),(chk_ok h n hn hg).1,(chk_ok h n hn hg).2,gd_tt,cond_ett rfl,(act_pv h.v n hn).1,(act_pv h.v n hn).2,gd_tt]
  rfl
 cases ha:Sp.acb a n
 rotate_left
 ·refine .inl ⟨6,by decide,.inr ⟨n,hn,rfl,.inr (.inl ⟨hg,ha,rfl⟩)⟩,fun p h0 h1=> ?_⟩
  rw[pre p h0 h1,ha,cond_t,j0_bad h n 6 (by decide) p]
  rfl
 by_cases hv:Sp.vr a n<Sp.lst a
 ·refine .inl ⟨20,by decide,.inr ⟨n,hn,rfl,.inr (.inr ⟨hg,ha,hv,rfl⟩)⟩,fun p h0 h1=> ?_⟩
  rw[pre p h0 h1,ha,cond_f,j0_old h n hn hv p]
  rfl
 ·exact .inr ⟨n,hn,rfl,hg,ha,by omega⟩
namespace Sp
noncomputable def rbt(p:PwT):Int×PwT×Int×Unit:=if p.1=0 then(0,p,18,())else if p.1=1 then(p.2.1,(0,p.2),18,())else(4294967295,(p.1-1,p.2),0,())
end Sp
set_option maxRecDepth 100000
set_option maxHeartbeats 4000000
namespace Sp
noncomputable def plo:List Int->Nat->RsT->RsT
 |[],_,s=>s
 |x::l,k,s=>if s.2.2.1=0 then plo l (k+1) (prg s.1 k x s.2.1)else s
end Sp
abbrev W32f(f:FlT):Prop:=∀x∈f.1,0<=x/\x<4294967296
theorem W32f.at{f:FlT}(h:W32f f)(k:Nat):0<=f.1.getD k 0/\f.1.getD k 0<4294967296:=by
 rw[List.getD_eq_getElem?_getD]
 cases e:f.1[k]? with
 |none=>decide
 |some x=>exact h x (List.mem_of_getElem? e)
theorem bv_rng(b:BitVec 32):0<=wrap .u32 ((b.toNat:Nat):Int)/\wrap .u32 ((b.toNat:Nat):Int)<4294967296:=by
 have:=b.isLt
 rw[u32_wrap_nat b.isLt];omega
theorem fv_pw(f:FlT)(k:Nat)(w b:Int):Sp.fv (Sp.pw f k w b)=Sp.fv f:=by
 unfold Sp.pw Sp.fv
 dsimp only
 rw[List.length_set]
 rfl
structure PG(f0:FlT)(s:RsT):Prop where
 v:Sp.fv s.1=true
 l:s.1.1.length=f0.1.length
 w:W32f s.1
 r:s.1.2=f0.2
 p0:0<=s.2.1.1
 p1:s.2.1.1<=1099511627776
 e:s.2.2.1=0\/s.2.2.1=18
theorem prg_g{f0:FlT}{s:RsT}(h:PG f0 s)(k:Nat)(x:Int):PG f0 (Sp.prg s.1 k x s.2.1):=by
 have hw:∀b,W32f (Sp.pw s.1 k x b):=fun b y hy=>by
  rcases List.mem_or_eq_of_mem_set hy with h1|rfl
  ·exact h.w y h1
  ·exact bv_rng _
 have hl:∀b,(Sp.pw s.1 k x b).1.length=f0.1.length:=fun b=>by unfold Sp.pw;dsimp only;rw[List.length_set];exact h.l
 have p0:=h.p0
 have p1:=h.p1
 unfold Sp.prg
 split
 ·exact⟨h.v,h.l,h.w,h.r,h.p0,h.p1,.inr rfl⟩
 split
 ·exact⟨by rw[fv_pw];exact h.v,hl _,hw _,h.r,Int.le_refl _,by show(0:Int)<=_;decide,.inr rfl⟩
 ·refine⟨by rw[fv_pw];exact h.v,hl _,hw _,h.r,?_,?_,.inl rfl⟩
  ·show 0<=s.2.1.1-1;omega
  ·show s.2.1.1-1<=_;omega
theorem plo_stop(l:List Int)(k:Nat){s:RsT}(h:s.2.2.1≠0):Sp.plo l k s=s:=by
 cases l with
 |nil=>rfl
 |cons x l=>rw[Sp.plo,if_neg h]
theorem plo_g{f0:FlT}:∀(l:List Int)(k:Nat){s:RsT},PG f0 s->PG f0 (Sp.plo l k s)
 |[],_,_,h=>h
 |x::l,k,s,h=>by
  rw[Sp.plo]
  split
  ·exact plo_g l (k+1) (prg_g h k x)
  ·exact h
theorem drop_c{l:List Int}{j:Nat}(h:j<l.length):l.drop j=l.getD j 0::l.drop (j+1):=by
 rw[List.drop_eq_getElem_cons h,List.getD_eq_getElem?_getD,List.getElem?_eq_getElem h];rfl
set_option maxRecDepth 100000
set_option maxHeartbeats 4000000
theorem bay_len{b:BayT}(h:Sp.bvb b=true):b.1.1.length=2*Sp.hlf b/\Sp.hlf b=32*b.1.2.1.length/\b.1.2.1.length<=64/\18<=b.1.2.1.length/\b.1.2.1.length%2=0/\Sp.fv b.1=true:=by
 unfold Sp.bvb Sp.cntB at h
 simp only[Bool.and_eq_true,decide_eq_true_eq]at h
 have hv:=fv_iff.1 h.1
 unfold Sp.hlf
 refine⟨by omega,by omega,by omega,by omega,by omega,h.1⟩
theorem size_pv{b:BayT}(h:Sp.bvb b=true):p_44 b=true/\v_44 b=((Sp.hlf b:Int),()):=by
 have hb:=bay_len h
 refine pv_44 b ?_
 unfold F_44
 rw[Int.tdiv_eq_ediv_of_nonneg (by omega),wi64 (by omega) (by omega)]
 congr 2
 omega
namespace Sp
noncomputable def pok(p:PwT):Bool:=decide (0<=p.1)&&decide (p.1<=1099511627776)
noncomputable def fit(d:DlT)(b:BayT)(p:PwT):Bool:=vdl d&&(bvb b&&(pok p&&(d.1==0||rgt d.2.2.2.1 ((hlf b:Int)-564))))
end Sp
theorem zdl_vdl{d:DlT}(h:Sp.vdl d=true):Sp.zdl d=(d.1==0):=by
 unfold Sp.vdl Sp.vst at h
 cases hz:Sp.zdl d
 ·rw[hz,Bool.false_or]at h
  by_cases e:d.1=0
  ·simp[e]at h
  ·rw[beq_eq_false_iff_ne.2 e]
 ·unfold Sp.zdl at hz
  simp only[Bool.and_eq_true]at hz
  rw[hz.1]
theorem upow_pv(p:PwT):p_61 p=true/\v_61 p=(Sp.pok p,()):=by
 refine pv_61 p ?_
 unfold F_61 Sp.pok
 by_cases h:p.1>=0
 ·rw[cond_dtt h,decide_eq_true (p:=0<=p.1) h,Bool.true_and]
 ·rw[cond_dff h,decide_eq_false (p:=0<=p.1) h,Bool.false_and]
theorem fits_pv{d:DlT}(hh:H32 d.2.2.2.1)(b:BayT)(p:PwT):p_40 d b p=true/\v_40 d b p=((if Sp.fit d b p=true then 0 else 1),()):=by
 refine pv_40 d b p ?_
 have v:=pv_13 _ (valid_ok hh)
 have z:=pv_37 _ (zero_ok d)
 unfold F_40 Sp.fit
 rw[v.1,v.2,gd_tt,(val_pv b).1,(val_pv b).2,gd_tt,(upow_pv p).1,(upow_pv p).2,gd_tt,z.1,z.2,gd_tt]
 dsimp only
 cases hv:Sp.vdl d
 ·rfl
 cases hb:Sp.bvb b
 ·rfl
 cases hp:Sp.pok p
 ·rfl
 rw[zdl_vdl hv]
 have s:=size_pv hb
 have l:=bay_len hb
 rw[s.1,s.2,gd_tt]
 dsimp only
 rw[wi64 (by omega) (by omega)]
 have r:=pv_38 _ _ (right_ok hh ((Sp.hlf b:Int)-564))
 rw[r.1,r.2,gd_tt]
 dsimp only
 cases d.1==0<;>cases Sp.rgt d.2.2.2.1 ((Sp.hlf b:Int)-564)<;>rfl
set_option maxRecDepth 100000
set_option maxHeartbeats 4000000
theorem wl1{f0:FlT}(a:Nat)(l:List Int)(hl:a+l.length<=f0.1.length)(hf:f0.1.length<=100000)(key:List Int×Unit)(p4:DlT)(p5:BayT)(p6:PwT)(p7 p8 p9 p10 p11:Int)(p12:List Int)(p13:Int)(p14:Int×Unit)(p15:List Int×Unit)(p16:PwT)(p18 p19:List Int) :
 ∀(d m j:Nat)(s:RsT),PG f0 s->j+d=l.length->d<m->L_16_43_0_1 m a l l.length j p4 p5 p6 p7 p8 p9 p10 p11 p12 p13 p14 p15 p16 ((s.1,key),s.2.1,s.2.2.1,()) p18 p19=some (.e0 p4 p5 p6 p7 p8 p9 p10 p11 p12 p13 p14 p15 p16 (((Sp.plo (l.drop j) (a+j) s).1,key),(Sp.plo (l.drop j) (a+j) s).2.1,(Sp.plo (l.drop j) (a+j) s).2.2.1,()) p18 p19)
 |0,m+1,j,s,_,hj,_=>by
  rw[L_16_43_0_1,S_16_43_0_1,cond_dff (by omega),List.drop_of_length_le (by omega)]
  rfl
 |d+1,m+1,j,s,h,hj,hm=>by
  have hlen:=h.l
  rw[L_16_43_0_1,S_16_43_0_1,cond_dtt (by omega),gd_inB (by omega) (by omega),drop_c (by omega),Sp.plo]
  dsimp only
  by_cases e:s.2.2.1=0
  ·have pv:=prg_pv (k:=a+j) (w:=l.getD j 0) h.v h.p0 h.p1 (by omega)
   rw[cond_ett e,if_pos e,wi64 (n:=(a:Int)+j) (by omega) (by omega),Int.toNat_natCast,show(a:Int)+(j:Int)=((a+j:Nat):Int) by push_cast;rfl,pv.1,pv.2,gd_tt,wi64 (by omega) (by omega),show(j:Int)+1=((j+1:Nat):Int) by push_cast;rfl]
   exact wl1 a l hl hf key p4 p5 p6 p7 p8 p9 p10 p11 p12 p13 p14 p15 p16 p18 p19 d m (j+1) _ (prg_g h (a+j) _) (by omega) (by omega)
  ·rw[cond_eff e,if_neg e,wi64 (by omega) (by omega),show(j:Int)+1=((j+1:Nat):Int) by push_cast;rfl]
   have:=wl1 a l hl hf key p4 p5 p6 p7 p8 p9 p10 p11 p12 p13 p14 p15 p16 p18 p19 d m (j+1) s h (by omega) (by omega)
   rw[plo_stop _ _ e]at this
   exact this
theorem wl0{f0:FlT}(a:Nat)(l:List Int)(hl:a+l.length<=f0.1.length)(hf:f0.1.length<=100000)(h0:0<l.length)(key:List Int×Unit)(p4:DlT)(p5:BayT)(p6:PwT)(p7 p8 p9 p10 p11:Int)(p12:List Int)(p13:Int)(p14:Int×Unit)(p15:List Int×Unit)(p16 p:PwT)(h:PG f0 (f0,p,0,())) :
 L_16_43_0_0 4611686018427387904 a l l.length 0 p4 p5 p6 p7 p8 p9 p10 p11 p12 p13 p14 p15 p16 (f0.2.2.1,()) key (p,0,()) f0.1 f0.2.1=some (.e1 p4 p5 p6 p7 p8 p9 p10 p11 p12 p13 p14 p15 p16 (((Sp.plo l a (f0,p,0,())).1,key),(Sp.plo l a (f0,p,0,())).2.1,(Sp.plo l a (f0,p,0,())).2.2.1,()) f0.1 f0.2.1):=by
 show L_16_43_0_0 (4611686018427387903+1) a l l.length 0 p4 p5 p6 p7 p8 p9 p10 p11 p12 p13 p14 p15 p16 (f0.2.2.1,()) key (p,0,()) f0.1 f0.2.1=_
 have pv:=prg_pv (k:=a) (w:=l.getD 0 0) h.v h.p0 h.p1 (show a<f0.1.length by omega)
 have e:l=l.getD 0 0::l.drop 1:=by
  have:=drop_c (l:=l) (j:=0) h0
  rw[List.drop_zero]at this
  exact this
 have t:=wl1 a l hl hf key p4 p5 p6 p7 p8 p9 p10 p11 p12 p13 p14 p15 p16 f0.1 f0.2.1 (l.length-1) 4611686018427387903 1 _ (prg_g h a (l.getD 0 0)) (by omega) (by omega)
 have e2:Sp.plo l a (f0,p,0,())=Sp.plo (l.drop 1) (a+1) (Sp.prg f0 a (l.getD 0 0) p):=by
  conv=>lhs;rw[e]
  rw[Sp.plo,if_pos rfl]
 rw[e2]
 rw[L_16_43_0_0,S_16_43_0_0,cond_dtt (by omega),gd_inB (by omega) (by omega)]
 dsimp only
 rw[cond_ett rfl,Int.add_zero,wi64 (n:=(a:Int)) (by omega) (by omega),show toNat 0=0 from rfl]
 rw[show p_76 (f0.1,f0.2.1,f0.2.2.1,()) a (l.getD 0 0) p=true from pv.1,show v_76 (f0.1,f0.2.1,f0.2.2.1,()) a (l.getD 0 0) p=Sp.prg f0 a (l.getD 0 0) p from pv.2,gd_tt,show wrap .i64 (0+1)=((1:Nat):Int)from by decide]
 refine(congrArg (fun z=>B_16_43_0_1 z _) t).trans ?_
 rfl
theorem same_pv(f:FlT)(h:Sp.fv f=true):p_68 f f=true/\v_68 f f=(true,()):=by
 have hv:=fv_iff.1 h
 refine pv_68 f f ?_
 unfold F_68
 rw[cond_nff rfl,cond_nff rfl,cond_nff rfl]
 have h1:=run0 (fun m i(_:Unit)=>L_68_0 m i f f) (n:=f.1.length) (fun _=>()) (r:=some (.e1 f f)) (by omega) (fun m j hj=>by
  show L_68_0 (m+1) (j:Int) f f=L_68_0 m ((j+1:Nat):Int) f f
  rw[L_68_0,S_68_0,cond_dtt (by omega),gd_inB (by omega) (by omega),gd_inB (by omega) (by omega),cond_nff rfl,wi64 (by omega) (by omega)]
  push_cast
  rfl) (fun m=>by
  show L_68_0 (m+1) f.1.length f f=_
  rw[L_68_0,S_68_0,cond_dff (by omega)])
 have h2:=run0 (fun m i(_:Unit)=>L_68_1 m i f f) (n:=f.2.1.length) (fun _=>()) (r:=some .e1) (by omega) (fun m j hj=>by
  show L_68_1 (m+1) (j:Int) f f=L_68_1 m ((j+1:Nat):Int) f f
  rw[L_68_1,S_68_1,cond_dtt (by omega),gd_inB (by omega) (by omega),gd_inB (by omega) (by omega),cond_nff rfl,wi64 (by omega) (by omega)]
  push_cast
  rfl) (fun m=>by
  show L_68_1 (m+1) f.2.1.length f f=_
  rw[L_68_1,S_68_1,cond_dff (by omega)])
 have e1:L_68_0 4611686018427387904 0 f f=_:=h1
 have e2:L_68_1 4611686018427387904 0 f f=_:=h2
 rw[e1]
 simp only[B_68_0]
 rw[e2]
 rfl
theorem bsame_pv(b:BayT)(h:Sp.fv b.1=true):p_32 b b=true/\v_32 b b=(true,()):=by
 refine pv_32 b b ?_
 have s:=same_pv b.1 h
 unfold F_32
 rw[s.1,s.2,gd_tt,show Ty.beq (.arr 32 (.int .u8)) b.2.1 b.2.1=true from beq_self_eq_true b.2.1]
 rfl
abbrev OutT:=DlT×BayT×PwT×Int×Unit
namespace Sp
noncomputable def zD:DlT:=(0,0,0,(0,0,replicate 32 0,(0,[],[],()),()),())
noncomputable def zB:BayT:=(([],[],0,()),replicate 32 0,())
noncomputable def fl(e:Int):OutT:=(zD,zB,(0,0,()),e,())
noncomputable def part(d:DlT):Int:=if d.2.2.2.1.2.1-d.2.2.1<32 then d.2.2.2.1.2.1-d.2.2.1 else 32
noncomputable def nxt(d:DlT)(n:Int):DlT:=(if d.2.2.1+n=d.2.2.2.1.2.1 then 2 else d.1,d.2.1,d.2.2.1+n,d.2.2.2)
noncomputable def adr(d:DlT)(b:BayT):Nat:=d.2.1.toNat*hlf b+564+d.2.2.1.toNat
noncomputable def blr(d:DlT)(b:BayT)(l:List Int)(p:PwT):RsT:=plo l (adr d b) (b.1,p,0,())
noncomputable def blo(d:DlT)(b:BayT)(l:List Int)(p:PwT):OutT:=(if(blr d b l p).2.2.1=0 then nxt d l.length else zD,((blr d b l p).1,b.2),(blr d b l p).2.1,(blr d b l p).2.2.1,())
noncomputable def ble(d:DlT)(b:BayT)(n:Int)(l:List Int)(p:PwT):Int:=if fit d b p=true then(if d.1=1 then(if n=Int.tdiv d.2.2.1 32 then(if(l.length:Int)=part d then 0 else 3)else 15)else 6)else 1
noncomputable def ublk(d:DlT)(b:BayT)(n:Int)(l:List Int)(p:PwT):OutT:=if ble d b n l p=0 then blo d b l p else fl (ble d b n l p)
end Sp
theorem fail_pv(e:Int):p_41 e=true/\v_41 e=Sp.fl e:=pv_41 e rfl
theorem fit_d{d:DlT}{b:BayT}{p:PwT}(h:Sp.fit d b p=true)(h1:d.1=1):Sp.bvb b=true/\0<=p.1/\p.1<=1099511627776/\(d.2.1=0\/d.2.1=1)/\0<=d.2.2.1/\d.2.2.1<d.2.2.2.1.2.1/\d.2.2.2.1.2.1<=(Sp.hlf b:Int)-564/\d.2.2.2.1.2.1<=1484/\Sp.shp d.2.2.2.1.2.2.2.1=true:=by
 unfold Sp.fit Sp.vdl Sp.vst Sp.pok Sp.rgt at h
 have hz:Sp.zdl d=false:=by unfold Sp.zdl;rw[h1];rfl
 rw[hz,h1]at h
 simp at h
 obtain⟨⟨h2,⟨h3,h4,h5,h6,h7⟩,h8,h9,h10⟩,h11,⟨h12,h13⟩,h14,h15,h16,h17,h18⟩:=h
 exact⟨h11,h12,h13,h2,h8,h9,h17,h6,h7⟩
set_option maxRecDepth 100000
set_option maxHeartbeats 4000000
theorem part_b{d:DlT}(h0:0<=d.2.2.1)(h1:d.2.2.1<d.2.2.2.1.2.1):1<=Sp.part d/\Sp.part d<=32/\d.2.2.1+Sp.part d<=d.2.2.2.1.2.1:=by
 unfold Sp.part
 split<;>omega
theorem hlf_mul(d:DlT)(b:BayT)(h:d.2.1=0\/d.2.1=1):d.2.1*(Sp.hlf b:Int)=((d.2.1.toNat*Sp.hlf b:Nat):Int):=by
 rcases h with h|h<;>rw[h]<;>simp
theorem PG.init{b:BayT}{p:PwT}(h:Sp.bvb b=true)(hw:W32f b.1)(h0:0<=p.1)(h1:p.1<=1099511627776):PG b.1 (b.1,p,0,()) :=
 ⟨(bay_len h).2.2.2.2.2,rfl,hw,rfl,h0,h1,.inl rfl⟩
theorem adr_in{d:DlT}{b:BayT}{p:PwT}{l:List Int}(h:Sp.fit d b p=true)(h1:d.1=1)(hl:(l.length:Int)=Sp.part d):Sp.adr d b+l.length<=b.1.1.length/\b.1.1.length<=100000/\0<l.length/\l.length<=32/\(d.2.1.toNat=0\/d.2.1.toNat=1):=by
 obtain⟨hb,_,_,hk,a0,a1,a2,a3,_⟩:=fit_d h h1
 have hp:=part_b a0 a1
 have bl:=bay_len hb
 unfold Sp.adr
 rcases hk with e|e<;>rw[e]<;>refine⟨?_,by omega,by omega,by omega,?_⟩<;>simp<;>omega
theorem blr_g{d:DlT}{b:BayT}{p:PwT}(l:List Int)(h:Sp.fit d b p=true)(h1:d.1=1)(hw:W32f b.1):PG b.1 (Sp.blr d b l p):=by
 obtain⟨hb,p0,p1,_⟩:=fit_d h h1
 exact plo_g l _ (PG.init hb hw p0 p1)
theorem blk_pv{d:DlT}{b:BayT}{n:Int}{l:List Int}{p:PwT}(hh:H32 d.2.2.2.1)(hw:W32f b.1):p_16 d b n l p=true/\v_16 d b n l p=Sp.ublk d b n l p:=by
 refine pv_16 d b n l p ?_
 have f:=fits_pv hh b p
 unfold F_16 Sp.ublk Sp.ble
 rw[f.1,f.2,gd_tt]
 dsimp only
 cases hf:Sp.fit d b p
 ·rw[if_neg Bool.false_ne_true,if_neg Bool.false_ne_true,cond_ntt (by decide),(fail_pv 1).1,(fail_pv 1).2,gd_tt,if_neg (show ¬(1:Int)=0 by decide)]
  try rfl
 rw[if_pos rfl,if_pos rfl,cond_nff rfl]
 by_cases h1:d.1=1
 rotate_left
 ·rw[cond_ntt h1,(fail_pv 6).1,(fail_pv 6).2,gd_tt,if_neg h1,if_neg (show ¬(6:Int)=0 by decide)]
  try rfl
 obtain⟨hb,p0,p1,hk,a0,a1,a2,a3,_⟩:=fit_d hf h1
 have bl:=bay_len hb
 rw[cond_nff h1,if_pos h1,Int.tdiv_eq_ediv_of_nonneg a0,wi64 (n:=d.2.2.1/32) (by omega) (by omega)]
 by_cases h2:n=d.2.2.1/32
 rotate_left
 ·rw[cond_ntt h2,(fail_pv 15).1,(fail_pv 15).2,gd_tt,if_neg h2,if_neg (show ¬(15:Int)=0 by decide)]
  try rfl
 rw[cond_nff h2,if_pos h2,wi64 (n:=d.2.2.2.1.2.1-d.2.2.1) (by omega) (by omega)]
 rw[show(if d.2.2.2.1.2.1-d.2.2.1<32 then d.2.2.2.1.2.1-d.2.2.1 else 32)=Sp.part d from rfl]
 by_cases h3:(l.length:Int)=Sp.part d
 rotate_left
 ·rw[cond_ntt h3,(fail_pv 3).1,(fail_pv 3).2,gd_tt,if_neg h3,if_neg (show ¬(3:Int)=0 by decide)]
  try rfl
 have ad:=adr_in hf h1 h3
 rw[cond_nff h3,if_pos h3,if_pos rfl,gd_room (by omega) (by omega),gd_room (by omega) (by omega),(size_pv hb).1,(size_pv hb).2,gd_tt]
 dsimp only
 have ea:wrap .i64 (wrap .i64 (wrap .i64 (d.2.1*(Sp.hlf b:Int))+564)+d.2.2.1)=(Sp.adr d b:Int):=by
  rw[hlf_mul d b hk]
  have:d.2.1.toNat*Sp.hlf b<=10000:=by
   rcases ad.2.2.2.2 with e|e<;>rw[e]<;>omega
  rw[wi64 (n:=((d.2.1.toNat*Sp.hlf b:Nat):Int)) (by omega) (by omega),wi64 (n:=((d.2.1.toNat*Sp.hlf b:Nat):Int)+564) (by omega) (by omega),wi64 (by omega) (by omega)]
  unfold Sp.adr
  omega
 rw[ea]
 have w:=wl0 (f0:=b.1) (Sp.adr d b) l ad.1 ad.2.1 ad.2.2.1 b.2 d b p 0 0 0 0 0 (replicate 32 0) 0 (0,()) (replicate 32 0,()) (0,0,()) p (PG.init hb hw p0 p1)
 refine(congrArg (fun z=>B_16_43_0_0 z _ _) w).trans ?_
 unfold B_16_43_0_0
 dsimp only
 rw[show Sp.plo l (Sp.adr d b) (b.1,p,0,())=Sp.blr d b l p from rfl]
 have hg:=blr_g l hf h1 hw
 rw[wi64 (n:=d.2.2.1+(l.length:Int)) (by omega) (by omega)]
 have J:∀(q:DlT)(a1:Int)(a2 a3 a4 a5:Int)(a6:List Int)(a7:Int)(a8 a9:List (List Int))(a10:Int×Unit)(a11:List Int×Unit)(a12 a13:List Int)(a14:PwT),B_16_0_1 (J_16_0_1 q a1 a2 a3 a4 a5 a6 a7 a8 a9 a10 a11 a12 a13 a14 (((Sp.blr d b l p).1,b.2),(Sp.blr d b l p).2.1,(Sp.blr d b l p).2.2.1,()))
  (fun y z=>some (y,z.1,z.2.1,(0:Int),())) (fun z=>some (((0:Int),(0:Int),(0:Int),((0:Int),(0:Int),replicate 32 (0:Int),((0:Int),([]:List (List Int)),([]:List (List Int)),()),()),()),z.1,z.2.1,(18:Int),())) (fun z=>some ((v_41 z.2.2.1).1,(v_41 z.2.2.1).2.1,(v_41 z.2.2.1).2.2.1,(v_41 z.2.2.1).2.2.2.1,())) =
  some (if(Sp.blr d b l p).2.2.1=0 then q else Sp.zD,((Sp.blr d b l p).1,b.2),(Sp.blr d b l p).2.1,(Sp.blr d b l p).2.2.1,()):=by
  intro q a1 a2 a3 a4 a5 a6 a7 a8 a9 a10 a11 a12 a13 a14
  unfold J_16_0_1 S_16_0_1
  dsimp only
  rcases hg.e with e|e
  ·rw[cond_ett e,if_pos e,e]
   rfl
  ·rw[cond_eff (by rw[e];decide),cond_ett e,if_neg (by rw[e];decide),e]
   rfl
 unfold Sp.blo Sp.nxt
 by_cases h4:d.2.2.1+(l.length:Int)=d.2.2.2.1.2.1
 ·rw[cond_ett h4,if_pos h4]
  exact J _ _ _ _ _ _ _ _ _ _ _ _ _ _ _
 ·rw[cond_eff h4,if_neg h4]
  exact J _ _ _ _ _ _ _ _ _ _ _ _ _ _ _
namespace Sp
noncomputable def elo:Nat->Nat->RsT->RsT
 |0,_,s=>s
 |n+1,k,s=>if s.2.2.1=0 then elo n (k+1) (ers s.1 k s.2.1)else s
end Sp
theorem elo_stop(n k:Nat){s:RsT}(h:s.2.2.1≠0):Sp.elo n k s=s:=by
 cases n with
 |zero=>rfl
 |succ n=>rw[Sp.elo,if_neg h]
theorem W32f_orW{f:FlT}(h:W32f f)(o:Nat)(b:Int)(n:Nat)(r:List Int×Int×Unit):W32f (Sp.orW f.1 o b n,r):=by
 intro x hx
 obtain⟨i,hi,e⟩:=List.mem_iff_getElem.1 hx
 have hl:i<f.1.length:=by rw[show(Sp.orW f.1 o b n,r).1=Sp.orW f.1 o b n from rfl,orW_len]at hi;exact hi
 have g:=orW_get f.1 o b n i hl
 rw[getD_at 0 (by rw[orW_len];exact hl)]at g
 have e:(Sp.orW f.1 o b n)[i]'(by rw[orW_len];exact hl)=x:=e
 rw[e]at g
 rw[g]
 split
 ·exact bv_rng _
 ·exact h.at i
structure EG(f0:FlT)(k:Nat)(s:RsT):Prop where
 v:Sp.fv s.1=true
 l:s.1.1.length=f0.1.length
 w:W32f s.1
 n:s.1.2.1.length=f0.2.1.length
 r:s.1.2.2=f0.2.2
 p0:0<=s.2.1.1
 p1:s.2.1.1<=1099511627776
 e:s.2.2.1=0\/s.2.2.1=18
 q:∀i,k<=i->s.1.2.1.getD i 0=f0.2.1.getD i 0
theorem fv_ew{f:FlT}{s:Nat}(b:Int)(h:Sp.fv f=true)(h1:f.2.1.getD s 0≠f.2.2.1)(h2:s<f.2.1.length):Sp.fv (Sp.ew f s b)=true:=by
 have hv:=fv_iff.1 h
 unfold Sp.ew
 refine fv_iff.2 ⟨?_,?_,?_,hv.2.2.2.1,hv.2.2.2.2.1,fun j hj=> ?_⟩
 ·simp only[List.length_set];omega
 ·simp only[List.length_set];omega
 ·simp only[List.length_set,orW_len];omega
 ·simp only[List.length_set]at hj
  have a:=hv.2.2.2.2.2 j hj
  have c:=hv.2.2.2.2.2 s h2
  dsimp only
  rw[getD_set _ _ _ _ _ h2]
  split
  ·omega
  ·exact a
theorem ers_g{f0:FlT}{k:Nat}{s:RsT}(h:EG f0 k s)(hk:k<f0.2.1.length)(hw:f0.2.1.getD k 0≠f0.2.2.1):EG f0 (k+1) (Sp.ers s.1 k s.2.1):=by
 have hl:s.1.2.2.1=f0.2.2.1:=by rw[h.r]
 have hn:s.1.2.1.getD k 0≠s.1.2.2.1:=by rw[h.q k (Nat.le_refl _),hl];exact hw
 have p0:=h.p0
 have p1:=h.p1
 have hkl:k<s.1.2.1.length:=by rw[h.n];exact hk
 have he:∀b,Sp.fv (Sp.ew s.1 k b)=true:=fun b=>fv_ew b h.v hn hkl
 have hl1:∀b,(Sp.ew s.1 k b).1.length=f0.1.length:=fun b=>by unfold Sp.ew;dsimp only;rw[orW_len];exact h.l
 have hw1:∀b,W32f (Sp.ew s.1 k b):=fun b=>W32f_orW h.w _ _ _ _
 have hn1:∀b,(Sp.ew s.1 k b).2.1.length=f0.2.1.length:=fun b=>by unfold Sp.ew;dsimp only;rw[List.length_set];exact h.n
 have hr1:∀b,(Sp.ew s.1 k b).2.2=f0.2.2:=fun b=>by rw[<-h.r];rfl
 have hq1:∀b i,k+1<=i->(Sp.ew s.1 k b).2.1.getD i 0=f0.2.1.getD i 0:=fun b i hi=>by
  unfold Sp.ew;dsimp only
  rw[<-h.q i (by omega)]
  simp[List.getD_eq_getElem?_getD,List.getElem?_set_ne (show k≠i by omega)]
 unfold Sp.ers
 rw[if_neg hn]
 split
 ·exact⟨h.v,h.l,h.w,h.n,h.r,p0,p1,.inr rfl,fun i hi=>h.q i (by omega)⟩
 split
 ·exact⟨he _,hl1 _,hw1 _,hn1 _,hr1 _,Int.le_refl _,(by show(0:Int)<=_;decide),.inr rfl,hq1 _⟩
 ·exact⟨he _,hl1 _,hw1 _,hn1 _,hr1 _,(by show 0<=s.2.1.1-1;omega),(by show s.2.1.1-1<=_;omega),.inl rfl,hq1 _⟩
theorem EG.up{f0:FlT}{k j:Nat}{s:RsT}(h:EG f0 k s)(hj:k<=j):EG f0 j s:=⟨h.v,h.l,h.w,h.n,h.r,h.p0,h.p1,h.e,fun i hi=>h.q i (by omega)⟩
theorem elo_g{f0:FlT}:∀(n k:Nat){s:RsT},EG f0 k s->k+n<=f0.2.1.length->(∀i,k<=i->i<k+n->f0.2.1.getD i 0≠f0.2.2.1)->EG f0 (k+n) (Sp.elo n k s)
 |0,_,_,h,_,_=>h
 |n+1,k,s,h,hl,hw=>by
  rw[Sp.elo]
  split
  ·have:=elo_g n (k+1) (ers_g h (by omega) (hw k (by omega) (by omega))) (by omega) (fun i h1 h2=>hw i (by omega) (by omega))
   rw[show k+(n+1)=k+1+n by omega]
   exact this
  ·exact h.up (by omega)
theorem EG.init{f:FlT}{p:PwT}{k:Nat}(h:Sp.fv f=true)(hw:W32f f)(h0:0<=p.1)(h1:p.1<=1099511627776):EG f k (f,p,0,()) :=
 ⟨h,rfl,hw,rfl,rfl,h0,h1,.inl rfl,fun _ _=>rfl⟩
theorem EG.pg{f0:FlT}{k:Nat}{s:RsT}(h:EG f0 k s):PG s.1 s:=⟨h.v,rfl,h.w,rfl,h.p0,h.p1,h.e⟩
theorem en1{f0:FlT}(k n:Nat)(hk:k<=1)(hl:k*n+n<=f0.2.1.length)(hf:f0.2.1.length<=1000)(hw:∀i,k*n<=i->i<k*n+n->f0.2.1.getD i 0≠f0.2.2.1)(key:List Int×Unit)(p4:BayT)(p5:HdrT)(p6 p7 p8 p9 p10:Int)(p11:List Int)(p12:Int)(p13 p14:List (List Int))(p15:Int×Unit)(p16:List Int×Unit)(p17 p18:List Int)(p19:PwT) :
 ∀(d m j:Nat)(s:RsT),EG f0 (k*n+j) s->j+d=n->d<m->L_27_1_1 m k n n j p4 p5 p6 p7 p8 p9 p10 p11 p12 p13 p14 p15 p16 p17 p18 p19 ((s.1,key),s.2.1,s.2.2.1,())=some (.e0 k p4 p5 p6 p7 p8 p9 p10 p11 p12 p13 p14 p15 p16 p17 p18 p19 (((Sp.elo d (k*n+j) s).1,key),(Sp.elo d (k*n+j) s).2.1,(Sp.elo d (k*n+j) s).2.2.1,()))
 |0,m+1,j,s,_,hj,_=>by
  rw[L_27_1_1,S_27_1_1,cond_dff (by omega)]
  rfl
 |d+1,m+1,j,s,h,hj,hm=>by
  have hkn:k*n<=1000:=by omega
  have ek:(k:Int)*(n:Int)=((k*n:Nat):Int):=by push_cast;rfl
  rw[L_27_1_1,S_27_1_1,cond_dtt (by omega),Sp.elo]
  dsimp only
  by_cases e:s.2.2.1=0
  ·have pv:=ers_pv (f:=s.1) (p:=s.2.1) (s:=k*n+j) h.v h.p0 h.p1 (by rw[h.n];omega)
   rw[cond_ett e,if_pos e,ek,wi64 (n:=((k*n:Nat):Int)) (by omega) (by omega),wi64 (n:=((k*n:Nat):Int)+j) (by omega) (by omega),show((k*n:Nat):Int)+(j:Int)=((k*n+j:Nat):Int) by push_cast;rfl,pv.1,pv.2,gd_tt,wi64 (by omega) (by omega),show(j:Int)+1=((j+1:Nat):Int) by push_cast;rfl]
   exact en1 k n hk hl hf hw key p4 p5 p6 p7 p8 p9 p10 p11 p12 p13 p14 p15 p16 p17 p18 p19 d m (j+1) _ (ers_g (k:=k*n+j) h (by omega) (hw (k*n+j) (by omega) (by omega))) (by omega) (by omega)
  ·rw[cond_eff e,if_neg e,wi64 (by omega) (by omega),show(j:Int)+1=((j+1:Nat):Int) by push_cast;rfl]
   have:=en1 k n hk hl hf hw key p4 p5 p6 p7 p8 p9 p10 p11 p12 p13 p14 p15 p16 p17 p18 p19 d m (j+1) s (h.up (by omega)) (by omega) (by omega)
   rw[elo_stop _ _ e]at this
   exact this
theorem en0{f0:FlT}(k n:Nat)(hk:k<=1)(hn:0<n)(hl:k*n+n<=f0.2.1.length)(hf:f0.2.1.length<=1000)(hw:∀i,k*n<=i->i<k*n+n->f0.2.1.getD i 0≠f0.2.2.1)(key:List Int×Unit)(p4:BayT)(p5:HdrT)(p6 p7 p8 p9 p10:Int)(p11:List Int)(p12:Int)(p13 p14:List (List Int))(p15:Int×Unit)(p16:List Int×Unit)(p17 p18:List Int)(p19 p:PwT)(h:EG f0 (k*n) (f0,p,0,())) :
 L_27_1 4611686018427387904 k n n 0 p4 p5 p6 p7 p8 p9 p10 p11 p12 p13 p14 p15 p16 p17 p18 p19 (f0.2.2.1,()) key (p,0,()) f0.1 f0.2.1=some (.e1 k p4 p5 p6 p7 p8 p9 p10 p11 p12 p13 p14 p15 p16 p17 p18 p19 (((Sp.elo n (k*n) (f0,p,0,())).1,key),(Sp.elo n (k*n) (f0,p,0,())).2.1,(Sp.elo n (k*n) (f0,p,0,())).2.2.1,())):=by
 obtain⟨n',rfl⟩:∃n',n=n'+1:=⟨n-1,by omega⟩
 show L_27_1 (4611686018427387903+1) k (n'+1:Nat) (n'+1:Nat) 0 p4 p5 p6 p7 p8 p9 p10 p11 p12 p13 p14 p15 p16 p17 p18 p19 (f0.2.2.1,()) key (p,0,()) f0.1 f0.2.1=_
 have hkn:k*(n'+1)<=1000:=by omega
 have ek:(k:Int)*((n'+1:Nat):Int)=((k*(n'+1):Nat):Int):=by push_cast;rfl
 have pv:=ers_pv (f:=f0) (p:=p) (s:=k*(n'+1)) h.v h.p0 h.p1 (by omega)
 have t:=en1 k (n'+1) hk hl hf hw key p4 p5 p6 p7 p8 p9 p10 p11 p12 p13 p14 p15 p16 p17 p18 p19 n' 4611686018427387903 1 _ (ers_g (k:=k*(n'+1)) h (by omega) (hw (k*(n'+1)) (by omega) (by omega))) (by omega) (by omega)
 rw[Sp.elo,if_pos rfl]
 rw[L_27_1,S_27_1,cond_dtt (by omega)]
 dsimp only
 rw[cond_ett rfl,ek,Int.add_zero,wi64 (n:=((k*(n'+1):Nat):Int)) (by omega) (by omega),wi64 (n:=((k*(n'+1):Nat):Int)) (by omega) (by omega)]
 rw[show p_91 (f0.1,f0.2.1,f0.2.2.1,()) ((k*(n'+1):Nat):Int) p=true from pv.1,show v_91 (f0.1,f0.2.1,f0.2.2.1,()) ((k*(n'+1):Nat):Int) p=Sp.ers f0 (k*(n'+1)) p from pv.2,gd_tt,show wrap .i64 (0+1)=((1:Nat):Int)from by decide]
 refine(congrArg (fun z=>B_27_1_1 z _) t).trans ?_
 rfl
theorem pn1{f0:FlT}(a:Nat)(l:List Int)(hl:a+l.length<=f0.1.length)(hf:f0.1.length<=100000)(key:List Int×Unit)(p4:BayT)(p5:HdrT)(p6 p7 p8 p9 p10:Int)(p11:List Int)(p12:Int)(p13 p14:List (List Int))(p15:Int×Unit)(p16:List Int×Unit)(p17 p18:List Int)(p19:PwT) :
 ∀(d m j:Nat)(s:RsT),PG f0 s->j+d=l.length->d<m->L_27_43_0_2 m a l l.length j p4 p5 p6 p7 p8 p9 p10 p11 p12 p13 p14 p15 p16 p17 p18 p19 ((s.1,key),s.2.1,s.2.2.1,())=some (.e0 p4 p5 p6 p7 p8 p9 p10 p11 p12 p13 p14 p15 p16 p17 p18 p19 (((Sp.plo (l.drop j) (a+j) s).1,key),(Sp.plo (l.drop j) (a+j) s).2.1,(Sp.plo (l.drop j) (a+j) s).2.2.1,()))
 |0,m+1,j,s,_,hj,_=>by
  rw[L_27_43_0_2,S_27_43_0_2,cond_dff (by omega),List.drop_of_length_le (by omega)]
  rfl
 |d+1,m+1,j,s,h,hj,hm=>by
  have hlen:=h.l
  rw[L_27_43_0_2,S_27_43_0_2,cond_dtt (by omega),gd_inB (by omega) (by omega),drop_c (by omega),Sp.plo]
  dsimp only
  by_cases e:s.2.2.1=0
  ·have pv:=prg_pv (k:=a+j) (w:=l.getD j 0) h.v h.p0 h.p1 (by omega)
   rw[cond_ett e,if_pos e,wi64 (n:=(a:Int)+j) (by omega) (by omega),Int.toNat_natCast,show(a:Int)+(j:Int)=((a+j:Nat):Int) by push_cast;rfl,pv.1,pv.2,gd_tt,wi64 (by omega) (by omega),show(j:Int)+1=((j+1:Nat):Int) by push_cast;rfl]
   exact pn1 a l hl hf key p4 p5 p6 p7 p8 p9 p10 p11 p12 p13 p14 p15 p16 p17 p18 p19 d m (j+1) _ (prg_g h (a+j) _) (by omega) (by omega)
  ·rw[cond_eff e,if_neg e,wi64 (by omega) (by omega),show(j:Int)+1=((j+1:Nat):Int) by push_cast;rfl]
   have:=pn1 a l hl hf key p4 p5 p6 p7 p8 p9 p10 p11 p12 p13 p14 p15 p16 p17 p18 p19 d m (j+1) s h (by omega) (by omega)
   rw[plo_stop _ _ e]at this
   exact this
set_option maxRecDepth 100000
set_option maxHeartbeats 4000000
theorem odd_pv(h:HdrT):p_9 h=true/\v_9 h=(decide ((h.2.2.2.1.2.1.length:Int)>100)||decide ((h.2.2.2.1.2.2.1.length:Int)>100),()):=by
 refine pv_9 h ?_
 unfold F_9
 cases decide ((h.2.2.2.1.2.1.length:Int)>100)<;>rfl
theorem h32{h:HdrT}(w:wfD (.pair (.int .i64) (.pair (.int .i64) (.pair (.arr 32 (.int .u8)) (.pair (.pair (.int .i64) (.pair (.slice (.arr 32 (.int .u8))) (.pair (.slice (.arr 32 (.int .u8))) .unit))) .unit)))) h):H32 h:=
 ⟨w.2.2.1.1,fun x hx=>(w.2.2.2.1.2.1 x hx).1,fun x hx=>(w.2.2.2.1.2.2.1 x hx).1⟩
namespace Sp
noncomputable def hn(b:BayT):Nat:=b.1.2.1.length/2
noncomputable def tg(b:BayT):Nat:=bif has b then 1-sb b else 0
noncomputable def wrn(b:BayT)(k:Nat):Bool:=(take (hn b) (drop (k*hn b) b.1.2.1)).contains b.1.2.2.1
noncomputable def bgs(b:BayT)(h:HdrT)(p:PwT)(k:Nat):RsT:=plo (hdw h) (k*hlf b+1) (elo (hn b) (k*hn b) (b.1,p,0,()))
noncomputable def bgo(b:BayT)(h:HdrT)(p:PwT)(k:Nat):OutT:=(if(bgs b h p k).2.2.1=0 then(1,(k:Int),0,h,())else zD,((bgs b h p k).1,b.2),(bgs b h p k).2.1,(bgs b h p k).2.2.1,())
noncomputable def bge(d:DlT)(b:BayT)(h:HdrT)(p:PwT):Int:=if vdl d=true/\bvb b=true/\pok p=true/\rgt h ((hlf b:Int)-564)=true then(if zdl d=true then(if h.1<=lst b then 20 else if verF b.2.1 h.2.2.1 h.2.2.2.1=true then(if wrn b (tg b)=true then 19 else 0)else 14)else 6)else 1
noncomputable def bgn(d:DlT)(b:BayT)(h:HdrT)(p:PwT):OutT:=if bge d b h p=0 then bgo b h p (tg b)else fl (bge d b h p)
end Sp
theorem tg_le(b:BayT):Sp.tg b<=1:=by
 unfold Sp.tg
 cases Sp.has b
 ·exact Nat.zero_le _
 ·show 1-Sp.sb b<=1;omega
theorem wrn_no{b:BayT}{k:Nat}(hb:Sp.bvb b=true)(hk:k<=1)(h:Sp.wrn b k=false):k*Sp.hn b+Sp.hn b<=b.1.2.1.length/\∀i,k*Sp.hn b<=i->i<k*Sp.hn b+Sp.hn b->b.1.2.1.getD i 0≠b.1.2.2.1:=by
 have hl:k*Sp.hn b+Sp.hn b<=b.1.2.1.length:=by
  have bl:=bay_len hb
  have:k*Sp.hn b<=1*Sp.hn b:=Nat.mul_le_mul_right _ hk
  have e:Sp.hn b=b.1.2.1.length/2:=rfl
  omega
 refine⟨hl,fun i h1 h2 e=> ?_⟩
 unfold Sp.wrn at h
 have hx:(i-k*Sp.hn b)<(take (Sp.hn b) (drop (k*Sp.hn b) b.1.2.1)).length:=by
  rw[List.length_take,List.length_drop];omega
 have hm:=List.getElem_mem hx
 rw[List.getElem_take,List.getElem_drop]at hm
 have e2:b.1.2.1[k*Sp.hn b+(i-k*Sp.hn b)]'(by omega)=b.1.2.2.1:=by
  rw[<-e,getD_at 0 (by omega)]
  congr 1
  omega
 rw[e2]at hm
 have:(take (Sp.hn b) (drop (k*Sp.hn b) b.1.2.1)).contains b.1.2.2.1=true:=by simpa using hm
 rw[this]at h
 cases h
theorem bgs_g{b:BayT}{h:HdrT}{p:PwT}{k:Nat}(hb:Sp.bvb b=true)(hk:k<=1)(hw:W32f b.1)(h0:0<=p.1)(h1:p.1<=1099511627776)(hn:Sp.wrn b k=false) :
 EG b.1 (k*Sp.hn b+Sp.hn b) (Sp.elo (Sp.hn b) (k*Sp.hn b) (b.1,p,0,()))/\PG (Sp.elo (Sp.hn b) (k*Sp.hn b) (b.1,p,0,())).1 (Sp.bgs b h p k):=by
 obtain⟨hl,hq⟩:=wrn_no hb hk hn
 have g:=elo_g (Sp.hn b) (k*Sp.hn b) (EG.init (f:=b.1) (p:=p) (k:=k*Sp.hn b) (bay_len hb).2.2.2.2.2 hw h0 h1) hl hq
 exact⟨g,plo_g _ _ g.pg⟩
theorem j_bg{b:BayT}{h:HdrT}{p:PwT}(k:Nat)(hk:k<=1)(hb:Sp.bvb b=true)(hw:W32f b.1)(hh:H32 h)(hs:Sp.shp h.2.2.2.1=true)(h0:0<=p.1)(h1:p.1<=1099511627776)(p4 p5 p6 p7 p8:Int)(p9:List Int)(p10:Int)(p11 p12:List (List Int))(p13:Int×Unit)(p14:List Int×Unit)(p15 p16:List Int)(p17:PwT) :
 J_27_0 k b h p p4 p5 p6 p7 p8 p9 p10 p11 p12 p13 p14 p15 p16 p17=some (if Sp.wrn b k=true then .e0 else if(Sp.bgs b h p k).2.2.1=0 then .e4 k h (((Sp.bgs b h p k).1,b.2),(Sp.bgs b h p k).2.1,(Sp.bgs b h p k).2.2.1,())else .e5 (((Sp.bgs b h p k).1,b.2),(Sp.bgs b h p k).2.1,(Sp.bgs b h p k).2.2.1,())):=by
 have bl:=bay_len hb
 have en:wrap .i64 (Int.tdiv (b.1.2.1.length:Int) 2)=(Sp.hn b:Int):=by
  have e:Sp.hn b=b.1.2.1.length/2:=rfl
  rw[Int.tdiv_eq_ediv_of_nonneg (by omega),wi64 (by omega) (by omega)]
  omega
 have hn2:Sp.hn b<=32/\9<=Sp.hn b/\Sp.hn b+Sp.hn b=b.1.2.1.length:=by
  have e:Sp.hn b=b.1.2.1.length/2:=rfl
  omega
 have ekn:k*Sp.hn b<=Sp.hn b:=by
  have:k*Sp.hn b<=1*Sp.hn b:=Nat.mul_le_mul_right _ hk
  omega
 have ek:(k:Int)*(Sp.hn b:Int)=((k*Sp.hn b:Nat):Int):=by push_cast;try rfl
 have ekh:k*Sp.hlf b<=Sp.hlf b:=by
  have:k*Sp.hlf b<=1*Sp.hlf b:=Nat.mul_le_mul_right _ hk
  omega
 have eh:(k:Int)*(Sp.hlf b:Int)=((k*Sp.hlf b:Nat):Int):=by push_cast;try rfl
 have c:=cont_pv (take (Sp.hn b) (drop (k*Sp.hn b) b.1.2.1)) b.1.2.2.1 (by rw[List.length_take];omega)
 unfold J_27_0 S_27_0
 rw[en,ek,wi64 (n:=((k*Sp.hn b:Nat):Int)) (by omega) (by omega),wi64 (n:=((k*Sp.hn b:Nat):Int)+(Sp.hn b:Int)) (by omega) (by omega),gd_sl3 (by omega) (by omega) (by omega),Int.toNat_natCast,show(((k*Sp.hn b:Nat):Int)+(Sp.hn b:Int)).toNat-k*Sp.hn b=Sp.hn b by omega,c.1,c.2,gd_tt]
 dsimp only
 rw[show(take (Sp.hn b) (drop (k*Sp.hn b) b.1.2.1)).contains b.1.2.2.1=Sp.wrn b k from rfl]
 cases hwn:Sp.wrn b k
 rotate_left
 ·rw[cond_t,(fail_pv 19).1,gd_tt,if_pos rfl]
 rw[cond_f,if_neg Bool.false_ne_true,gd_room (by omega) (by omega),gd_room (by omega) (by omega)]
 obtain⟨hl,hq⟩:=wrn_no hb hk hwn
 have g:=bgs_g (h:=h) hb hk hw h0 h1 hwn
 have w:=en0 (f0:=b.1) k (Sp.hn b) hk (by omega) hl (by omega) hq b.2 b h p4 p5 p6 p7 p8 p9 p10 p11 p12 p13 p14 p15 p16 p17 p (EG.init bl.2.2.2.2.2 hw h0 h1)
 refine(congrArg (fun z=>B_27_1 z _ _) w).trans ?_
 unfold B_27_1
 dsimp only
 have hd:=hdw_pv hh hs
 have hdl:=hdw_len hs
 rw[(size_pv hb).1,(size_pv hb).2,gd_tt,hd.1,hd.2,gd_tt]
 dsimp only
 have ewl:(Sp.elo (Sp.hn b) (k*Sp.hn b) (b.1,p,0,())).1.1.length=b.1.1.length:=g.1.l
 rw[eh,wi64 (n:=((k*Sp.hlf b:Nat):Int)) (by omega) (by omega),wi64 (n:=((k*Sp.hlf b:Nat):Int)+1) (by omega) (by omega),show((k*Sp.hlf b:Nat):Int)+1=((k*Sp.hlf b+1:Nat):Int) by push_cast;rfl]
 have w2:=pn1 (f0:=(Sp.elo (Sp.hn b) (k*Sp.hn b) (b.1,p,0,())).1) (k*Sp.hlf b+1) (Sp.hdw h) (by omega) (by omega) b.2 b h p4 p5 p6 p7 p8 p9 p10 p11 p12 p13 p14 p15 p16 p17 (Sp.hdw h).length 4611686018427387904 0 _ g.1.pg (by omega) (by omega)
 rw[List.drop_zero,Nat.add_zero]at w2
 refine(congrArg (fun z=>B_27_43_0_2 z _) w2).trans ?_
 unfold B_27_43_0_2
 dsimp only
 rw[show Sp.plo (Sp.hdw h) (k*Sp.hlf b+1) (Sp.elo (Sp.hn b) (k*Sp.hn b) (b.1,p,0,()))=Sp.bgs b h p k from rfl]
 rcases g.2.e with e|e
 ·rw[cond_ett e,if_pos e]
 ·rw[cond_eff (by rw[e];decide),cond_ett e,if_neg (by rw[e];decide)]
theorem bgn_pv{d:DlT}{b:BayT}{h:HdrT}{p:PwT}(hd:H32 d.2.2.2.1)(hh:H32 h)(hw:W32f b.1)(hby:bytes h.2.2.1):p_27 d b h p=true/\v_27 d b h p=Sp.bgn d b h p:=by
 refine pv_27 d b h p ?_
 have v:=pv_13 _ (valid_ok hd)
 have z:=pv_37 _ (zero_ok d)
 unfold F_27
 rw[v.1,v.2,gd_tt,(val_pv b).1,(val_pv b).2,gd_tt,(upow_pv p).1,(upow_pv p).2,gd_tt,(fail_pv 1).1,(fail_pv 1).2,gd_tt]
 dsimp only
 have no:¬(Sp.vdl d=true/\Sp.bvb b=true/\Sp.pok p=true/\Sp.rgt h ((Sp.hlf b:Int)-564)=true)->Sp.bgn d b h p=Sp.fl 1:=fun c=>by
  unfold Sp.bgn Sp.bge
  rw[if_neg c,if_neg (show ¬(1:Int)=0 by decide)]
 cases hv:Sp.vdl d
 ·rw[no (by rw[hv];simp)];try rfl
 cases hb:Sp.bvb b
 ·rw[no (by rw[hb];simp)];try rfl
 cases hp:Sp.pok p
 ·rw[no (by rw[hp];simp)];try rfl
 have bl:=bay_len hb
 have hp2:0<=p.1/\p.1<=1099511627776:=by
  unfold Sp.pok at hp
  simpa using hp
 rw[(size_pv hb).1,(size_pv hb).2,gd_tt]
 dsimp only
 rw[wi64 (n:=(Sp.hlf b:Int)-564) (by omega) (by omega)]
 have r:=pv_38 _ _ (right_ok hh ((Sp.hlf b:Int)-564))
 rw[r.1,r.2,gd_tt]
 dsimp only
 cases hr:Sp.rgt h ((Sp.hlf b:Int)-564)
 ·rw[no (by rw[hr];simp)];try rfl
 clear no
 have E:Sp.bge d b h p=(if Sp.zdl d=true then(if h.1<=Sp.lst b then 20 else if Sp.verF b.2.1 h.2.2.1 h.2.2.2.1=true then(if Sp.wrn b (Sp.tg b)=true then 19 else 0)else 14)else 6):=by
  unfold Sp.bge
  rw[if_pos ⟨hv,hb,hp,hr⟩]
 unfold Sp.bgn
 rw[E,z.1,z.2,gd_tt]
 clear E
 show(bif !(Sp.zdl d)then _ else _)=_
 cases hz:Sp.zdl d
 ·rw[Bool.not_false,cond_t,(fail_pv 6).1,(fail_pv 6).2,gd_tt,if_neg Bool.false_ne_true,if_neg (show ¬(6:Int)=0 by decide)];try rfl
 have B:BB b:=⟨bv_of hb,hb⟩
 rw[Bool.not_true,cond_f,if_pos rfl,(lst_pv B).1,(lst_pv B).2,gd_tt]
 dsimp only
 by_cases hvr:h.1<=Sp.lst b
 ·rw[cond_dtt hvr,(fail_pv 20).1,(fail_pv 20).2,gd_tt,if_pos hvr,if_neg (show ¬(20:Int)=0 by decide)];try rfl
 have vf:=pv_62 _ _ _ (verify_ok b.2.1 h.2.2.1 hby h.2.2.2.1)
 rw[cond_dff hvr,if_neg hvr,vf.1,vf.2,gd_tt]
 dsimp only
 cases hvf:Sp.verF b.2.1 h.2.2.1 h.2.2.2.1
 ·rw[Bool.not_false,cond_t,(fail_pv 14).1,(fail_pv 14).2,gd_tt,if_neg Bool.false_ne_true,if_neg (show ¬(14:Int)=0 by decide)];try rfl
 rw[Bool.not_true,cond_f,if_pos rfl,(atv B).1,(atv B).2,gd_tt]
 dsimp only
 have hs:Sp.shp h.2.2.2.1=true:=by
  unfold Sp.rgt at hr
  simp only[Bool.and_eq_true]at hr
  exact hr.2.2.2.2
 have J:=j_bg (b:=b) (h:=h) (p:=p) (Sp.tg b) (tg_le b) hb hw hh hs hp2.1 hp2.2 0 0 0 0 0 (replicate 32 0) 0 [] [] (0,()) (replicate 32 0,()) [] [] (0,0,())
 have key:B_27_0 (J_27_0 (Sp.tg b:Int) b h p 0 0 0 0 0 (replicate 32 0) 0 [] [] (0,()) (replicate 32 0,()) [] [] (0,0,())) (some ((v_41 19).1,(v_41 19).2.1,(v_41 19).2.2.1,(v_41 19).2.2.2.1,())) (fun y36 y37 y38 y39 y40 y41 y42=>some ((1,y36,0,y37,()),((y41,y42,y38),y39),y40.1,0,())) (fun y43 y44 y45 y46 y47=>some (Sp.zD,((y46,y47,y43),y44),y45.1,18,())) (fun y48=>some ((v_41 y48.2.1).1,(v_41 y48.2.1).2.1,(v_41 y48.2.1).2.2.1,(v_41 y48.2.1).2.2.2.1,())) (fun y49 y50 y51=>some ((1,y49,0,y50,()),y51.1,y51.2.1,0,())) (fun y52=>some (Sp.zD,y52.1,y52.2.1,18,())) (fun y53=>some ((v_41 y53.2.2.1).1,(v_41 y53.2.2.1).2.1,(v_41 y53.2.2.1).2.2.1,(v_41 y53.2.2.1).2.2.2.1,()))=some (if(if Sp.wrn b (Sp.tg b)=true then(19:Int)else 0)=0 then Sp.bgo b h p (Sp.tg b)else Sp.fl (if Sp.wrn b (Sp.tg b)=true then(19:Int)else 0)):=by
  rw[J]
  cases hwn:Sp.wrn b (Sp.tg b)
  rotate_left
  ·rw[if_pos rfl,if_pos rfl,if_neg (show ¬(19:Int)=0 by decide)]
   unfold B_27_0
   dsimp only
   rw[(fail_pv 19).2]
   try rfl
  have g:=(bgs_g (h:=h) hb (tg_le b) hw hp2.1 hp2.2 hwn).2
  rw[if_neg Bool.false_ne_true,if_neg Bool.false_ne_true,if_pos rfl]
  unfold Sp.bgo
  rcases g.e with e|e
  ·rw[if_pos e,if_pos e,e]
   try rfl
  ·rw[if_neg (by rw[e];decide),if_neg (by rw[e];decide),e]
   try rfl
 cases hha:Sp.has b
 ·rw[cond_f]
  have e:Sp.tg b=0:=by unfold Sp.tg;rw[hha];try rfl
  rw[e]at key⊢
  exact key
 ·rw[cond_t]
  have sl:=sb_lt b
  have e:Sp.tg b=1-Sp.sb b:=by unfold Sp.tg;rw[hha];try rfl
  rw[wi64 (n:=1-(Sp.sb b:Int)) (by omega) (by omega),show 1-(Sp.sb b:Int)=((Sp.tg b:Nat):Int) by omega]
  exact key
set_option maxRecDepth 100000
set_option maxHeartbeats 4000000
noncomputable def EQ(b:BayT):Prop:=p_32 b b=true/\v_32 b b=(true,())
theorem zsame_pv:EQ Sp.zB:=pv_32 _ _ (by kernel_rfl)
namespace Sp
noncomputable def prt(w:List Int)(i:Nat):List Int:=take 32 (drop (32*i) w)
noncomputable def lpr(w:List Int):Nat->Nat->OutT->OutT
 |0,_,s=>s
 |n+1,i,s=>if s.2.2.2.1=0/\32*i<w.length then lpr w n (i+1) (ublk s.1 s.2.1 i (prt w i) s.2.2.1)else s
end Sp
structure IV(hb:Nat)(h:HdrT)(w:List Int)(i:Nat)(s:OutT):Prop where
 hh:H32 h
 lw:(w.length:Int)=h.2.1
 l1:w.length<=100
 rg:Sp.rgt h ((hb:Int)-564)=true
 ok:s.2.2.2.1=0->(∃k:Int,(k=0\/k=1)/\s.1=(if 32*i<w.length then 1 else 2,k,if 32*i<w.length then((32*i:Nat):Int)else(w.length:Int),h,()))/\Sp.bvb s.2.1=true/\Sp.hlf s.2.1=hb/\W32f s.2.1.1/\Sp.pok s.2.2.1=true
 no:s.2.2.2.1≠0->s.1=Sp.zD
 eq:EQ s.2.1
theorem pok_b{p:PwT}(h:Sp.pok p=true):0<=p.1/\p.1<=1099511627776:=by
 unfold Sp.pok at h
 simpa using h
theorem pok_of{p:PwT}(h:0<=p.1)(h1:p.1<=1099511627776):Sp.pok p=true:=by
 unfold Sp.pok
 simp[h,h1]
theorem bvb_of{b:BayT}{f:FlT}(h:Sp.bvb b=true)(hv:Sp.fv f=true)(hl:f.2.1.length=b.1.2.1.length):Sp.bvb (f,b.2)=true:=by
 unfold Sp.bvb at h⊢
 dsimp only
 rw[hv,hl,Bool.true_and]
 simp only[Bool.and_eq_true]at h
 exact h.2
theorem rgt_1484{h:HdrT}{hb:Nat}(hl:hb<=2048)(r:Sp.rgt h ((hb:Int)-564)=true):Sp.rgt h 1484=true/\1<=h.2.1/\Sp.shp h.2.2.2.1=true:=by
 unfold Sp.rgt at r⊢
 simp only[Bool.and_eq_true,decide_eq_true_eq]at r⊢
 refine⟨⟨r.1,r.2.1,r.2.2.1,by omega,r.2.2.2.2⟩,r.2.2.1,r.2.2.2.2⟩
theorem iv_fit{hb:Nat}{h:HdrT}{w:List Int}{i:Nat}{s:OutT}(V:IV hb h w i s)(e:s.2.2.2.1=0):Sp.vdl s.1=true/\Sp.fit s.1 s.2.1 s.2.2.1=true:=by
 obtain⟨⟨k,hk,hd⟩,hb1,hb2,_,hp⟩:=V.ok e
 have bl:=bay_len hb1
 have hl:=V.lw
 obtain⟨r1,r2,_⟩:=rgt_1484 (by omega) V.rg
 have hkb:(k==0||k==1)=true:=by rcases hk with rfl|rfl<;>rfl
 have hv:Sp.vdl s.1=true:=by
  rw[hd]
  unfold Sp.vdl Sp.vst
  dsimp only
  rw[hkb,r1,Bool.true_and,Bool.true_and]
  by_cases c:32*i<w.length
  ·rw[if_pos c,if_pos c]
   have e1:Int.tmod ((32*i:Nat):Int) 32=0:=by rw[Int.tmod_eq_emod_of_nonneg (by omega)];omega
   rw[e1,decide_eq_true (p:=(0:Int)<=((32*i:Nat):Int)) (by omega),decide_eq_true (p:=((32*i:Nat):Int)<h.2.1) (by omega)]
   simp
  ·rw[if_neg c,if_neg c,hl]
   simp
 refine⟨hv,?_⟩
 unfold Sp.fit
 rw[hv,hb1,hp,hb2,hd]
 dsimp only
 rw[V.rg]
 simp
theorem iv_step{hb:Nat}{h:HdrT}{w:List Int}{i:Nat}{s:OutT}(V:IV hb h w i s)(e:s.2.2.2.1=0)(hi:32*i<w.length):IV hb h w (i+1) (Sp.ublk s.1 s.2.1 i (Sp.prt w i) s.2.2.1):=by
 obtain⟨hv,hf⟩:=iv_fit V e
 obtain⟨⟨k,hk,hd⟩,hb1,hb2,hw,hp⟩:=V.ok e
 have bl:=bay_len hb1
 have hl:=V.lw
 rw[if_pos hi,if_pos hi]at hd
 have d1:s.1.1=1:=by rw[hd]
 have d3:s.1.2.2.1=((32*i:Nat):Int):=by rw[hd]
 have d4:s.1.2.2.2.1=h:=by rw[hd]
 have hpl:((Sp.prt w i).length:Int)=Sp.part s.1:=by
  unfold Sp.prt Sp.part
  rw[d3,d4,List.length_take,List.length_drop,<-hl]
  split<;>omega
 have hble:Sp.ble s.1 s.2.1 i (Sp.prt w i) s.2.2.1=0:=by
  unfold Sp.ble
  rw[if_pos hf,if_pos d1,d3,Int.tdiv_eq_ediv_of_nonneg (by omega),if_pos (by omega),if_pos hpl]
 have g:=blr_g (Sp.prt w i) hf d1 hw
 have eqb:EQ ((Sp.blr s.1 s.2.1 (Sp.prt w i) s.2.2.1).1,s.2.1.2):=bsame_pv _ g.v
 have hr:(Sp.blr s.1 s.2.1 (Sp.prt w i) s.2.2.1).1.2.1.length=s.2.1.1.2.1.length:=by rw[g.r]
 have hbv:=bvb_of hb1 g.v hr
 unfold Sp.ublk
 rw[if_pos hble]
 refine⟨V.hh,V.lw,V.l1,V.rg,fun e2=> ?_,fun e2=> ?_,eqb⟩
 ·have e2:(Sp.blr s.1 s.2.1 (Sp.prt w i) s.2.2.1).2.2.1=0:=e2
  refine⟨⟨k,hk,?_⟩,hbv,?_,g.w,pok_of g.p0 g.p1⟩
  ·unfold Sp.blo
   dsimp only
   rw[if_pos e2]
   unfold Sp.nxt
   rw[hpl]
   unfold Sp.part
   rw[hd]
   dsimp only
   rw[<-hl]
   by_cases c:32*(i+1)<w.length
   ·rw[if_pos c,if_pos c,if_neg (by omega),if_neg (by omega)]
    congr 3
   ·rw[if_neg c,if_neg c]
    by_cases c2:(w.length:Int)-((32*i:Nat):Int)<32
    ·rw[if_pos c2,if_pos (by omega)]
     congr 3
     omega
    ·rw[if_neg c2,if_pos (by omega)]
     congr 3
     omega
  ·show Sp.hlf ((Sp.blr s.1 s.2.1 (Sp.prt w i) s.2.2.1).1,s.2.1.2)=hb
   rw[<-hb2]
   unfold Sp.hlf
   dsimp only
   rw[hr]
 ·have e2:¬(Sp.blr s.1 s.2.1 (Sp.prt w i) s.2.2.1).2.2.1=0:=e2
  unfold Sp.blo
  dsimp only
  rw[if_neg e2]
theorem h32z:H32 Sp.zD.2.2.2.1:=⟨by decide,by simp[Sp.zD],by simp[Sp.zD]⟩
theorem vdl_z:Sp.vdl Sp.zD=true:=by decide
theorem zdl_z:Sp.zdl Sp.zD=true:=by decide
theorem iv_init{b:BayT}{h:HdrT}{w:List Int}{p:PwT}(hb:Sp.bvb b=true)(hw:W32f b.1)(hp:Sp.pok p=true)(hh:H32 h)(hl:(w.length:Int)=h.2.1)(l1:w.length<=100)(rg:Sp.rgt h ((Sp.hlf b:Int)-564)=true):IV (Sp.hlf b) h w 0 (Sp.bgn Sp.zD b h p):=by
 obtain⟨p0,p1⟩:=pok_b hp
 have bl:=bay_len hb
 obtain⟨_,r2,_⟩:=rgt_1484 (h:=h) (by omega) rg
 unfold Sp.bgn
 by_cases e:Sp.bge Sp.zD b h p=0
 ·rw[if_pos e]
  have hwn:Sp.wrn b (Sp.tg b)=false:=by
   cases hc:Sp.wrn b (Sp.tg b)
   ·rfl
   ·exfalso
    unfold Sp.bge at e
    rw[if_pos ⟨vdl_z,hb,hp,rg⟩,if_pos zdl_z,if_pos hc]at e
    split at e
    ·exact absurd e (by decide)
    ·split at e
     ·exact absurd e (by decide)
     ·exact absurd e (by decide)
  have g:=bgs_g (h:=h) hb (tg_le b) hw p0 p1 hwn
  have hr:(Sp.bgs b h p (Sp.tg b)).1.2.1.length=b.1.2.1.length:=by rw[g.2.r];exact g.1.n
  have hbv:=bvb_of hb g.2.v hr
  refine⟨hh,hl,l1,rg,fun e2=> ?_,fun e2=> ?_,bsame_pv _ g.2.v⟩
  ·have e2:(Sp.bgs b h p (Sp.tg b)).2.2.1=0:=e2
   refine⟨⟨(Sp.tg b:Int),?_,?_⟩,hbv,?_,g.2.w,pok_of g.2.p0 g.2.p1⟩
   ·have:=tg_le b;omega
   ·unfold Sp.bgo
    dsimp only
    rw[if_pos e2,if_pos (by omega),if_pos (by omega)]
    rfl
   ·unfold Sp.bgo Sp.hlf
    dsimp only
    rw[hr]
  ·have e2:¬(Sp.bgs b h p (Sp.tg b)).2.2.1=0:=e2
   unfold Sp.bgo
   dsimp only
   rw[if_neg e2]
 ·rw[if_neg e]
  exact⟨hh,hl,l1,rg,fun e2=>absurd e2 e,fun _=>rfl,zsame_pv⟩
theorem lpr_iv{hb:Nat}{h:HdrT}{w:List Int}:∀(n i:Nat)(s:OutT),IV hb h w i s->w.length<=32*(i+n)->∃j,IV hb h w j (Sp.lpr w n i s)/\((Sp.lpr w n i s).2.2.2.1=0->w.length<=32*j)
 |0,i,s,V,hn=>⟨i,V,fun _=>by omega⟩
 |n+1,i,s,V,hn=>by
  rw[Sp.lpr]
  by_cases c:s.2.2.2.1=0/\32*i<w.length
  ·rw[if_pos c]
   exact lpr_iv n (i+1) _ (iv_step V c.1 c.2) (by omega)
  ·rw[if_neg c]
   exact⟨i,V,fun e=>by omega⟩
set_option maxRecDepth 100000
set_option maxHeartbeats 4000000
theorem bvk(b:BitVec 32):BitVec.ofInt 32 (wrap .u32 ((b.toNat:Nat):Int))=b:=by
 rw[u32_wrap_nat b.isLt]
 apply BitVec.eq_of_toNat_eq
 rw[ofInt_nat b.isLt]
theorem or_full(x:Int):Sp.orI .u32 x 4294967295=4294967295:=by
 show wrap .u32 (((BitVec.ofInt 32 x|||BitVec.ofInt 32 4294967295).toNat:Nat):Int)=4294967295
 rw[show BitVec.ofInt 32 4294967295=BitVec.allOnes 32 from by decide,BitVec.or_allOnes]
 rfl
theorem pr_full{w:Int}(h0:0<=w)(h1:w<4294967296):Sp.andnI .u32 4294967295 (Sp.andnI .u32 4294967295 w)=w:=by
 show wrap .u32 (((BitVec.ofInt 32 4294967295&&& ~~~ BitVec.ofInt 32 (wrap .u32 (((BitVec.ofInt 32 4294967295&&& ~~~ BitVec.ofInt 32 w).toNat:Nat):Int))).toNat:Nat):Int)=w
 obtain⟨k,rfl⟩:=Int.eq_ofNat_of_zero_le h0
 rw[bvk,show BitVec.ofInt 32 4294967295=BitVec.allOnes 32 from by decide,BitVec.allOnes_and,BitVec.allOnes_and,BitVec.not_not,ofInt_nat (by omega),u32_wrap_nat (by omega)]
noncomputable def WL(l:List Int):Prop:=∀x∈l,0<=x/\x<4294967296
theorem WL.at{l:List Int}(h:WL l)(i:Nat):0<=l.getD i 0/\l.getD i 0<4294967296:=by
 rw[List.getD_eq_getElem?_getD]
 cases e:l[i]? with
 |none=>decide
 |some x=>exact h x (List.mem_of_getElem? e)
theorem WL.app{a b:List Int}(ha:WL a)(hb:WL b):WL (a++b):=fun x hx=>(List.mem_append.1 hx).elim (ha x) (hb x)
theorem wu_b(n:Int):0<=wrap .u32 n/\wrap .u32 n<4294967296:=by rw[u32_mod];omega
theorem hws_w(h:List Int)(n:Nat):WL (Sp.hws h n):=fun x hx=>by
 unfold Sp.hws at hx
 obtain⟨i,_,rfl⟩:=List.mem_map.1 hx
 unfold Sp.hwd Sp.wd
 exact wu_b _
theorem cws_w(l:List (List Int)):WL (Sp.cws l):=fun x hx=>by
 unfold Sp.cws at hx
 obtain⟨h,_,hx⟩:=List.mem_flatMap.1 hx
 exact hws_w h 8 x hx
theorem hdw_w(h:HdrT):WL (Sp.hdw h):=by
 unfold Sp.hdw Sp.hdp Sp.wordsF
 refine WL.app (WL.app (fun x hx=> ?_) (hws_w _ _)) (WL.app (WL.app (fun x hx=> ?_) (cws_w _)) (cws_w _))
 ·simp only[List.mem_cons,List.not_mem_nil,or_false]at hx
  rcases hx with rfl|rfl<;>exact wu_b _
 ·rw[List.mem_singleton.1 hx];exact wu_b _
theorem elo_x{f0:FlT}:∀(n k:Nat){s:RsT},EG f0 k s->s.2.2.1=0->k+n<=f0.2.1.length->(∀i,k<=i->i<k+n->f0.2.1.getD i 0≠f0.2.2.1)->(n:Int)+2<=s.2.1.1->
 (Sp.elo n k s).2.2.1=0/\(Sp.elo n k s).2.1.1=s.2.1.1-(n:Int)/\∀i,i<f0.1.length->(Sp.elo n k s).1.1.getD i 0=if 64*k<=i/\i<64*(k+n)then 4294967295 else s.1.1.getD i 0
 |0,k,s,g,e,hl,hw,hp=>⟨e,by show s.2.1.1=s.2.1.1-0;omega,fun i hi=>by rw[if_neg (by omega)];rfl⟩
 |n+1,k,s,g,e,hl,hw,hp=>by
  have hk:=hw k (Nat.le_refl _) (by omega)
  have g2:=ers_g g (by omega) hk
  have gr:s.1.2.2.1=f0.2.2.1:=by rw[g.r]
  have gl:=g.l
  have er:Sp.ers s.1 k s.2.1=(Sp.ew s.1 k 4294967295,(s.2.1.1-1,s.2.1.2),0,()):=by
   unfold Sp.ers
   rw[if_neg (by rw[g.q k (Nat.le_refl _),gr];exact hk),if_neg (by omega),if_neg (by omega)]
  rw[Sp.elo,if_pos e]
  rw[er]at g2⊢
  obtain⟨r1,r2,r3⟩:=elo_x n (k+1) g2 rfl (by omega) (fun i h1 h2=>hw i (by omega) (by omega)) (by dsimp only;omega)
  refine⟨r1,by rw[r2];dsimp only;push_cast;omega,fun i hi=> ?_⟩
  rw[r3 i hi]
  have fw:(Sp.ew s.1 k 4294967295).1.getD i 0=if k*64<=i/\i<k*64+64 then Sp.orI .u32 (s.1.1.getD i 0) 4294967295 else s.1.1.getD i 0:=orW_get s.1.1 (k*64) 4294967295 64 i (by omega)
  by_cases c:64*(k+1)<=i/\i<64*(k+1+n)
  ·rw[if_pos c,if_pos (by omega)]
  ·rw[if_neg c]
   dsimp only
   rw[fw]
   by_cases c2:k*64<=i/\i<k*64+64
   ·rw[if_pos c2,or_full,if_pos (by omega)]
   ·rw[if_neg c2,if_neg (by omega)]
theorem plo_x{f0:FlT}:∀(l:List Int)(a:Nat){s:RsT},PG f0 s->s.2.2.1=0->WL l->a+l.length<=f0.1.length->(∀i,a<=i->i<a+l.length->s.1.1.getD i 0=4294967295)->(l.length:Int)+2<=s.2.1.1->
 (Sp.plo l a s).2.2.1=0/\(Sp.plo l a s).2.1.1=s.2.1.1-(l.length:Int)/\∀i,(Sp.plo l a s).1.1.getD i 0=if a<=i/\i<a+l.length then l.getD (i-a) 0 else s.1.1.getD i 0
 |[],a,s,g,e,hw,hl,hb,hp=>⟨e,by show s.2.1.1=s.2.1.1-0;omega,fun i=>by rw[List.length_nil,if_neg (by omega)];rfl⟩
 |x::l,a,s,g,e,hw,hl,hb,hp=>by
  rw[List.length_cons]at hl hb hp⊢
  have gl:=g.l
  have hx:=hw x (List.mem_cons_self ..)
  have g2:=prg_g g a x
  have er:Sp.prg s.1 a x s.2.1=((s.1.1.set a x,s.1.2.1,s.1.2.2.1,()),(s.2.1.1-1,s.2.1.2),0,()):=by
   unfold Sp.prg
   rw[if_neg (by omega),if_neg (by omega)]
   unfold Sp.pw
   rw[hb a (Nat.le_refl _) (by omega),pr_full hx.1 hx.2]
  rw[Sp.plo,if_pos e]
  rw[er]at g2⊢
  have gs:∀i,(s.1.1.set a x).getD i 0=if a=i then x else s.1.1.getD i 0:=fun i=>getD_set _ _ _ _ _ (by omega)
  obtain⟨r1,r2,r3⟩:=plo_x l (a+1) g2 rfl (fun y hy=>hw y (List.mem_cons_of_mem _ hy)) (by omega) (fun i h1 h2=>by dsimp only;rw[gs,if_neg (by omega)];exact hb i (by omega) (by omega)) (by dsimp only;omega)
  refine⟨r1,by rw[r2];dsimp only;push_cast;omega,fun i=> ?_⟩
  rw[r3 i]
  dsimp only
  rw[gs]
  by_cases c:a+1<=i/\i<a+1+l.length
  ·rw[if_pos c,if_pos (by omega),show i-a=(i-(a+1))+1 by omega]
   rfl
  ·rw[if_neg c]
   by_cases c2:a=i
   ·rw[if_pos c2,if_pos (by omega),<-c2,Nat.sub_self]
    rfl
   ·rw[if_neg c2,if_neg (by omega)]
structure WX(b:BayT)(h:HdrT)(w:List Int)(t n:Nat)(c:BayT):Prop where
 k:c.2=b.2
 r:c.1.2.1.length=b.1.2.1.length
 l:c.1.1.length=b.1.1.length
 o:∀i,i<b.1.1.length->i<t*Sp.hlf b\/t*Sp.hlf b+Sp.hlf b<=i->c.1.1.getD i 0=b.1.1.getD i 0
 i:∀j,j<Sp.hlf b->c.1.1.getD (t*Sp.hlf b+j) 0=if j=0 then 4294967295 else if j<564 then(Sp.hdw h).getD (j-1) 0 else if j<564+n then w.getD (j-564) 0 else 4294967295
theorem bgs_x{b:BayT}{h:HdrT}{p:PwT}(w:List Int){t:Nat}(hb:Sp.bvb b=true)(ht:t<=1)(hw:W32f b.1)(hs:Sp.shp h.2.2.2.1=true)(p0:1000000<=p.1)(p1:p.1<=1099511627776)(hn:Sp.wrn b t=false) :
 (Sp.bgs b h p t).2.2.1=0/\p.1-10000<=(Sp.bgs b h p t).2.1.1/\WX b h w t 0 ((Sp.bgs b h p t).1,b.2):=by
 have bl:=bay_len hb
 obtain⟨hl,hq⟩:=wrn_no hb ht hn
 have G:=bgs_g (h:=h) hb ht hw (by omega) p1 hn
 have hhn:Sp.hn b=b.1.2.1.length/2:=rfl
 have e0:EG b.1 (t*Sp.hn b) (b.1,p,0,()):=EG.init bl.2.2.2.2.2 hw (by omega) p1
 have X:=elo_x (Sp.hn b) (t*Sp.hn b) e0 rfl hl hq (by dsimp only;omega)
 have hdl:=hdw_len hs
 have tn:t*Sp.hlf b=64*(t*Sp.hn b)/\Sp.hlf b=64*Sp.hn b:=by
  have:Sp.hlf b=64*Sp.hn b:=by omega
  refine⟨?_,this⟩
  rw[this,<-Nat.mul_assoc,Nat.mul_comm t 64,Nat.mul_assoc]
 have P:=plo_x (f0:=(Sp.elo (Sp.hn b) (t*Sp.hn b) (b.1,p,0,())).1) (Sp.hdw h) (t*Sp.hlf b+1) G.1.pg X.1 (hdw_w h) (by rw[G.1.l];omega) (fun i h1 h2=>by
  rw[X.2.2 i (by omega),if_pos (by omega)]) (by rw[X.2.1,hdl];dsimp only;omega)
 have es:Sp.bgs b h p t=Sp.plo (Sp.hdw h) (t*Sp.hlf b+1) (Sp.elo (Sp.hn b) (t*Sp.hn b) (b.1,p,0,())):=rfl
 have gl:=G.2.l
 have gl1:=G.1.l
 have gr:(Sp.bgs b h p t).1.2.1.length=b.1.2.1.length:=by rw[G.2.r];exact G.1.n
 rw[es]at gl gr⊢
 refine⟨P.1,by rw[P.2.1,X.2.1,hdl];dsimp only;omega,rfl,gr,by dsimp only;omega,fun i hi ho=> ?_,fun j hj=> ?_⟩
 ·dsimp only
  rw[P.2.2 i,if_neg (by omega),X.2.2 i hi,if_neg (by omega)]
 ·dsimp only
  rw[P.2.2]
  by_cases c0:j=0
  ·rw[if_pos c0,if_neg (by omega),X.2.2 _ (by omega),if_pos (by omega)]
  rw[if_neg c0]
  by_cases c1:j<564
  ·rw[if_pos c1,if_pos (by omega)]
   congr 1
   omega
  ·rw[if_neg c1,if_neg (by omega),X.2.2 _ (by omega),if_pos (by omega)]
   rw[if_neg (by omega)]
theorem iv_blk{hb:Nat}{h:HdrT}{w:List Int}{i:Nat}{s:OutT}(V:IV hb h w i s)(e:s.2.2.2.1=0)(hi:32*i<w.length):s.1.1=1/\s.1.2.2.1=((32*i:Nat):Int)/\((Sp.prt w i).length:Int)=Sp.part s.1/\Sp.ublk s.1 s.2.1 i (Sp.prt w i) s.2.2.1=Sp.blo s.1 s.2.1 (Sp.prt w i) s.2.2.1:=by
 obtain⟨hv,hf⟩:=iv_fit V e
 obtain⟨⟨k,hk,hd⟩,hb1,hb2,hw,hp⟩:=V.ok e
 have hl:=V.lw
 rw[if_pos hi,if_pos hi]at hd
 have d1:s.1.1=1:=by rw[hd]
 have d3:s.1.2.2.1=((32*i:Nat):Int):=by rw[hd]
 have d4:s.1.2.2.2.1=h:=by rw[hd]
 have hpl:((Sp.prt w i).length:Int)=Sp.part s.1:=by
  unfold Sp.prt Sp.part
  rw[d3,d4,List.length_take,List.length_drop,<-hl]
  split<;>omega
 have hble:Sp.ble s.1 s.2.1 i (Sp.prt w i) s.2.2.1=0:=by
  unfold Sp.ble
  rw[if_pos hf,if_pos d1,d3,Int.tdiv_eq_ediv_of_nonneg (by omega),if_pos (by omega),if_pos hpl]
 refine⟨d1,d3,hpl,?_⟩
 unfold Sp.ublk
 rw[if_pos hble]
theorem prt_at(w:List Int)(i j:Nat)(h:j<32):(Sp.prt w i).getD j 0=w.getD (32*i+j) 0:=by
 unfold Sp.prt
 rw[List.getD_eq_getElem?_getD,List.getElem?_take,if_pos h,List.getElem?_drop,<-List.getD_eq_getElem?_getD]
theorem blk_x{b:BayT}{h:HdrT}{w:List Int}{t i:Nat}{s:OutT}(hb:Sp.bvb b=true)(ht:t<=1)(hw:WL w)(V:IV (Sp.hlf b) h w i s)(e:s.2.2.2.1=0)(hi:32*i<w.length)(hk:s.1.2.1=(t:Int))(X:WX b h w t (32*i) s.2.1)(hp:10000<=s.2.2.1.1) :
 (Sp.ublk s.1 s.2.1 i (Sp.prt w i) s.2.2.1).2.2.2.1=0/\(Sp.ublk s.1 s.2.1 i (Sp.prt w i) s.2.2.1).1.2.1=(t:Int)/\s.2.2.1.1-100<=(Sp.ublk s.1 s.2.1 i (Sp.prt w i) s.2.2.1).2.2.1.1/\WX b h w t (min (32*(i+1)) w.length) (Sp.ublk s.1 s.2.1 i (Sp.prt w i) s.2.2.1).2.1:=by
 obtain⟨d1,d3,hpl,hub⟩:=iv_blk V e hi
 obtain⟨hv,hf⟩:=iv_fit V e
 obtain⟨_,hb1,hb2,hw1,hp1⟩:=V.ok e
 obtain⟨p0,p1⟩:=pok_b hp1
 have bl:=bay_len hb
 have ad:=adr_in hf d1 hpl
 have hrg:=V.rg
 have hlw:=V.lw
 have hle:h.2.1<=(Sp.hlf b:Int)-564:=by
  unfold Sp.rgt at hrg
  simp only[Bool.and_eq_true,decide_eq_true_eq]at hrg
  exact hrg.2.2.2.1
 have lp:(Sp.prt w i).length=min 32 (w.length-32*i):=by unfold Sp.prt;rw[List.length_take,List.length_drop]
 have ea:Sp.adr s.1 s.2.1=t*Sp.hlf b+564+32*i:=by
  unfold Sp.adr
  rw[hk,d3,hb2,Int.toNat_natCast,Int.toNat_natCast]
 have P:=plo_x (f0:=s.2.1.1) (Sp.prt w i) (Sp.adr s.1 s.2.1) (PG.init (p:=s.2.2.1) hb1 hw1 p0 p1) rfl (fun x hx=>hw x (List.mem_of_mem_drop (List.mem_of_mem_take hx))) ad.1 (fun q h1 h2=>by
  obtain⟨j,rfl⟩:∃j,q=t*Sp.hlf b+j:=⟨q-t*Sp.hlf b,by omega⟩
  show s.2.1.1.1.getD _ 0=_
  rw[X.i j (by omega),if_neg (by omega),if_neg (by omega),if_neg (by omega)]) (by dsimp only;omega)
 rw[hub]
 have eb:Sp.blr s.1 s.2.1 (Sp.prt w i) s.2.2.1=Sp.plo (Sp.prt w i) (Sp.adr s.1 s.2.1) (s.2.1.1,s.2.2.1,0,()):=rfl
 have g:=blr_g (Sp.prt w i) hf d1 hw1
 unfold Sp.blo
 dsimp only
 rw[eb]at g⊢
 refine⟨P.1,?_,by rw[P.2.1];dsimp only;omega,X.k,?_,?_,fun q hq ho=> ?_,fun j hj=> ?_⟩
 ·rw[if_pos P.1]
  exact hk
 ·show(Sp.plo _ _ _).1.2.1.length=_
  rw[g.r]
  exact X.r
 ·show(Sp.plo _ _ _).1.1.length=_
  rw[g.l]
  exact X.l
 ·show(Sp.plo _ _ _).1.1.getD q 0=_
  rw[P.2.2,if_neg (by omega)]
  exact X.o q hq ho
 ·show(Sp.plo _ _ _).1.1.getD _ 0=_
  rw[P.2.2]
  by_cases c:Sp.adr s.1 s.2.1<=t*Sp.hlf b+j/\t*Sp.hlf b+j<Sp.adr s.1 s.2.1+(Sp.prt w i).length
  ·rw[if_pos c,if_neg (by omega),if_neg (by omega),if_pos (by omega),prt_at w i _ (by omega)]
   congr 1
   omega
  ·rw[if_neg c]
   show s.2.1.1.1.getD _ 0=_
   rw[X.i j hj]
   by_cases c0:j=0
   ·rw[if_pos c0,if_pos c0]
   rw[if_neg c0,if_neg c0]
   by_cases c1:j<564
   ·rw[if_pos c1,if_pos c1]
   rw[if_neg c1,if_neg c1]
   by_cases c2:j<564+32*i
   ·rw[if_pos c2,if_pos (by omega)]
   ·rw[if_neg c2,if_neg (by omega)]
theorem lpr_x{b:BayT}{h:HdrT}{w:List Int}{t:Nat}(hb:Sp.bvb b=true)(ht:t<=1)(hw:WL w):∀(n i:Nat)(s:OutT),IV (Sp.hlf b) h w i s->s.2.2.2.1=0->s.1.2.1=(t:Int)->WX b h w t (min (32*i) w.length) s.2.1->10000+100*(n:Int)<=s.2.2.1.1->w.length<=32*(i+n) ->
 (Sp.lpr w n i s).2.2.2.1=0/\(Sp.lpr w n i s).1.2.1=(t:Int)/\10000<=(Sp.lpr w n i s).2.2.1.1/\WX b h w t w.length (Sp.lpr w n i s).2.1
 |0,i,s,V,e,hk,X,hp,hl=>⟨e,hk,by show 10000<=s.2.2.1.1;omega,by rw[show min (32*i) w.length=w.length by omega]at X;exact X⟩
 |n+1,i,s,V,e,hk,X,hp,hl=>by
  rw[Sp.lpr]
  by_cases c:32*i<w.length
  ·rw[if_pos (show s.2.2.2.1=0/\32*i<w.length from⟨e,c⟩)]
   rw[show min (32*i) w.length=32*i by omega]at X
   obtain⟨b1,b2,b3,b4⟩:=blk_x hb ht hw V e c hk X (by omega)
   exact lpr_x hb ht hw n (i+1) _ (iv_step V e c) b1 b2 b4 (by omega) (by omega)
  ·rw[if_neg (fun z=>c z.2)]
   refine⟨e,hk,by omega,?_⟩
   rw[show min (32*i) w.length=w.length by omega]at X
   exact X
theorem good_sum{a:BayT}(h:BB a){k:Nat}(hk:k<2)(hg:Sp.gdb a k=true):(v_71 a k).2.1=true/\Ty.beq (.arr 32 (.int .u8)) (Sp.sha (Sp.spr (take 2 (drop 1 (Sp.wds a k))++take (v_71 a k).1.2.1.toNat (drop 564 (Sp.wds a k))))) (v_71 a k).1.2.2.1=true:=by
 have gp:=good_pv h.v h.b k hk
 have hok:=gp.2 hg
 obtain⟨g,hF,_⟩:=good_ok h.v h.b k hk
 have eg:Sp.gdb a k=g:=by unfold Sp.gdb v_109;rw[hF];rfl
 rw[hg]at eg
 subst eg
 have hp:=hdr_pv h.v h.b k hk
 have o:=hp.2 hok
 have hl:=wds_len h.v k hk
 have h0:=h.v.h0
 have h1:=h.v.h1
 have s0:=o.s0
 have s1:=o.s1
 have wp:=words_pv h.v k hk
 have tn:toNat (wrap .i64 (564+(v_71 a k).1.2.1))-564=(v_71 a k).1.2.1.toNat:=by rw[wi64 (by omega) (by omega)];omega
 have c:=pv_119 _ (cat_ok (take 2 (drop 1 (Sp.wds a k))) (take (v_71 a k).1.2.1.toNat (drop 564 (Sp.wds a k))) (by rw[List.length_take];omega) (by rw[List.length_take,List.length_drop];omega))
 have cl:(take 2 (drop 1 (Sp.wds a k))++take (v_71 a k).1.2.1.toNat (drop 564 (Sp.wds a k))).length<=10000:=by rw[List.length_append,List.length_take,List.length_take,List.length_drop];omega
 have hq:=pv_116 _ (spr_eq (take 2 (drop 1 (Sp.wds a k))++take (v_71 a k).1.2.1.toNat (drop 564 (Sp.wds a k))) (by omega))
 have hs:=pv_110 _ (i_sum (Sp.spr (take 2 (drop 1 (Sp.wds a k))++take (v_71 a k).1.2.1.toNat (drop 564 (Sp.wds a k)))) (by rw[spr_len];omega))
 revert hF
 unfold F_109
 rw[hp.1,gd_tt,hok,Bool.not_true,cond_f,wp.1,wp.2,gd_tt]
 dsimp only
 rw[tn,gd_sl3 (lo:=1) (hi:=3) (by omega) (by omega) (by omega),gd_sl3 (lo:=564) (by omega) (by rw[wi64 (by omega) (by omega)];omega) (by rw[wi64 (by omega) (by omega)];omega),c.1,c.2,gd_tt]
 dsimp only
 rw[hq.1,hq.2,gd_tt,hs.1,hs.2,gd_tt]
 dsimp only
 intro hF
 refine⟨rfl,?_⟩
 cases hb:Ty.beq (.arr 32 (.int .u8)) (Sp.sha (Sp.spr (take 2 (drop 1 (Sp.wds a k))++take (v_71 a k).1.2.1.toNat (drop 564 (Sp.wds a k))))) (v_71 a k).1.2.2.1
 ·rw[hb,cond_f]at hF
  exact absurd (congrArg (fun z:Option (Bool×Unit)=>(z.getD (true,())).1) hF) (by decide)
 ·rfl
theorem u8m(n:Int):wrap .u8 n=n%256:=by
 simp[wrap,IntKind.signed,IntKind.bits]
theorem w4_wd{a b c d:Nat}(ha:a<256)(hb:b<256)(hc:c<256)(hd:d<256):Sp.w4 (Sp.wd a b c d)=[(a:Int),(b:Int),(c:Int),(d:Int)]:=by
 have e:Sp.wd a b c d=((((a*256+b)*256+c)*256+d:Nat):Int):=by
  unfold Sp.wd
  rw[u32_wrap_nat (a:=a) (by omega),u32_wrap_nat (a:=b) (by omega),u32_wrap_nat (a:=c) (by omega),u32_wrap_nat (a:=d) (by omega),show(a:Int)*16777216=((a*16777216:Nat):Int)from(Int.natCast_mul a 16777216).symm,show(b:Int)*65536=((b*65536:Nat):Int)from(Int.natCast_mul b 65536).symm,show(c:Int)*256=((c*256:Nat):Int)from(Int.natCast_mul c 256).symm,u32_wrap_nat (a:=a*16777216) (by omega),u32_wrap_nat (a:=b*65536) (by omega),u32_wrap_nat (a:=c*256) (by omega),
   orU_nat (a:=a*16777216) (by omega) (by omega),show a*16777216=a*2^24 from rfl,or_add 24 (by omega),orU_nat (by omega) (by omega),show a*2^24+b*65536=(a*256+b)*2^16 by omega,or_add 16 (by omega),orU_nat (by omega) (by omega),show(a*256+b)*2^16+c*256=((a*256+b)*256+c)*2^8 by omega,or_add 8 (by omega)]
 rw[e]
 unfold Sp.w4
 rw[Int.fdiv_eq_ediv_of_nonneg _ (by decide),Int.fdiv_eq_ediv_of_nonneg _ (by decide),Int.fdiv_eq_ediv_of_nonneg _ (by decide),u8m,u8m,u8m,u8m]
 refine List.ext_getElem rfl (fun i h1 h2=> ?_)
 match i,h1 with
 |0,_=>show _/_%_=(a:Int);omega
 |1,_=>show _/_%_=(b:Int);omega
 |2,_=>show _/_%_=(c:Int);omega
 |3,_=>show _%_=(d:Int);omega
theorem byt{l:List Int}(h:bytes l)(i:Nat):∃k:Nat,l.getD i 0=(k:Int)/\k<256:=by
 have:0<=l.getD i 0/\l.getD i 0<=255:=by
  rw[List.getD_eq_getElem?_getD]
  cases e:l[i]? with
  |none=>decide
  |some x=>exact h x (List.mem_of_getElem? e)
 exact⟨(l.getD i 0).toNat,by omega,by omega⟩
theorem spr_hws{d:List Int}(hd:bytes d)(hl:d.length=32):Sp.spr (Sp.hws d 8)=d:=by
 have e:∀i,Sp.w4 (Sp.hwd d i)=[d.getD (4*i) 0,d.getD (4*i+1) 0,d.getD (4*i+2) 0,d.getD (4*i+3) 0]:=fun i=>by
  obtain⟨k0,e0,h0⟩:=byt hd (4*i)
  obtain⟨k1,e1,h1⟩:=byt hd (4*i+1)
  obtain⟨k2,e2,h2⟩:=byt hd (4*i+2)
  obtain⟨k3,e3,h3⟩:=byt hd (4*i+3)
  unfold Sp.hwd
  rw[e0,e1,e2,e3,w4_wd h0 h1 h2 h3]
 unfold Sp.spr Sp.hws
 rw[List.flatMap_map]
 have e':(fun i=>Sp.w4 (Sp.hwd d i))=fun i=>[d.getD (4*i) 0,d.getD (4*i+1) 0,d.getD (4*i+2) 0,d.getD (4*i+3) 0]:=funext e
 rw[e']
 clear e e' hd
 match d,hl with
 |[a0,a1,a2,a3,a4,a5,a6,a7,a8,a9,b0,b1,b2,b3,b4,b5,b6,b7,b8,b9,c0,c1,c2,c3,c4,c5,c6,c7,c8,c9,d0,d1],_=>rfl
theorem hx_3{w:List Int}(h:(Sp.hx w).2.1=true):(Sp.hx w).1.2.2.1=Sp.spr (take 8 (drop 3 w)):=by
 unfold Sp.hx at h⊢
 revert h
 cases Sp.okw (take 553 (drop 11 w))<;>cases decide (wrap .i64 (w.getD 1 0)<1)<;>cases decide (wrap .i64 (w.getD 1 0)>2147483647)<;>cases decide (wrap .i64 (w.getD 2 0)<1)<;>cases decide (wrap .i64 (w.getD 2 0)>(w.length:Int)-564)<;>first|exact fun h=>Bool.noConfusion h|exact fun _=>rfl
theorem wds_at{a:BayT}(k:Nat){j:Nat}(hj:j<Sp.hlf a):(Sp.wds a k).getD j 0=a.1.1.getD (k*Sp.hlf a+j) 0:=by
 unfold Sp.wds
 rw[List.getD_eq_getElem?_getD,List.getElem?_take,if_pos hj,List.getElem?_drop,<-List.getD_eq_getElem?_getD]
theorem hdw_at(h:HdrT)(j:Nat):(Sp.hdw h).getD 0 0=wrap .u32 h.1/\(Sp.hdw h).getD 1 0=wrap .u32 h.2.1/\(j<8->(Sp.hdw h).getD (j+2) 0=(Sp.hws h.2.2.1 8).getD j 0):=by
 refine⟨rfl,rfl,fun hj=> ?_⟩
 unfold Sp.hdw Sp.hdp
 rw[List.append_assoc]
 show((wrap .u32 h.1)::(wrap .u32 h.2.1)::(Sp.hws h.2.2.1 8++Sp.wordsF h.2.2.2.1)).getD (j+2) 0=_
 rw[List.getD_cons_succ,List.getD_cons_succ,List.getD_eq_getElem?_getD,List.getElem?_append_left (by rw[hws_len];exact hj),<-List.getD_eq_getElem?_getD]
theorem wx_bad{b c:BayT}{h:HdrT}{w:List Int}{t:Nat}(ht:t<2)(C:BB c)(X:WX b h w t w.length c)(hv:0<=h.1/\h.1<4294967296)(hl:(w.length:Int)=h.2.1)(l0:0<w.length)(l1:w.length<=100)(hd:h.2.2.1.length=32)(hby:bytes h.2.2.1)
 (hsum:Ty.beq (.arr 32 (.int .u8)) (Sp.sha (Sp.spr ([wrap .u32 h.1,wrap .u32 (w.length:Int)]++w))) h.2.2.1=false):Sp.gdb c t=false:=by
 cases hg:Sp.gdb c t
 ·rfl
 exfalso
 obtain⟨hok,hs⟩:=good_sum C ht hg
 have hh:Sp.hlf c=Sp.hlf b:=by unfold Sp.hlf;rw[X.r]
 have h0:=C.v.h0
 have wl:=wds_len C.v t ht
 have wj:∀j,j<Sp.hlf b->(Sp.wds c t).getD j 0=if j=0 then 4294967295 else if j<564 then(Sp.hdw h).getD (j-1) 0 else if j<564+w.length then w.getD (j-564) 0 else 4294967295:=fun j hj=>by
  rw[wds_at t (by omega),hh]
  exact X.i j hj
 have w1:(Sp.wds c t).getD 1 0=wrap .u32 h.1:=by rw[wj 1 (by omega)];exact(hdw_at h 0).1
 have w2:(Sp.wds c t).getD 2 0=wrap .u32 h.2.1:=by rw[wj 2 (by omega)];exact(hdw_at h 0).2.1
 have hok':=hok
 rw[v14_eq C t ht]at hok' hs
 have q:=hx_ok hok'
 have q3:=hx_3 hok'
 have ln:(Sp.hx (Sp.wds c t)).1.2.1=(w.length:Int):=by
  rw[q.2,w2,<-hl,wu32' (by omega) (by omega),wi64 (by omega) (by omega)]
 have lt:564+w.length<=Sp.hlf b:=by
  have o:=(hdr_pv C.v C.b t ht).2 hok
  have s1:=o.s1
  rw[v14_eq C t ht,ln,hh]at s1
  omega
 have e8:take 8 (drop 3 (Sp.wds c t))=Sp.hws h.2.2.1 8:=by
  refine list_ext 0 (by rw[List.length_take,List.length_drop,hws_len];omega) (fun j hj=> ?_)
  rw[List.length_take,List.length_drop]at hj
  rw[List.getD_eq_getElem?_getD,List.getElem?_take,if_pos (by omega),List.getElem?_drop,<-List.getD_eq_getElem?_getD,wj (3+j) (by omega),if_neg (by omega),if_pos (by omega),show 3+j-1=j+2 by omega]
  exact(hdw_at h j).2.2 (by omega)
 have ew:take (w.length:Int).toNat (drop 564 (Sp.wds c t))=w:=by
  refine list_ext 0 (by rw[List.length_take,List.length_drop];omega) (fun j hj=> ?_)
  rw[List.length_take,List.length_drop]at hj
  rw[List.getD_eq_getElem?_getD,List.getElem?_take,if_pos (by omega),List.getElem?_drop,<-List.getD_eq_getElem?_getD,wj (564+j) (by omega),if_neg (by omega),if_neg (by omega),if_pos (by omega),show 564+j-564=j by omega]
 rw[q3,e8,spr_hws hby hd,two_eq _ (by omega),w1,w2,ln,ew,<-hl,hsum]at hs
 exact Bool.noConfusion hs
theorem wx_o{b c:BayT}{h:HdrT}{w:List Int}{t n:Nat}(ht:t<2)(B:BB b)(C:BB c)(X:WX b h w t n c){k:Nat}(hk:k<2)(hkt:k≠t):Sp.wds c k=Sp.wds b k:=by
 have hh:Sp.hlf c=Sp.hlf b:=by unfold Sp.hlf;rw[X.r]
 have lb:=off_lt B.v k hk
 refine list_ext 0 (by rw[wds_len C.v k hk,wds_len B.v k hk,hh]) (fun j hj=> ?_)
 rw[wds_len C.v k hk,hh]at hj
 rw[wds_at k (by omega),wds_at k hj,hh]
 refine X.o _ (by omega) ?_
 rcases Nat.lt_or_ge k 1 with c1|c1
 ·have k0:k=0:=by omega
  have t1:t=1:=by omega
  subst k0;subst t1
  left;omega
 ·have k1:k=1:=by omega
  have t0:t=0:=by omega
  subst k1;subst t0
  right;omega
theorem eq_bank{b c:BayT}(B:BB b)(C:BB c)(hy:c.2=b.2){k:Nat}(hk:k<2)(e:Sp.wds c k=Sp.wds b k):Sp.gdb c k=Sp.gdb b k/\Sp.acb c k=Sp.acb b k/\Sp.vr c k=Sp.vr b k:=by
 have ex:=pv_71 c k (hdr_eq C k hk)
 have ea:=pv_71 b k (hdr_eq B k hk)
 have wx:=words_pv C.v k hk
 have wa:=words_pv B.v k hk
 have F:F_109 c k=F_109 b k:=by
  unfold F_109
  rw[ex.1,ex.2,gd_tt,ea.1,ea.2,gd_tt,wx.1,wx.2,wa.1,wa.2,e,hy]
 refine⟨?_,?_,?_⟩
 ·unfold Sp.gdb v_109
  rw[F]
 ·unfold Sp.acb
  rw[<-wds_get C.v k hk,<-wds_get B.v k hk,e]
 ·unfold Sp.vr
  rw[ex.2,ea.2,e]
namespace Sp
noncomputable def pgm(a:BayT)(k:Nat):List Int:=take (toNat (wrap .i64 (564+wrap .i64 ((wds a k).getD 2 0)))-564) (drop 564 (wds a k))
noncomputable def rns(a:BayT):List Int×Int×Bool×Unit:=if has a=true then(pgm a (sb a),lst a,true,())else([],0,false,())
end Sp
theorem prog_pv{a:BayT}(h:BB a){k:Nat}(hk:k<2)(hg:Sp.gdb a k=true):p_55 a k=true/\v_55 a k=(Sp.pgm a k,0,()):=by
 have c:=chk_ok h k hk hg
 have w:=words_pv h.v k hk
 have l:=wds_len h.v k hk
 have h0:=h.v.h0
 have h1:=h.v.h1
 have ok:=(good_pv h.v h.b k hk).2 hg
 have o:=(hdr_pv h.v h.b k hk).2 ok
 have s0:=o.s0
 have s1:=o.s1
 rw[v14_eq h k hk]at ok s0 s1
 rw[(hx_ok ok).2]at s0 s1
 refine pv_55 a k ?_
 unfold F_55 Sp.pgm
 rw[c.1,c.2,gd_tt,cond_nff rfl,w.1,w.2,gd_tt]
 dsimp only
 rw[gd_inB (by omega) (by omega),gd_sl3 (by omega) (by rw[wi64 (n:=564+_) (by omega) (by omega)];omega) (by rw[wi64 (n:=564+_) (by omega) (by omega)];omega),gd_room (by rw[List.length_take,List.length_drop];omega) (by rw[List.length_take,List.length_drop];omega)]
theorem runs_pv{a:BayT}(h:BB a):p_24 a=true/\v_24 a=Sp.rns a:=by
 have av:=atv h
 have lp:=lst_pv h
 refine pv_24 a ?_
 unfold F_24 Sp.rns
 rw[av.1,av.2,gd_tt]
 dsimp only
 cases hs:Sp.has a
 ·rfl
 have cn:=cnd_sb hs
 unfold Sp.cnd at cn
 rw[Bool.and_eq_true]at cn
 have pp:=prog_pv h (sb_lt a) cn.2
 rw[Bool.not_true,cond_f,pp.1,pp.2,gd_tt,lp.1,lp.2,gd_tt,if_pos rfl]
 rfl
theorem sel_no{a:BayT}(h:Sp.bvb a=false):p_82 a=true/\v_82 a=(0,1,()):=by
 refine pv_82 a ?_
 unfold F_82
 rw[(val_pv a).1,(val_pv a).2,gd_tt,h,show(!(false,()).1)=true from rfl,cond_t]
theorem atv_no{a:BayT}(h:Sp.bvb a=false):p_54 a=true/\v_54 a=(0,false,()):=by
 have s:=sel_no h
 refine pv_54 a ?_
 unfold F_54
 rw[s.1,s.2,gd_tt,show((0,1,()):Int×Int×Unit).2.1=1 from rfl,beq_eq_false_iff_ne.2 (show(1:Int)≠0 by decide)]
theorem runs_no{a:BayT}(h:Sp.bvb a=false):p_24 a=true:=by
 have av:=atv_no h
 have f:F_24 a=some ([],0,false,()):=by
  unfold F_24
  rw[av.1,av.2,gd_tt,show(!((0,false,()):Int×Bool×Unit).2.1)=true from rfl,cond_t]
 exact(pv_24 a f).1
theorem runs_same{b c:BayT}{h:HdrT}{w:List Int}{n:Nat}(B:BB b)(C:BB c)(X:WX b h w (Sp.tg b) n c)(bad:Sp.gdb c (Sp.tg b)=false):Sp.rns c=Sp.rns b:=by
 have tl:=tg_le b
 have ct:Sp.cnd c (Sp.tg b)=false:=by unfold Sp.cnd;rw[bad,Bool.and_false]
 have oth:∀k,k<2->k≠Sp.tg b->Sp.cnd c k=Sp.cnd b k/\Sp.vr c k=Sp.vr b k/\Sp.pgm c k=Sp.pgm b k:=fun k hk hkt=>by
  have e:=wx_o (by omega) B C X hk hkt
  have q:=eq_bank B C X.k hk e
  refine⟨?_,q.2.2,?_⟩
  ·unfold Sp.cnd;rw[q.1,q.2.1]
  ·unfold Sp.pgm;rw[e]
 cases hb:Sp.has b
 ·have t0:Sp.tg b=0:=by unfold Sp.tg;rw[hb];rfl
  have o:=oth 1 (by omega) (by omega)
  have hc:Sp.has c=false:=by
   unfold Sp.has at hb⊢
   rw[Bool.or_eq_false_iff]at hb
   rw[t0]at ct
   rw[ct,o.1,hb.2,Bool.or_self]
  unfold Sp.rns
  rw[hb,hc,if_neg Bool.false_ne_true,if_neg Bool.false_ne_true]
 ·have sl:=sb_lt b
  have te:Sp.tg b=1-Sp.sb b:=by unfold Sp.tg;rw[hb];rfl
  have o:=oth (Sp.sb b) sl (by omega)
  have cn:=cnd_sb hb
  rw[cn]at o
  have sc:Sp.sb c=Sp.sb b/\Sp.has c=true:=by
   unfold Sp.sb Sp.has
   rcases Nat.lt_or_ge (Sp.sb b) 1 with c1|c1
   ·have s0:Sp.sb b=0:=by omega
    rw[te,s0]at ct
    rw[s0]at o
    have ct:Sp.cnd c 1=false:=ct
    rw[o.1,ct]
    have s0':(bif Sp.cnd b 0 then(bif Sp.cnd b 1&&decide (Sp.vr b 1>Sp.vr b 0)then 1 else 0)else bif Sp.cnd b 1 then 1 else 0)=(0:Nat):=s0
    rw[s0',Bool.false_and,cond_f,Bool.true_or]
    exact⟨cond_t ..,rfl⟩
   ·have s1:Sp.sb b=1:=by omega
    rw[te,s1]at ct
    rw[s1]at o
    have ct:Sp.cnd c 0=false:=ct
    rw[o.1,ct]
    have s1':(bif Sp.cnd b 0 then(bif Sp.cnd b 1&&decide (Sp.vr b 1>Sp.vr b 0)then 1 else 0)else bif Sp.cnd b 1 then 1 else 0)=(1:Nat):=s1
    rw[s1',Bool.or_true]
    exact⟨by rw[cond_f,cond_t],rfl⟩
  have ls:Sp.lst c=Sp.lst b:=by
   unfold Sp.lst
   rw[sc.2,sc.1,hb,cond_t,cond_t,o.2.1]
  unfold Sp.rns
  rw[sc.2,sc.1,ls,o.2.2,if_pos rfl,hb,if_pos rfl]
set_option maxRecDepth 100000
set_option maxHeartbeats 4000000
theorem great_pv(b:BayT):p_15 b=true/\v_15 b=(decide ((b.1.2.1.length:Int)>20)&&decide ((b.1.2.1.length:Int)<=64),()):=by
 refine pv_15 b ?_
 unfold F_15
 cases decide ((b.1.2.1.length:Int)>20)<;>rfl
theorem new_pv:p_11=true/\v_11=(Sp.zD,()):=pv_11 rfl
theorem prt_tk(w:List Int)(i:Nat):take (if w.length-32*i<32 then w.length-32*i else 32) (drop (32*i) w)=Sp.prt w i:=by
 unfold Sp.prt
 split
 ·rw[List.take_of_length_le (by rw[List.length_drop];omega),List.take_of_length_le (by rw[List.length_drop];omega)]
 ·rfl
theorem blk_iv{hb:Nat}{h:HdrT}{w:List Int}{i:Nat}{s:OutT}(V:IV hb h w i s)(e:s.2.2.2.1=0)(l:List Int):p_16 s.1 s.2.1 i l s.2.2.1=true/\v_16 s.1 s.2.1 i l s.2.2.1=Sp.ublk s.1 s.2.1 i l s.2.2.1:=by
 obtain⟨⟨k,_,hd⟩,_,_,hw,_⟩:=V.ok e
 exact blk_pv (by rw[hd];exact V.hh) hw
theorem ix{i:Nat}{w:List Int}(hi:i<=1000)(hw:w.length<=100)(c:32*i<w.length):wrap .i64 (32*(i:Int))=((32*i:Nat):Int)/\(if wrap .i64 (((32*i:Nat):Int)+32)<(w.length:Int)then wrap .i64 (((32*i:Nat):Int)+32)else(w.length:Int))=((32*i+(if w.length-32*i<32 then w.length-32*i else 32):Nat):Int)/\32*i+(if w.length-32*i<32 then w.length-32*i else 32)<=w.length:=by
 have e2:wrap .i64 (((32*i:Nat):Int)+32)=((32*i+32:Nat):Int):=by rw[wi64 (by omega) (by omega)];push_cast;rfl
 refine⟨by rw[wi64 (by omega) (by omega)];push_cast;rfl,?_,by split<;>omega⟩
 rw[e2]
 by_cases h3:w.length-32*i<32
 ·rw[if_neg (by omega),if_pos h3];omega
 ·by_cases h4:32*i+32<w.length
  ·rw[if_pos (by omega),if_neg h3]
  ·rw[if_neg (by omega),if_neg h3];omega
theorem wq1{b:BayT}{h:HdrT}{w:List Int}{t:Nat}(hb:Sp.bvb b=true)(ht:t<=1)(hw:WL w)(q0:List Int)(q1:Int)(q2:Bool)(q4:BayT)(q6:HdrT):∀(n m i:Nat)(s:OutT),IV (Sp.hlf b) h w i s->s.2.2.2.1=0->s.1.2.1=(t:Int)->WX b h w t (min (32*i) w.length) s.2.1->10000+100*(n:Int)<=s.2.2.1.1->w.length<=32*(i+n)->n<m->i+n<=1000->
 L_5_0_1 m q0 q1 q2 (i:Int) q4 w q6 s.1 s.2.1 s.2.2.1=some (.e1 q0 q1 q2 q4 q6 (Sp.lpr w n i s).1 (Sp.lpr w n i s).2.1 (Sp.lpr w n i s).2.2.1)
 |0,m,i,s,V,e,hk,X,hp,hl,hm,hi=>by
  obtain⟨m,rfl⟩:∃k,m=k+1:=⟨m-1,by omega⟩
  rw[L_5_0_1,S_5_0_1,Sp.lpr,wi64 (n:=(i:Int)*32) (by omega) (by omega),cond_dff (by omega)]
 |n+1,m,i,s,V,e,hk,X,hp,hl,hm,hi=>by
  obtain⟨m,rfl⟩:∃k,m=k+1:=⟨m-1,by omega⟩
  have l1:=V.l1
  rw[L_5_0_1,S_5_0_1,Sp.lpr,wi64 (n:=(i:Int)*32) (by omega) (by omega)]
  by_cases c:32*i<w.length
  rotate_left
  ·rw[cond_dff (by omega),if_neg (fun a=>c a.2)]
  obtain⟨x1,x2,x3⟩:=ix (by omega) l1 c
  rw[show min (32*i) w.length=32*i by omega]at X
  obtain⟨b1,b2,b3,b4⟩:=blk_x hb ht hw V e c hk X (by omega)
  have bp:=blk_iv V e (Sp.prt w i)
  rw[cond_dtt (by omega),x1,x2,gd_sl3 (by omega) (by omega) (by omega),Int.toNat_natCast,Int.toNat_natCast,Nat.add_sub_cancel_left,prt_tk,bp.1,bp.2,gd_tt,cond_nff b1,wi64 (n:=(i:Int)+1) (by omega) (by omega),show(i:Int)+1=((i+1:Nat):Int) by omega,if_pos (show s.2.2.2.1=0/\32*i<w.length from⟨e,c⟩)]
  exact wq1 hb ht hw q0 q1 q2 q4 q6 n m (i+1) _ (iv_step V e c) b1 b2 b4 (by omega) (by omega) (by omega) (by omega)
theorem wq0i{b:BayT}{h:HdrT}{w:List Int}{t:Nat}(hb:Sp.bvb b=true)(ht:t<=1)(hw:WL w)(q0:List Int)(q1:Int)(q2:Bool)(q4:BayT)(q6:HdrT)(n m i:Nat)(s:OutT)(V:IV (Sp.hlf b) h w i s)(e:s.2.2.2.1=0)(hk:s.1.2.1=(t:Int))(X:WX b h w t (32*i) s.2.1)(hp:10000+100*(n+1:Int)<=s.2.2.1.1)(c:32*i<w.length)(hl:w.length<=32*(i+1+n))(hm:n<m)(hi:i+1+n<=1000) :
 L_5_0 (m+1) q0 q1 q2 (i:Int) q4 w q6 s.1 s.2.1 s.2.2.1=some (.e3 q0 q1 q2 q4 q6 (Sp.lpr w (n+1) i s).1 (Sp.lpr w (n+1) i s).2.1 (Sp.lpr w (n+1) i s).2.2.1):=by
 have l1:=V.l1
 obtain⟨x1,x2,x3⟩:=ix (i:=i) (by omega) l1 c
 obtain⟨b1,b2,b3,b4⟩:=blk_x hb ht hw V e c hk X (by omega)
 have bp:=blk_iv V e (Sp.prt w i)
 have r:=wq1 hb ht hw q0 q1 q2 q4 q6 n m (i+1) _ (iv_step V e c) b1 b2 b4 (by omega) (by omega) hm (by omega)
 have dd:(decide (32*i+(if w.length-32*i<32 then w.length-32*i else 32)<=w.length)&&true)=true:=by rw[decide_eq_true x3];rfl
 rw[L_5_0,S_5_0,Sp.lpr,wi64 (n:=(i:Int)*32) (by omega) (by omega),cond_dtt (by omega),x1,x2,gd_sl3 (by omega) (by omega) (by omega),Int.toNat_natCast,Int.toNat_natCast,Nat.add_sub_cancel_left,prt_tk,dd,Bool.true_and,bp.1,bp.2,gd_tt,cond_nff b1,wi64 (n:=(i:Int)+1) (by omega) (by omega),show(i:Int)+1=((i+1:Nat):Int) by omega,r,if_pos (show s.2.2.2.1=0/\32*i<w.length from⟨e,c⟩)]
 rfl
theorem wq0{b:BayT}{h:HdrT}{w:List Int}{t:Nat}(hb:Sp.bvb b=true)(ht:t<=1)(hw:WL w)(q0:List Int)(q1:Int)(q2:Bool)(q4:BayT)(q6:HdrT)(s:OutT)(V:IV (Sp.hlf b) h w 0 s)(e:s.2.2.2.1=0)(hk:s.1.2.1=(t:Int))(X:WX b h w t 0 s.2.1)(hp:100000<=s.2.2.1.1)(l0:0<w.length) :
 L_5_0 4611686018427387904 q0 q1 q2 0 q4 w q6 s.1 s.2.1 s.2.2.1=some (.e3 q0 q1 q2 q4 q6 (Sp.lpr w 4 0 s).1 (Sp.lpr w 4 0 s).2.1 (Sp.lpr w 4 0 s).2.2.1) :=
 wq0i hb ht hw q0 q1 q2 q4 q6 3 4611686018427387903 0 s V e hk X (by omega) (by omega) (by have:=V.l1;omega) (by decide) (by decide)
theorem bge_d{b:BayT}{h:HdrT}{p:PwT}(e:Sp.bge Sp.zD b h p=0):(Sp.bvb b=true/\Sp.pok p=true/\Sp.rgt h ((Sp.hlf b:Int)-564)=true)/\¬h.1<=Sp.lst b/\Sp.wrn b (Sp.tg b)=false:=by
 unfold Sp.bge at e
 split at e
 ·rename_i c
  rw[if_pos zdl_z]at e
  split at e
  ·exact absurd e (by decide)
  rename_i c2
  split at e
  ·split at e
   ·exact absurd e (by decide)
   ·rename_i c3
    exact⟨⟨c.2.1,c.2.2.1,c.2.2.2⟩,c2,Bool.eq_false_iff.2 c3⟩
  ·exact absurd e (by decide)
 ·exact absurd e (by decide)
theorem bge_o{b:BayT}{h:HdrT}{p:PwT}(hb:Sp.bvb b=true)(hp:Sp.pok p=true)(hr:Sp.rgt h ((Sp.hlf b:Int)-564)=true)(hl:¬h.1<=Sp.lst b){dg:List Int}(hv:Sp.verF b.2.1 dg h.2.2.2.1=false):Sp.bge Sp.zD b (h.1,h.2.1,dg,h.2.2.2) p=14:=by
 unfold Sp.bge
 rw[if_pos ⟨vdl_z,hb,hp,hr⟩,if_pos zdl_z,if_neg hl]
 dsimp only
 rw[hv,if_neg Bool.false_ne_true]
theorem fin_14{hb:Nat}{h:HdrT}{w:List Int}{i t:Nat}{s:OutT}(V:IV hb h w i s)(e:s.2.2.2.1=0)(hi:w.length<=32*i)(ht:t<2)(hk:s.1.2.1=(t:Int))(bad:Sp.gdb s.2.1 t=false):p_29 s.1 s.2.1 s.2.2.1=true/\v_29 s.1 s.2.1 s.2.2.1=Sp.fl 14:=by
 obtain⟨hv,hf⟩:=iv_fit V e
 obtain⟨⟨k,hk2,hd⟩,hb1,hb2,hw,hp⟩:=V.ok e
 rw[if_neg (by omega),if_neg (by omega)]at hd
 have d1:s.1.1=2:=by rw[hd]
 have d4:s.1.2.2.2.1=h:=by rw[hd]
 obtain⟨p0,p1⟩:=pok_b hp
 have B:BB s.2.1:=⟨bv_of hb1,hb1⟩
 refine pv_29 _ _ _ ?_
 have f:=fits_pv (d:=s.1) (by rw[d4];exact V.hh) s.2.1 s.2.2.1
 unfold F_29
 rw[f.1,f.2,gd_tt,if_pos hf,cond_nff rfl,cond_nff d1,hk]
 rcases act_any B (t:Int)with⟨c,c0,hc,ha⟩|⟨n,hn,hnt,g1,g2,g3⟩
 ·have c14:c=14:=by
   rcases hc with⟨z,_⟩|⟨n,hn,hnt,hc⟩
   ·rw[bank_nat t ht]at z;exact Bool.noConfusion z
   ·have:t=n:=by omega
    subst this
    rcases hc with⟨_,z⟩|⟨z,_⟩|⟨z,_⟩
    ·exact z
    ·rw[bad]at z;exact Bool.noConfusion z
    ·rw[bad]at z;exact Bool.noConfusion z
  subst c14
  have a:=pv_66 _ _ _ (ha s.2.2.1 p0 p1)
  rw[a.1,a.2,gd_tt]
  dsimp only
  rw[cond_eff (by decide),cond_eff (by decide),(fail_pv 14).1,(fail_pv 14).2,gd_tt]
 ·have:t=n:=by omega
  subst this
  rw[bad]at g1
  exact Bool.noConfusion g1
theorem equ_pv(l:List Int)(h:l.length<=1000000):p_30 l l=true/\v_30 l l=(true,()):=by
 refine pv_30 l l ?_
 unfold F_30
 rw[cond_nff rfl]
 have t:=run0 (fun m i(_:Unit)=>L_30_0 m l l l.length i) (n:=l.length) (fun _=>()) (r:=some .e1) (by omega) (fun m j hj=>by
  show L_30_0 (m+1) l l l.length (j:Int)=L_30_0 m l l l.length ((j+1:Nat):Int)
  rw[L_30_0,S_30_0,cond_dtt (by omega),gd_inB (by omega) (by omega),gd_inB (by omega) (by omega),cond_nff rfl,wi64 (by omega) (by omega)]
  push_cast
  rfl) (fun m=>by
  show L_30_0 (m+1) l l l.length (l.length:Int)=_
  rw[L_30_0,S_30_0,cond_dff (by omega)])
 have t:L_30_0 4611686018427387904 l l l.length 0=_:=t
 rw[t]
 rfl
theorem aw5:F_8=some (true,()):=by kernel_rfl
theorem aw_pv:p_8=true/\v_8=(true,()):=pv_8 aw5
theorem upd_w{b:BayT}{h:HdrT}{w:List Int}{dg:List Int}(hw:W32f b.1)(hh:H32 h)(hby:bytes h.2.2.1)(hl:(w.length:Int)=h.2.1)(l0:0<w.length)(l1:w.length<=100)(hwl:WL w)(be:Sp.bge Sp.zD b h (1099511627776,0,())=0)
 (hsum:Ty.beq (.arr 32 (.int .u8)) (Sp.sha (Sp.spr ([wrap .u32 h.1,wrap .u32 (w.length:Int)]++w))) h.2.2.1=false) (hdg:dg.length=32) (hbd:bytes dg) (hver:Sp.verF b.2.1 dg h.2.2.2.1=false) :
 (Sp.bgn Sp.zD b h (1099511627776,0,())).2.2.2.1=0/\∃(d:DlT)(c:BayT)(p:PwT),(∀q0 q1 q2 q6,L_5_0 4611686018427387904 q0 q1 q2 0 b w q6 (Sp.bgn Sp.zD b h (1099511627776,0,())).1 (Sp.bgn Sp.zD b h (1099511627776,0,())).2.1 (Sp.bgn Sp.zD b h (1099511627776,0,())).2.2.1=some (.e3 q0 q1 q2 b q6 d c p)) /\
  (p_24 c=true/\v_24 c=Sp.rns b)/\(p_29 d c p=true/\v_29 d c p=Sp.fl 14)/\Sp.bgn Sp.zD b (h.1,h.2.1,dg,h.2.2.2) (1099511627776,0,())=Sp.fl 14:=by
 obtain⟨⟨hb,hp,hr⟩,hls,hn⟩:=bge_d be
 have bl:=bay_len hb
 obtain⟨_,_,shp⟩:=rgt_1484 (h:=h) (by omega) hr
 have hv:1<=h.1/\h.1<=2147483647:=by
  unfold Sp.rgt at hr
  simp only[Bool.and_eq_true,decide_eq_true_eq]at hr
  exact⟨hr.1,hr.2.1⟩
 have tl:=tg_le b
 have B:BB b:=⟨bv_of hb,hb⟩
 obtain⟨g1,g2,g3⟩:=bgs_x (p:=(1099511627776,0,())) w hb tl hw shp (by decide) (by decide) hn
 have V:=iv_init hb hw hp hh hl l1 hr
 have bo:Sp.bgn Sp.zD b h (1099511627776,0,())=Sp.bgo b h (1099511627776,0,()) (Sp.tg b):=by unfold Sp.bgn;rw[if_pos be]
 have e:(Sp.bgn Sp.zD b h (1099511627776,0,())).2.2.2.1=0:=by rw[bo];exact g1
 have hk:(Sp.bgn Sp.zD b h (1099511627776,0,())).1.2.1=(Sp.tg b:Int):=by
  rw[bo]
  unfold Sp.bgo
  dsimp only
  rw[if_pos g1]
 have X:WX b h w (Sp.tg b) 0 (Sp.bgn Sp.zD b h (1099511627776,0,())).2.1:=by rw[bo];exact g3
 have pw:100000<=(Sp.bgn Sp.zD b h (1099511627776,0,())).2.2.1.1:=by
  rw[bo]
  show 100000<=(Sp.bgs b h (1099511627776,0,()) (Sp.tg b)).2.1.1
  dsimp only at g2
  omega
 obtain⟨x1,x2,x3,x4⟩:=lpr_x hb tl hwl 4 0 _ V e hk (by rw[Nat.mul_zero,Nat.zero_min];exact X) (by omega) (by omega)
 obtain⟨j,V2,hj⟩:=lpr_iv 4 0 _ V (by omega)
 refine⟨e,_,_,_,fun q0 q1 q2 q6=>wq0 hb tl hwl q0 q1 q2 b q6 _ V e hk X pw l0,?_,?_,?_⟩
 ·obtain⟨_,hb1,_,_,_⟩:=V2.ok x1
  have C:BB (Sp.lpr w 4 0 (Sp.bgn Sp.zD b h (1099511627776,0,()))).2.1:=⟨bv_of hb1,hb1⟩
  have bad:=wx_bad (by omega) C x4 (by omega) hl l0 l1 hh.d hby hsum
  have r:=runs_pv C
  exact⟨r.1,r.2.trans (runs_same B C x4 bad)⟩
 ·obtain⟨_,hb1,_,_,_⟩:=V2.ok x1
  have C:BB (Sp.lpr w 4 0 (Sp.bgn Sp.zD b h (1099511627776,0,()))).2.1:=⟨bv_of hb1,hb1⟩
  have bad:=wx_bad (by omega) C x4 (by omega) hl l0 l1 hh.d hby hsum
  exact fin_14 V2 x1 (hj x1) (by omega) x2 bad
 ·have:=bge_o hb hp hr hls hver
  unfold Sp.bgn
  rw[this,if_neg (by decide)]
theorem xor8_b(x y:Int):0<=Sp.xorI .u8 x y/\Sp.xorI .u8 x y<=255:=by
 show 0<=wrap .u8 _/\wrap .u8 _<=255
 rw[u8m]
 omega
theorem xor32_b(x y:Int):0<=Sp.xorI .u32 x y/\Sp.xorI .u32 x y<4294967296:=wu_b _
theorem rns_len{b:BayT}(B:BB b):(Sp.rns b).1.length<=1000000:=by
 have h1:=B.v.h1
 unfold Sp.rns
 split
 ·show(Sp.pgm b (Sp.sb b)).length<=_
  unfold Sp.pgm
  rw[List.length_take,List.length_drop,wds_len B.v _ (sb_lt b)]
  omega
 ·exact Nat.zero_le _
theorem plain_5(b:BayT)(h:HdrT)(w:List Int)(a3 a4:Int)(wb:wfD (.pair (.pair (.slice (.int .u32)) (.pair (.slice (.int .i64)) (.pair (.int .i64) .unit))) (.pair (.arr 32 (.int .u8)) .unit)) b)(wh:wfD (.pair (.int .i64) (.pair (.int .i64) (.pair (.arr 32 (.int .u8)) (.pair (.pair (.int .i64) (.pair (.slice (.arr 32 (.int .u8))) (.pair (.slice (.arr 32 (.int .u8))) .unit))) .unit)))) h)
 (ww:wfD (.slice (.int .u32)) w) (wa:wfD (.int .u16) a3) (_:wfD (.int .u32) a4):F_5 b h w a3 a4=some true:=by
 have o:=odd_pv h
 have hh:=h32 wh
 have hwb:W32f b.1:=fun x hx=>u32_b (wb.1.1 x hx)
 have hww:WL w:=fun x hx=>u32_b (ww x hx)
 have hat:0<=a3/\a3<65536:=by
  have wa:(Lit.int .u16 a3).wf=true:=wa
  simp[Lit.wf,IntKind.min,IntKind.max,IntKind.signed,IntKind.bits]at wa;omega
 obtain⟨hdl,hby⟩:=wf_bytes wh.2.2.1
 unfold F_5
 rw[aw_pv.1,aw_pv.2,gd_tt,(great_pv b).1,(great_pv b).2,gd_tt,o.1,o.2,gd_tt]
 dsimp only
 rw[show(!true)=false from rfl,cond_f]
 cases decide ((b.1.2.1.length:Int)>20)&&decide ((b.1.2.1.length:Int)<=64)
 rotate_left
 ·rfl
 cases decide ((h.2.2.2.1.2.1.length:Int)>100)||decide ((h.2.2.2.1.2.2.1.length:Int)>100)
 rotate_left
 ·rfl
 rw[cond_f,cond_f]
 by_cases c1:(w.length:Int)>100
 ·rw[cond_dtt c1]
 rw[cond_dff c1]
 by_cases c2:(w.length:Int)=0
 ·rw[cond_ett c2]
 rw[cond_eff c2]
 by_cases hl:(w.length:Int)=h.2.1
 rotate_left
 ·rw[cond_ntt hl]
 rw[cond_nff hl]
 by_cases c3:a4=0
 ·rw[cond_ett c3]
 have s1:=pv_23 _ _ (rsum_ok h.1 w (by omega))
 rw[cond_eff c3,s1.1,s1.2,gd_tt]
 dsimp only
 cases Ty.beq (.arr 32 (.int .u8)) (Sp.sha (Sp.spr ([wrap .u32 h.1,wrap .u32 (w.length:Int)]++w))) h.2.2.1
 ·rfl
 have pr:p_24 b=true:=by
  cases hb:Sp.bvb b
  ·exact runs_no hb
  ·exact(runs_pv ⟨bv_of hb,hb⟩).1
 obtain⟨i,hi2⟩:∃i:Nat,(i:Int)=a3%(w.length:Int):=⟨(a3%(w.length:Int)).toNat,by have:=Int.emod_nonneg a3 (show(w.length:Int)≠0 by omega);omega⟩
 have hi:i<w.length:=by have:=Int.emod_lt_of_pos a3 (show(0:Int)<(w.length:Int) by omega);omega
 have ei:Int.tmod (wrap .i64 a3) (w.length:Int)=(i:Int):=by rw[wi64 (by omega) (by omega),Int.tmod_eq_emod_of_nonneg (by omega),hi2]
 obtain⟨j,hj2⟩:∃j:Nat,(j:Int)=a3%32:=⟨(a3%32).toNat,by omega⟩
 have ej:Int.tmod (wrap .i64 a3) 32=(j:Int):=by rw[wi64 (by omega) (by omega),Int.tmod_eq_emod_of_nonneg (by omega),hj2]
 have bz:(!((w.length:Int)==0))=true:=by rw[beq_eq_false_iff_ne.2 c2];rfl
 have g32:inB (j:Int) 32=true:=inB_t (by omega) (by omega)
 rw[Bool.not_true,cond_f,pr,gd_tt,gd_room (by omega) (by omega),bz,gd_tt,ei,ej,gd_inB (by omega) (by omega),Int.toNat_natCast,Bool.and_true,Bool.and_true,gd_dec (by omega),gd_inB (by omega) (by omega),gd_dec (by omega),g32,gd_tt,Int.toNat_natCast,Bool.and_true,gd_dec (show j<32 by omega),gd_tt,gd_dec (show j<32 by omega)]
 generalize hx:Sp.xorI .u32 (w.getD i 0) a4=v
 have vb:0<=v/\v<4294967296:=by rw[<-hx];exact xor32_b _ _
 generalize hy:Sp.xorI .u8 (h.2.2.1.getD j 0) (Sp.orI .u8 (wrap .u8 a4) 1)=u
 have ub:0<=u/\u<=255:=by rw[<-hy];exact xor8_b _ _
 have hwl:WL (w.set i v):=fun y hy=>by
  rcases List.mem_or_eq_of_mem_set hy with z|rfl
  ·exact hww y z
  ·exact vb
 have ll:(w.set i v).length=w.length:=List.length_set ..
 have hbd:bytes (h.2.2.1.set j u):=fun y hy=>by
  rcases List.mem_or_eq_of_mem_set hy with z|rfl
  ·exact hby y z
  ·exact ub
 have s2:=pv_23 _ _ (rsum_ok h.1 (w.set i v) (by omega))
 have rv:=pv_26 _ _ _ (rverify_ok b.2.1 (h.2.2.1.set j u) hbd h.2.2.2.1)
 rw[s2.1,s2.2,gd_tt]
 dsimp only
 cases hsum:Ty.beq (.arr 32 (.int .u8)) (Sp.sha (Sp.spr ([wrap .u32 h.1,wrap .u32 ((w.set i v).length:Int)]++w.set i v))) h.2.2.1
 rotate_left
 ·rfl
 rw[cond_f,rv.1,rv.2,gd_tt]
 dsimp only
 cases hver:Sp.verF b.2.1 (h.2.2.1.set j u) h.2.2.2.1
 rotate_left
 ·rfl
 have fu:=full_pv
 have bg:=bgn_pv (d:=Sp.zD) (b:=b) (h:=h) (p:=(1099511627776,0,())) h32z hh hwb hby
 rw[cond_f,new_pv.1,new_pv.2,gd_tt,fu.1,fu.2,gd_tt]
 dsimp only
 rw[bg.1,bg.2,gd_tt]
 by_cases be:Sp.bge Sp.zD b h (1099511627776,0,())=0
 rotate_left
 ·have e:(Sp.bgn Sp.zD b h (1099511627776,0,()))=Sp.fl (Sp.bge Sp.zD b h (1099511627776,0,())):=by unfold Sp.bgn;rw[if_neg be]
  have z:=pv_10 _ (rzero_ok Sp.zD)
  rw[e,cond_ntt (show(Sp.fl (Sp.bge Sp.zD b h (1099511627776,0,()))).2.2.2.1≠0 from be),show(Sp.fl (Sp.bge Sp.zD b h (1099511627776,0,()))).1=Sp.zD from rfl,z.1,z.2,gd_tt]
  exact congrArg some zdl_z
 obtain⟨⟨hb,_,_⟩,_,_⟩:=bge_d be
 have B:BB b:=⟨bv_of hb,hb⟩
 have rb:=runs_pv B
 obtain⟨e,d,c,p,q,rc,fi,ot⟩:=upd_w hwb hh hby (ll▸hl) (by omega) (by omega) hwl be hsum (by rw[List.length_set];exact hdl) hbd hver
 have bo:=bgn_pv (d:=Sp.zD) (b:=b) (h:=(h.1,h.2.1,h.2.2.1.set j u,h.2.2.2)) (p:=(1099511627776,0,())) h32z ⟨by show(h.2.2.1.set j u).length=32;rw[List.length_set];exact hdl,hh.c,hh.p⟩ hwb hbd
 have eq:=equ_pv (Sp.rns b).1 (rns_len B)
 rw[cond_nff e,rb.2,q]
 unfold B_5_0
 dsimp only
 rw[rc.1,rc.2,gd_tt,fi.1,fi.2,gd_tt,cond_nff (show(Sp.fl 14).2.2.2.1=14 from rfl)]
 have bb:(!((Sp.rns b).2.2.1==(Sp.rns b).2.2.1))=false:=by rw[beq_self_eq_true];rfl
 rw[bb,cond_f,cond_nff rfl,eq.1,eq.2,gd_tt]
 dsimp only
 rw[Bool.not_true,cond_f,bo.1,bo.2,gd_tt,ot]
 rfl
end Go.Ev
