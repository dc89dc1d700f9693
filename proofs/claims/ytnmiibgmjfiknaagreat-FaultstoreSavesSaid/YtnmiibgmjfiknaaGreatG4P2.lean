/- Helpers: functions of the program as Lean functions, and what they compute. No condition. -/
import Derived.Test.YtnmiibgmjfiknaaGreatG4P1
set_option maxRecDepth 10000
set_option linter.unusedVariables false
set_option linter.unusedSimpArgs false
open Go.IntKind (wrap i64 i32 i16 i8 u64 u32 u16 u8)
open List (getD length take drop replicate)
open Int (toNat)
open Go.Ev.Sp
namespace Go.Ev
open Go
set_option maxRecDepth 100000
set_option maxHeartbeats 4000000
set_option linter.unusedVariables false
noncomputable section
abbrev Zt97_0:Type:=(List Int×List Int×Int×Unit)×Int×Int×Unit
abbrev A_97:List Ty:=[(.pair (.pair (.slice (.int .u32)) (.pair (.slice (.int .i64)) (.pair (.int .i64) .unit))) (.pair (.int .i64) (.pair (.int .i64) .unit))),(.slice (.pair (.int .i64) (.pair (.slice (.int .u32)) .unit)))]
abbrev R_97:List Ty:=[(.slice (.pair .bool (.pair (.int .i64) (.pair (.int .u32) .unit)))),(.int .i64)]
noncomputable def sm_97:Nat->Option Summ:=smL [(69,s_69),(93,s_93),(95,s_95),(96,s_96),(109,s_109),(124,s_124),(129,s_129),(130,s_130)]
noncomputable def T_97_0:PS:=⟨88,[(2,.kc (.ptr 0 [])),(6,.hv (.int .i64)),(8,.hv (.int .i64)),(9,.kc (.whole 1)),(23,.hv (.slice (.pair (.int .i64) (.pair (.slice (.int .u32)) .unit)))),(24,.hv (.int .i64)),(25,.hv (.int .i64))],[.mem (.hv (.pair (.pair (.slice (.int .u32)) (.pair (.slice (.int .i64)) (.pair (.int .i64) .unit))) (.pair (.int .i64) (.pair (.int .i64) .unit)))),.vec 51 (.int .u32)],0⟩
inductive Sp.E_97_0 where
 |e0 (p0 p1:Int) (p5:Zt97_0) (p6:List Int)
noncomputable def Sp.B_97_0{R:Type}(r:Option E_97_0)(k0:Int->Int->Zt97_0->List Int->Option R):Option R:=match r with
 |none=>none
 |some (.e0 p0 p1 p5 p6)=>k0 p0 p1 p5 p6
noncomputable def Y_97_0{R:Type}(k:Ex->St->Option R):E_97_0->Option R
 | .e0 p0 p1 p5 p6=>k (Ex.exit 0) (sx 88 [(2,CV.ptr 0 []),(6,CV.int i64 p0),(8,CV.int i64 p1),(9,CV.whole 1)] [Blk.mem (CV.pure (Ty.pair (Ty.pair (Ty.slice (Ty.int u32)) (Ty.pair (Ty.slice (Ty.int i64)) (Ty.pair (Ty.int i64) Ty.unit))) (Ty.pair (Ty.int i64) (Ty.pair (Ty.int i64) Ty.unit))) p5),Blk.vec 51 (Ty.int u32) p6])
noncomputable def Sp.S_97_0{R:Type}(K:Int->Int->(List (Int×List Int×Unit))->Int->Int->((List Int×List Int×Int×Unit)×Int×Int×Unit)->List Int->Option R)(k:E_97_0->Option R)(p0 p1:Int)(p2:List (Int×List Int×Unit))(p3 p4:Int)(p5:(List Int×List Int×Int×Unit)×Int×Int×Unit)(p6:List Int):Option R:=
 bif decide (p4<p3)then gd (inB p4 (length p2)) (gd (p_93 ((getD p2 (toNat p4) Zd2).1) ((getD p2 (toNat p4) Zd2).2.1)) (gd (room (length p6+length ((v_93 ((getD p2 (toNat p4) Zd2).1) ((getD p2 (toNat p4) Zd2).2.1)).1)) 4) (K p0 p1 p2 p3 (wrap i64 (p4+1)) p5 (p6++(v_93 ((getD p2 (toNat p4) Zd2).1) ((getD p2 (toNat p4) Zd2).2.1)).1))))else k (E_97_0.e0 p0 p1 p5 p6)
noncomputable def Sp.L_97_0:Nat->Int->Int->(List (Int×List Int×Unit))->Int->Int->((List Int×List Int×Int×Unit)×Int×Int×Unit)->List Int->Option E_97_0
 |0,_,_,_,_,_,_,_=>none
 |m+1,p0,p1,p2,p3,p4,p5,p6=>S_97_0 (L_97_0 m) some p0 p1 p2 p3 p4 p5 p6
noncomputable def l_97_0(m:Nat)(a:T_97_0.E):Option E_97_0:=L_97_0 m a.1 a.2.1 a.2.2.1 a.2.2.2.1 a.2.2.2.2.1 a.2.2.2.2.2.1 a.2.2.2.2.2.2.1
noncomputable def O_97_0{R:Type}:Orc R:=orL T_97_0 (l_97_0 FU) Y_97_0
theorem OK_97_0{R:Type}:okF (R:=R) sm_97 0 (nf 97 0) O_97_0:=lp0 T_97_0 l_97_0 (fun R K k a=>S_97_0 (fun p0 p1 p2 p3 p4 p5 p6=>K (p0,p1,p2,p3,p4,p5,p6,())) k a.1 a.2.1 a.2.2.1 a.2.2.2.1 a.2.2.2.2.1 a.2.2.2.2.2.1 a.2.2.2.2.2.2.1) Y_97_0 (fun _ _ _=>by kernel_rfl) (fun _ _ _=>by
 unfold S_97_0
 repeat' first|apply gdN|apply condN|rfl) (ok0 _)
noncomputable def F_97(a0:(((List Int)×((List Int)×(Int×Unit)))×(Int×(Int×Unit))))(a1:(List (Int×((List Int)×Unit)))):Option ((List (Bool×(Int×(Int×Unit))))×Int×Unit) :=
 gd (p_69 a0) (B_97_0 (L_97_0 4611686018427387904 ((v_69 a0).1) (wrap i64 (1-(v_69 a0).1)) a1 (↑(length a1):Int) 0 a0 []) fun y4 y5 y6 y7=>gd (p_129 y6) (bif decide (wrap i64 (1+(↑(length y7):Int))>(v_129 y6).1)then some ([],5,PUnit.unit)else gd (p_130 y6 (wrap i64 (y6.2.1+wrap i64 (Int.tdiv (wrap i64 (y5*y6.2.2.1)) 2))) (wrap i64 (wrap i64 (y6.2.1+wrap i64 (Int.tdiv (wrap i64 (y5*y6.2.2.1)) 2))+wrap i64 (Int.tdiv (y6.2.2.1) 2)))) (gd (p_109 y6 y4) (bif !(v_130 y6 (wrap i64 (y6.2.1+wrap i64 (Int.tdiv (wrap i64 (y5*y6.2.2.1)) 2))) (wrap i64 (wrap i64 (y6.2.1+wrap i64 (Int.tdiv (wrap i64 (y5*y6.2.2.1)) 2))+wrap i64 (Int.tdiv (y6.2.2.1) 2)))).2.1 then some ([],19,PUnit.unit)else bif decide (wrap i64 ((v_109 y6 y4).1+1)>65535)then some ([],19,PUnit.unit)else gd (p_96 y6 y5 1) (gd (p_95 ((v_96 y6 y5 1).1) y7) (gd (room (length ((v_130 y6 (wrap i64 (y6.2.1+wrap i64 (Int.tdiv (wrap i64 (y5*y6.2.2.1)) 2))) (wrap i64 (wrap i64 (y6.2.1+wrap i64 (Int.tdiv (wrap i64 (y5*y6.2.2.1)) 2))+wrap i64 (Int.tdiv (y6.2.2.1) 2)))).1)+length ((v_95 ((v_96 y6 y5 1).1) y7).1)) 24) (gd (p_96 y6 y5 0) (gd (p_124 (wrap i64 ((v_109 y6 y4).1+1))) (gd (room (length ((v_130 y6 (wrap i64 (y6.2.1+wrap i64 (Int.tdiv (wrap i64 (y5*y6.2.2.1)) 2))) (wrap i64 (wrap i64 (y6.2.1+wrap i64 (Int.tdiv (wrap i64 (y5*y6.2.2.1)) 2))+wrap i64 (Int.tdiv (y6.2.2.1) 2)))).1++(v_95 ((v_96 y6 y5 1).1) y7).1)+1) 24) (some ((v_130 y6 (wrap i64 (y6.2.1+wrap i64 (Int.tdiv (wrap i64 (y5*y6.2.2.1)) 2))) (wrap i64 (wrap i64 (y6.2.1+wrap i64 (Int.tdiv (wrap i64 (y5*y6.2.2.1)) 2))+wrap i64 (Int.tdiv (y6.2.2.1) 2)))).1++(v_95 ((v_96 y6 y5 1).1) y7).1++[(false,(v_96 y6 y5 0).1,(v_124 (wrap i64 ((v_109 y6 y4).1+1))).1,PUnit.unit)],0,PUnit.unit)))))))))))
noncomputable def Sp.p_97(a0:(((List Int)×((List Int)×(Int×Unit)))×(Int×(Int×Unit))))(a1:(List (Int×((List Int)×Unit)))):Bool:=(F_97 a0 a1).isSome
noncomputable def Sp.v_97(a0:(((List Int)×((List Int)×(Int×Unit)))×(Int×(Int×Unit))))(a1:(List (Int×((List Int)×Unit)))):(List (Bool×(Int×(Int×Unit))))×Int×Unit:=(F_97 a0 a1).getD (dfH R_97)
noncomputable def s_97:Summ:=shS A_97 R_97 (fun x=>p_97 x.1 x.2.1) (fun x=>v_97 x.1 x.2.1)
theorem pv_97(a0:(((List Int)×((List Int)×(Int×Unit)))×(Int×(Int×Unit))))(a1:(List (Int×((List Int)×Unit)))){y:(List (Bool×(Int×(Int×Unit))))×Int×Unit}(h:F_97 a0 a1=some y):p_97 a0 a1=true/\v_97 a0 a1=y:=pvG h
theorem run_97(x:HDen A_97)(y:HDen R_97)(h:F_97 x.1 x.2.1=some y):rnF sm_97 1 97 A_97 R_97 x y:=runG noO_ok (os:=[O_97_0]) ⟨OK_97_0,trivial⟩ (Eq.trans (by kernel_rfl) h)
end
noncomputable section
abbrev A_61:List Ty:=[(.pair (.pair (.slice (.int .u32)) (.pair (.slice (.int .i64)) (.pair (.int .i64) .unit))) (.pair (.int .i64) (.pair (.int .i64) .unit))),(.int .i64),(.slice (.int .u32)),(.pair (.int .i64) (.pair (.int .u32) .unit))]
abbrev R_61:List Ty:=[(.pair (.pair (.slice (.int .u32)) (.pair (.slice (.int .i64)) (.pair (.int .i64) .unit))) (.pair (.int .i64) (.pair (.int .i64) .unit))),(.pair (.int .i64) (.pair (.int .u32) .unit)),(.int .i64)]
noncomputable def sm_61:Nat->Option Summ:=smL [(38,s_38),(69,s_69),(70,s_70),(92,s_92),(93,s_93),(94,s_94),(95,s_95),(96,s_96),(97,s_97),(98,s_98)]
noncomputable def F_61(a0:(((List Int)×((List Int)×(Int×Unit)))×(Int×(Int×Unit))))(a1:Int)(a2:(List Int))(a3:(Int×(Int×Unit))):Option ((((List Int)×((List Int)×(Int×Unit)))×(Int×(Int×Unit)))×(Int×(Int×Unit))×Int×Unit) :=
 gd (p_38 a0) (bif !(v_38 a0).1 then some ((([],[],0,PUnit.unit),0,0,PUnit.unit),(0,0,PUnit.unit),1,PUnit.unit)else gd (p_92 a3) (bif !(v_92 a3).1 then some ((([],[],0,PUnit.unit),0,0,PUnit.unit),(0,0,PUnit.unit),1,PUnit.unit)else bif decide (a1<0)then some ((([],[],0,PUnit.unit),0,0,PUnit.unit),(0,0,PUnit.unit),2,PUnit.unit)else bif decide (a1>254)then some ((([],[],0,PUnit.unit),0,0,PUnit.unit),(0,0,PUnit.unit),2,PUnit.unit)else bif decide ((↑(length a2):Int)>24)then some ((([],[],0,PUnit.unit),0,0,PUnit.unit),(0,0,PUnit.unit),2,PUnit.unit)else gd (p_69 a0) (gd (p_70 a0 ((v_69 a0).1)) (gd (p_93 a1 a2) (bif decide ((↑(length ((v_93 a1 a2).1)):Int)<=(v_70 a0 ((v_69 a0).1)).1.2.2.1)then gd (p_96 a0 ((v_69 a0).1) ((v_70 a0 ((v_69 a0).1)).1.2.1)) (gd (p_95 ((v_96 a0 ((v_69 a0).1) ((v_70 a0 ((v_69 a0).1)).1.2.1)).1) ((v_93 a1 a2).1)) (gd (p_94 a0 ((v_95 ((v_96 a0 ((v_69 a0).1) ((v_70 a0 ((v_69 a0).1)).1.2.1)).1) ((v_93 a1 a2).1)).1) a3) (some ((v_94 a0 ((v_95 ((v_96 a0 ((v_69 a0).1) ((v_70 a0 ((v_69 a0).1)).1.2.1)).1) ((v_93 a1 a2).1)).1) a3).1,(v_94 a0 ((v_95 ((v_96 a0 ((v_69 a0).1) ((v_70 a0 ((v_69 a0).1)).1.2.1)).1) ((v_93 a1 a2).1)).1) a3).2.1,(v_94 a0 ((v_95 ((v_96 a0 ((v_69 a0).1) ((v_70 a0 ((v_69 a0).1)).1.2.1)).1) ((v_93 a1 a2).1)).1) a3).2.2.1,PUnit.unit))))else gd (p_98 ((v_70 a0 ((v_69 a0).1)).1.1) a1 a2) (gd (p_97 a0 ((v_98 ((v_70 a0 ((v_69 a0).1)).1.1) a1 a2).1)) (bif(v_97 a0 ((v_98 ((v_70 a0 ((v_69 a0).1)).1.1) a1 a2).1)).2.1 !=0 then some ((([],[],0,PUnit.unit),0,0,PUnit.unit),(0,0,PUnit.unit),(v_97 a0 ((v_98 ((v_70 a0 ((v_69 a0).1)).1.1) a1 a2).1)).2.1,PUnit.unit)else gd (p_94 a0 ((v_97 a0 ((v_98 ((v_70 a0 ((v_69 a0).1)).1.1) a1 a2).1)).1) a3) (some ((v_94 a0 ((v_97 a0 ((v_98 ((v_70 a0 ((v_69 a0).1)).1.1) a1 a2).1)).1) a3).1,(v_94 a0 ((v_97 a0 ((v_98 ((v_70 a0 ((v_69 a0).1)).1.1) a1 a2).1)).1) a3).2.1,(v_94 a0 ((v_97 a0 ((v_98 ((v_70 a0 ((v_69 a0).1)).1.1) a1 a2).1)).1) a3).2.2.1,PUnit.unit)))))))))
noncomputable def Sp.p_61(a0:(((List Int)×((List Int)×(Int×Unit)))×(Int×(Int×Unit))))(a1:Int)(a2:(List Int))(a3:(Int×(Int×Unit))):Bool:=(F_61 a0 a1 a2 a3).isSome
noncomputable def Sp.v_61(a0:(((List Int)×((List Int)×(Int×Unit)))×(Int×(Int×Unit))))(a1:Int)(a2:(List Int))(a3:(Int×(Int×Unit))):(((List Int)×((List Int)×(Int×Unit)))×(Int×(Int×Unit)))×(Int×(Int×Unit))×Int×Unit:=(F_61 a0 a1 a2 a3).getD (dfH R_61)
noncomputable def s_61:Summ:=shS A_61 R_61 (fun x=>p_61 x.1 x.2.1 x.2.2.1 x.2.2.2.1) (fun x=>v_61 x.1 x.2.1 x.2.2.1 x.2.2.2.1)
theorem pv_61(a0:(((List Int)×((List Int)×(Int×Unit)))×(Int×(Int×Unit))))(a1:Int)(a2:(List Int))(a3:(Int×(Int×Unit))){y:(((List Int)×((List Int)×(Int×Unit)))×(Int×(Int×Unit)))×(Int×(Int×Unit))×Int×Unit}(h:F_61 a0 a1 a2 a3=some y):p_61 a0 a1 a2 a3=true/\v_61 a0 a1 a2 a3=y:=pvG h
theorem run_61(x:HDen A_61)(y:HDen R_61)(h:F_61 x.1 x.2.1 x.2.2.1 x.2.2.2.1=some y):rnF sm_61 1 61 A_61 R_61 x y:=runG noO_ok (os:=[]) trivial (Eq.trans (by kernel_rfl) h)
end
noncomputable section
abbrev Zt21_0:Type:=List (Int×Int×Int×Int×Int×Int×Bool×Int×Unit)×List (Int×Int×Int×Int×Int×List Int×Int×Unit)×Int×Bool×Unit
abbrev Zy21_1:Ty:=(.pair (.slice (.pair (.int .i64) (.pair (.int .i64) (.pair (.int .i64) (.pair (.int .i64) (.pair (.int .i64) (.pair (.int .i64) (.pair .bool (.pair (.int .i64) .unit))))))))) (.pair (.slice (.pair (.int .i64) (.pair (.int .i64) (.pair (.int .i64) (.pair (.int .i64) (.pair (.int .i64) (.pair (.slice (.int .i64)) (.pair (.int .i64) .unit)))))))) (.pair (.int .i64) (.pair .bool .unit))))
abbrev Zt21_2:Type:=Int×Int×Unit
abbrev Zt21_3:Type:=(List Int×List Int×Int×Unit)×Int×Int×Unit
abbrev Zt21_4:Type:=List (Int×Int×Int×Int×Int×List Int×Int×Unit)
abbrev Zt21_5:Type:=(((List Int)×((List Int)×(Int×Unit)))×(Int×(Int×Unit)))
abbrev Zy21_6:Ty:=(.slice (.pair (.int .i64) (.pair (.int .i64) (.pair (.int .i64) (.pair (.int .i64) (.pair (.int .i64) (.pair (.slice (.int .i64)) (.pair (.int .i64) .unit))))))))
abbrev Zy21_7:Ty:=(.pair (.int .i64) (.pair (.int .u32) .unit))
abbrev Zy21_8:Ty:=(.pair (.pair (.slice (.int .u32)) (.pair (.slice (.int .i64)) (.pair (.int .i64) .unit))) (.pair (.int .i64) (.pair (.int .i64) .unit)))
abbrev Zy21_9:Ty:=(.pair (.int .i64) (.pair (.int .i64) .unit))
abbrev Zt21_10:Type:=(Int×(Int×Unit))
abbrev A_21:List Ty:=[(.pair (.pair (.slice (.int .u32)) (.pair (.slice (.int .i64)) (.pair (.int .i64) .unit))) (.pair (.int .i64) (.pair (.int .i64) .unit))),(.pair (.slice (.pair (.int .i64) (.pair (.int .i64) (.pair (.int .i64) (.pair (.int .i64) (.pair (.int .i64) (.pair (.int .i64) (.pair .bool (.pair (.int .i64) .unit))))))))) (.pair (.slice (.pair (.int .i64) (.pair (.int .i64) (.pair (.int .i64) (.pair (.int .i64) (.pair (.int .i64) (.pair (.slice (.int .i64)) (.pair (.int .i64) .unit)))))))) (.pair (.int .i64) (.pair .bool .unit)))),(.pair (.int .i64) (.pair (.int .u32) .unit))]
abbrev R_21:List Ty:=[(.pair (.pair (.slice (.int .u32)) (.pair (.slice (.int .i64)) (.pair (.int .i64) .unit))) (.pair (.int .i64) (.pair (.int .i64) .unit))),(.pair (.int .i64) (.pair (.int .u32) .unit)),(.int .i64)]
noncomputable def sm_21:Nat->Option Summ:=smL [(34,s_34),(38,s_38),(43,s_43),(44,s_44),(57,s_57),(58,s_58),(60,s_60),(61,s_61)]
noncomputable def T_21_91_1_0:PS:=⟨46,[(0,.yl 9 21 (.kc (.pair .junk (.pair .junk (.pair .junk (.pair (.ptr 0 []) (.pair .junk (.pair (.ptr 2 []) (.pair (.ptr 3 []) (.pair (.ptr 4 []) (.pair (.ptr 5 []) (.pair .junk (.pair .junk (.pair .junk (.pair .junk (.pair .junk (.pair .junk (.pair .junk (.pair .junk (.pair .junk (.pair .junk (.pair .junk (.pair .junk (.pair .junk (.pair .junk (.pair .junk (.pair .junk (.pair .junk (.pair .junk (.pair .junk (.pair .junk (.pair .junk (.pair .junk (.pair .junk (.pair .junk (.pair .junk (.pair .junk (.pair .junk (.pair .junk (.pair .junk (.pair .junk (.pair .junk (.pair .junk (.pair .junk (.pair .junk (.pair .junk (.pair .junk (.pair .junk (.pair .junk (.pair .junk (.pair .junk (.pair .junk (.pair .junk (.pair .junk (.pair .junk (.pair .junk (.pair .junk (.pair .junk (.pair .junk (.pair .junk (.pair .junk (.pair .junk (.pair .junk (.pair .junk (.pair .junk (.pair .junk (.pair .junk (.pair .junk (.pair .junk (.pair .junk (.pure .unit PUnit.unit))))))))))))))))))))))))))))))))))))))))))))))))))))))))))))))))))))))),(1,.kc (.ptr 8 [])),(3,.hv (.int .i64)),(5,.kc (.whole 10)),(16,.hv Zy21_6),(17,.hv (.int .i64)),(18,.hv (.int .i64))],[.mem (.pr (.pr (.kc (.whole 6)) (.pr (.kc (.whole 7)) (.hv (.pair (.int .i64) .unit)))) (.hv Zy21_9)),.mem (.hv Zy21_1),.mem (.hv Zy21_7),.mem (.pr (.pr (.kc (.nil 51 (.int .u32))) (.pr (.kc (.nil 3 (.int .i64))) (.hv (.pair (.int .i64) .unit)))) (.hv Zy21_9)),.mem (.hv Zy21_7),.mem (.hv (.int .i64)),.vec 51 (.int .u32),.vec 3 (.int .i64),.mem (.hv Zy21_1),.gh 0,.vec 51 (.int .u32)],10⟩
inductive Sp.E_21_91_1_0 where
 |e0 (p0:Int) (p1:Zt21_4) (p2 p3:Int) (p4:Int×Unit) (p5:Zt21_2) (p6:Zt21_0) (p7:Zt21_2) (p8:Int×Unit) (p9 p10:Zt21_2) (p11:Int) (p12 p13:List Int) (p14:Zt21_0) (p15:List Int)
 |e1 (p0:Int) (p4:Int×Unit) (p5:Zt21_2) (p6:Zt21_0) (p7:Zt21_2) (p12 p13:List Int) (p14:Zt21_0) (p15:List Int)
 |e2 (p0:Int) (p1:Zt21_4) (p2 p3:Int) (p4:Int×Unit) (p5:Zt21_2) (p6:Zt21_0) (p7:Zt21_2) (p8:Int×Unit) (p9 p10:Zt21_2) (p11:Int) (p12 p13:List Int) (p14:Zt21_0) (p15:List Int)
noncomputable def Sp.B_21_91_1_0{R:Type}(r:Option E_21_91_1_0)(k0:Int->Zt21_4->Int->Int->(Int×Unit)->Zt21_2->Zt21_0->Zt21_2->(Int×Unit)->Zt21_2->Zt21_2->Int->List Int->List Int->Zt21_0->List Int->Option R)(k1:Int->(Int×Unit)->Zt21_2->Zt21_0->Zt21_2->List Int->List Int->Zt21_0->List Int->Option R)(k2:Int->Zt21_4->Int->Int->(Int×Unit)->Zt21_2->Zt21_0->Zt21_2->(Int×Unit)->Zt21_2->Zt21_2->Int->List Int->List Int->Zt21_0->List Int->Option R):Option R:=match r with
 |none=>none
 |some (.e0 p0 p1 p2 p3 p4 p5 p6 p7 p8 p9 p10 p11 p12 p13 p14 p15)=>k0 p0 p1 p2 p3 p4 p5 p6 p7 p8 p9 p10 p11 p12 p13 p14 p15
 |some (.e1 p0 p4 p5 p6 p7 p12 p13 p14 p15)=>k1 p0 p4 p5 p6 p7 p12 p13 p14 p15
 |some (.e2 p0 p1 p2 p3 p4 p5 p6 p7 p8 p9 p10 p11 p12 p13 p14 p15)=>k2 p0 p1 p2 p3 p4 p5 p6 p7 p8 p9 p10 p11 p12 p13 p14 p15
theorem Bn_21_91_1_0{A R:Type}{r:Option E_21_91_1_0}{f:A->Option R}{k0:Int->Zt21_4->Int->Int->(Int×Unit)->Zt21_2->Zt21_0->Zt21_2->(Int×Unit)->Zt21_2->Zt21_2->Int->List Int->List Int->Zt21_0->List Int->Option A}{k1:Int->(Int×Unit)->Zt21_2->Zt21_0->Zt21_2->List Int->List Int->Zt21_0->List Int->Option A}{k2:Int->Zt21_4->Int->Int->(Int×Unit)->Zt21_2->Zt21_0->Zt21_2->(Int×Unit)->Zt21_2->Zt21_2->Int->List Int->List Int->Zt21_0->List Int->Option A}{l0:Int->Zt21_4->Int->Int->(Int×Unit)->Zt21_2->Zt21_0->Zt21_2->(Int×Unit)->Zt21_2->Zt21_2->Int->List Int->List Int->Zt21_0->List Int->Option R}{l1:Int->(Int×Unit)->Zt21_2->Zt21_0->Zt21_2->List Int->List Int->Zt21_0->List Int->Option R}{l2:Int->Zt21_4->Int->Int->(Int×Unit)->Zt21_2->Zt21_0->Zt21_2->(Int×Unit)->Zt21_2->Zt21_2->Int->List Int->List Int->Zt21_0->List Int->Option R}(h0:∀p0 p1 p2 p3 p4 p5 p6 p7 p8 p9 p10 p11 p12 p13 p14 p15,(k0 p0 p1 p2 p3 p4 p5 p6 p7 p8 p9 p10 p11 p12 p13 p14 p15).bind f=l0 p0 p1 p2 p3 p4 p5 p6 p7 p8 p9 p10 p11 p12 p13 p14 p15)(h1:∀p0 p4 p5 p6 p7 p12 p13 p14 p15,(k1 p0 p4 p5 p6 p7 p12 p13 p14 p15).bind f=l1 p0 p4 p5 p6 p7 p12 p13 p14 p15)(h2:∀p0 p1 p2 p3 p4 p5 p6 p7 p8 p9 p10 p11 p12 p13 p14 p15,(k2 p0 p1 p2 p3 p4 p5 p6 p7 p8 p9 p10 p11 p12 p13 p14 p15).bind f=l2 p0 p1 p2 p3 p4 p5 p6 p7 p8 p9 p10 p11 p12 p13 p14 p15):(B_21_91_1_0 r k0 k1 k2).bind f=B_21_91_1_0 r l0 l1 l2:=by
 cases r with
 |none=>rfl
 |some e=>cases e<;>first|apply h0|apply h1|apply h2
noncomputable def Y_21_91_1_0{R:Type}(k:Ex->St->Option R):E_21_91_1_0->Option R
 | .e0 p0 p1 p2 p3 p4 p5 p6 p7 p8 p9 p10 p11 p12 p13 p14 p15=>k Ex.normal (sx 46 [(0,CV.yld 9 21 (CV.pair CV.junk (CV.pair CV.junk (CV.pair CV.junk (CV.pair (CV.ptr 0 []) (CV.pair CV.junk (CV.pair (CV.ptr 2 []) (CV.pair (CV.ptr 3 []) (CV.pair (CV.ptr 4 []) (CV.pair (CV.ptr 5 []) (CV.pair CV.junk (CV.pair CV.junk (CV.pair CV.junk (CV.pair CV.junk (CV.pair CV.junk (CV.pair CV.junk (CV.pair CV.junk (CV.pair CV.junk (CV.pair CV.junk (CV.pair CV.junk (CV.pair CV.junk (CV.pair CV.junk (CV.pair CV.junk (CV.pair CV.junk (CV.pair CV.junk (CV.pair CV.junk (CV.pair CV.junk (CV.pair CV.junk (CV.pair CV.junk (CV.pair CV.junk (CV.pair CV.junk (CV.pair CV.junk (CV.pair CV.junk (CV.pair CV.junk (CV.pair CV.junk (CV.pair CV.junk (CV.pair CV.junk (CV.pair CV.junk (CV.pair CV.junk (CV.pair CV.junk (CV.pair CV.junk (CV.pair CV.junk (CV.pair CV.junk (CV.pair CV.junk (CV.pair CV.junk (CV.pair CV.junk (CV.pair CV.junk (CV.pair CV.junk (CV.pair CV.junk (CV.pair CV.junk (CV.pair CV.junk (CV.pair CV.junk (CV.pair CV.junk (CV.pair CV.junk (CV.pair CV.junk (CV.pair CV.junk (CV.pair CV.junk (CV.pair CV.junk (CV.pair CV.junk (CV.pair CV.junk (CV.pair CV.junk (CV.pair CV.junk (CV.pair CV.junk (CV.pair CV.junk (CV.pair CV.junk (CV.pair CV.junk (CV.pair CV.junk (CV.pair CV.junk (CV.pair CV.junk (CV.pure Ty.unit PUnit.unit)))))))))))))))))))))))))))))))))))))))))))))))))))))))))))))))))))))),(1,CV.ptr 8 []),(3,CV.int i64 p0),(5,CV.whole 10),(16,CV.pure (Ty.slice (Ty.pair (Ty.int i64) (Ty.pair (Ty.int i64) (Ty.pair (Ty.int i64) (Ty.pair (Ty.int i64) (Ty.pair (Ty.int i64) (Ty.pair (Ty.slice (Ty.int i64)) (Ty.pair (Ty.int i64) Ty.unit)))))))) p1),(17,CV.int i64 p2),(18,CV.int i64 p3),(40,CV.yld 9 21 (CV.pair CV.junk (CV.pair CV.junk (CV.pair CV.junk (CV.pair (CV.ptr 0 []) (CV.pair CV.junk (CV.pair (CV.ptr 2 []) (CV.pair (CV.ptr 3 []) (CV.pair (CV.ptr 4 []) (CV.pair (CV.ptr 5 []) (CV.pair CV.junk (CV.pair CV.junk (CV.pair CV.junk (CV.pair CV.junk (CV.pair CV.junk (CV.pair CV.junk (CV.pair CV.junk (CV.pair CV.junk (CV.pair CV.junk (CV.pair CV.junk (CV.pair CV.junk (CV.pair CV.junk (CV.pair CV.junk (CV.pair CV.junk (CV.pair CV.junk (CV.pair CV.junk (CV.pair CV.junk (CV.pair CV.junk (CV.pair CV.junk (CV.pair CV.junk (CV.pair CV.junk (CV.pair CV.junk (CV.pair CV.junk (CV.pair CV.junk (CV.pair CV.junk (CV.pair CV.junk (CV.pair CV.junk (CV.pair CV.junk (CV.pair CV.junk (CV.pair CV.junk (CV.pair CV.junk (CV.pair CV.junk (CV.pair CV.junk (CV.pair CV.junk (CV.pair CV.junk (CV.pair CV.junk (CV.pair CV.junk (CV.pair CV.junk (CV.pair CV.junk (CV.pair CV.junk (CV.pair CV.junk (CV.pair CV.junk (CV.pair CV.junk (CV.pair CV.junk (CV.pair CV.junk (CV.pair CV.junk (CV.pair CV.junk (CV.pair CV.junk (CV.pair CV.junk (CV.pair CV.junk (CV.pair CV.junk (CV.pair CV.junk (CV.pair CV.junk (CV.pair CV.junk (CV.pair CV.junk (CV.pair CV.junk (CV.pair CV.junk (CV.pair CV.junk (CV.pair CV.junk (CV.pure Ty.unit PUnit.unit)))))))))))))))))))))))))))))))))))))))))))))))))))))))))))))))))))))),(41,CV.int i64 p0),(42,CV.whole 10),(43,CV.bool true),(44,CV.bool false)] [Blk.mem (CV.pair (CV.pair (CV.whole 6) (CV.pair (CV.whole 7) (CV.pure (Ty.pair (Ty.int i64) Ty.unit) p4))) (CV.pure (Ty.pair (Ty.int i64) (Ty.pair (Ty.int i64) Ty.unit)) p5)),Blk.mem (CV.pure (Ty.pair (Ty.slice (Ty.pair (Ty.int i64) (Ty.pair (Ty.int i64) (Ty.pair (Ty.int i64) (Ty.pair (Ty.int i64) (Ty.pair (Ty.int i64) (Ty.pair (Ty.int i64) (Ty.pair Ty.bool (Ty.pair (Ty.int i64) Ty.unit))))))))) (Ty.pair (Ty.slice (Ty.pair (Ty.int i64) (Ty.pair (Ty.int i64) (Ty.pair (Ty.int i64) (Ty.pair (Ty.int i64) (Ty.pair (Ty.int i64) (Ty.pair (Ty.slice (Ty.int i64)) (Ty.pair (Ty.int i64) Ty.unit)))))))) (Ty.pair (Ty.int i64) (Ty.pair Ty.bool Ty.unit)))) p6),Blk.mem (CV.pure (Ty.pair (Ty.int i64) (Ty.pair (Ty.int u32) Ty.unit)) p7),Blk.mem (CV.pair (CV.pair (CV.nil 51 (Ty.int u32)) (CV.pair (CV.nil 3 (Ty.int i64)) (CV.pure (Ty.pair (Ty.int i64) Ty.unit) p8))) (CV.pure (Ty.pair (Ty.int i64) (Ty.pair (Ty.int i64) Ty.unit)) p9)),Blk.mem (CV.pure (Ty.pair (Ty.int i64) (Ty.pair (Ty.int u32) Ty.unit)) p10),Blk.mem (CV.int i64 p11),Blk.vec 51 (Ty.int u32) p12,Blk.vec 3 (Ty.int i64) p13,Blk.mem (CV.pure (Ty.pair (Ty.slice (Ty.pair (Ty.int i64) (Ty.pair (Ty.int i64) (Ty.pair (Ty.int i64) (Ty.pair (Ty.int i64) (Ty.pair (Ty.int i64) (Ty.pair (Ty.int i64) (Ty.pair Ty.bool (Ty.pair (Ty.int i64) Ty.unit))))))))) (Ty.pair (Ty.slice (Ty.pair (Ty.int i64) (Ty.pair (Ty.int i64) (Ty.pair (Ty.int i64) (Ty.pair (Ty.int i64) (Ty.pair (Ty.int i64) (Ty.pair (Ty.slice (Ty.int i64)) (Ty.pair (Ty.int i64) Ty.unit)))))))) (Ty.pair (Ty.int i64) (Ty.pair Ty.bool Ty.unit)))) p14),Blk.ghost 0,Blk.vec 51 (Ty.int u32) p15] 10)
 | .e1 p0 p4 p5 p6 p7 p12 p13 p14 p15=>k Ex.ret (sx 46 [] [Blk.mem (CV.pure (Ty.pair (Ty.pair (Ty.slice (Ty.int u32)) (Ty.pair (Ty.slice (Ty.int i64)) (Ty.pair (Ty.int i64) Ty.unit))) (Ty.pair (Ty.int i64) (Ty.pair (Ty.int i64) Ty.unit))) (((v_61 ((p12,p13,p4),p5) p0 p15 p7).1):Zt21_5)),Blk.mem (CV.pure (Ty.pair (Ty.slice (Ty.pair (Ty.int i64) (Ty.pair (Ty.int i64) (Ty.pair (Ty.int i64) (Ty.pair (Ty.int i64) (Ty.pair (Ty.int i64) (Ty.pair (Ty.int i64) (Ty.pair Ty.bool (Ty.pair (Ty.int i64) Ty.unit))))))))) (Ty.pair (Ty.slice (Ty.pair (Ty.int i64) (Ty.pair (Ty.int i64) (Ty.pair (Ty.int i64) (Ty.pair (Ty.int i64) (Ty.pair (Ty.int i64) (Ty.pair (Ty.slice (Ty.int i64)) (Ty.pair (Ty.int i64) Ty.unit)))))))) (Ty.pair (Ty.int i64) (Ty.pair Ty.bool Ty.unit)))) p6),Blk.mem (CV.pure (Ty.pair (Ty.int i64) (Ty.pair (Ty.int u32) Ty.unit)) (((v_61 ((p12,p13,p4),p5) p0 p15 p7).2.1):Zt21_10)),Blk.mem (CV.pure (Ty.pair (Ty.pair (Ty.slice (Ty.int u32)) (Ty.pair (Ty.slice (Ty.int i64)) (Ty.pair (Ty.int i64) Ty.unit))) (Ty.pair (Ty.int i64) (Ty.pair (Ty.int i64) Ty.unit))) (((v_61 ((p12,p13,p4),p5) p0 p15 p7).1):Zt21_5)),Blk.mem (CV.pure (Ty.pair (Ty.int i64) (Ty.pair (Ty.int u32) Ty.unit)) (((v_61 ((p12,p13,p4),p5) p0 p15 p7).2.1):Zt21_10)),Blk.mem (CV.int i64 ((v_61 ((p12,p13,p4),p5) p0 p15 p7).2.2.1)),Blk.fvec 51 (Ty.int u32) p12,Blk.fvec 3 (Ty.int i64) p13,Blk.mem (CV.pure (Ty.pair (Ty.slice (Ty.pair (Ty.int i64) (Ty.pair (Ty.int i64) (Ty.pair (Ty.int i64) (Ty.pair (Ty.int i64) (Ty.pair (Ty.int i64) (Ty.pair (Ty.int i64) (Ty.pair Ty.bool (Ty.pair (Ty.int i64) Ty.unit))))))))) (Ty.pair (Ty.slice (Ty.pair (Ty.int i64) (Ty.pair (Ty.int i64) (Ty.pair (Ty.int i64) (Ty.pair (Ty.int i64) (Ty.pair (Ty.int i64) (Ty.pair (Ty.slice (Ty.int i64)) (Ty.pair (Ty.int i64) Ty.unit)))))))) (Ty.pair (Ty.int i64) (Ty.pair Ty.bool Ty.unit)))) p14),Blk.ghost 2] 10)
 | .e2 p0 p1 p2 p3 p4 p5 p6 p7 p8 p9 p10 p11 p12 p13 p14 p15=>k Ex.normal (sx 46 [(0,CV.yld 9 21 (CV.pair CV.junk (CV.pair CV.junk (CV.pair CV.junk (CV.pair (CV.ptr 0 []) (CV.pair CV.junk (CV.pair (CV.ptr 2 []) (CV.pair (CV.ptr 3 []) (CV.pair (CV.ptr 4 []) (CV.pair (CV.ptr 5 []) (CV.pair CV.junk (CV.pair CV.junk (CV.pair CV.junk (CV.pair CV.junk (CV.pair CV.junk (CV.pair CV.junk (CV.pair CV.junk (CV.pair CV.junk (CV.pair CV.junk (CV.pair CV.junk (CV.pair CV.junk (CV.pair CV.junk (CV.pair CV.junk (CV.pair CV.junk (CV.pair CV.junk (CV.pair CV.junk (CV.pair CV.junk (CV.pair CV.junk (CV.pair CV.junk (CV.pair CV.junk (CV.pair CV.junk (CV.pair CV.junk (CV.pair CV.junk (CV.pair CV.junk (CV.pair CV.junk (CV.pair CV.junk (CV.pair CV.junk (CV.pair CV.junk (CV.pair CV.junk (CV.pair CV.junk (CV.pair CV.junk (CV.pair CV.junk (CV.pair CV.junk (CV.pair CV.junk (CV.pair CV.junk (CV.pair CV.junk (CV.pair CV.junk (CV.pair CV.junk (CV.pair CV.junk (CV.pair CV.junk (CV.pair CV.junk (CV.pair CV.junk (CV.pair CV.junk (CV.pair CV.junk (CV.pair CV.junk (CV.pair CV.junk (CV.pair CV.junk (CV.pair CV.junk (CV.pair CV.junk (CV.pair CV.junk (CV.pair CV.junk (CV.pair CV.junk (CV.pair CV.junk (CV.pair CV.junk (CV.pair CV.junk (CV.pair CV.junk (CV.pair CV.junk (CV.pair CV.junk (CV.pair CV.junk (CV.pure Ty.unit PUnit.unit)))))))))))))))))))))))))))))))))))))))))))))))))))))))))))))))))))))),(1,CV.ptr 8 []),(3,CV.int i64 p0),(5,CV.whole 10),(16,CV.pure (Ty.slice (Ty.pair (Ty.int i64) (Ty.pair (Ty.int i64) (Ty.pair (Ty.int i64) (Ty.pair (Ty.int i64) (Ty.pair (Ty.int i64) (Ty.pair (Ty.slice (Ty.int i64)) (Ty.pair (Ty.int i64) Ty.unit)))))))) p1),(17,CV.int i64 p2),(18,CV.int i64 p3),(40,CV.yld 9 21 (CV.pair CV.junk (CV.pair CV.junk (CV.pair CV.junk (CV.pair (CV.ptr 0 []) (CV.pair CV.junk (CV.pair (CV.ptr 2 []) (CV.pair (CV.ptr 3 []) (CV.pair (CV.ptr 4 []) (CV.pair (CV.ptr 5 []) (CV.pair CV.junk (CV.pair CV.junk (CV.pair CV.junk (CV.pair CV.junk (CV.pair CV.junk (CV.pair CV.junk (CV.pair CV.junk (CV.pair CV.junk (CV.pair CV.junk (CV.pair CV.junk (CV.pair CV.junk (CV.pair CV.junk (CV.pair CV.junk (CV.pair CV.junk (CV.pair CV.junk (CV.pair CV.junk (CV.pair CV.junk (CV.pair CV.junk (CV.pair CV.junk (CV.pair CV.junk (CV.pair CV.junk (CV.pair CV.junk (CV.pair CV.junk (CV.pair CV.junk (CV.pair CV.junk (CV.pair CV.junk (CV.pair CV.junk (CV.pair CV.junk (CV.pair CV.junk (CV.pair CV.junk (CV.pair CV.junk (CV.pair CV.junk (CV.pair CV.junk (CV.pair CV.junk (CV.pair CV.junk (CV.pair CV.junk (CV.pair CV.junk (CV.pair CV.junk (CV.pair CV.junk (CV.pair CV.junk (CV.pair CV.junk (CV.pair CV.junk (CV.pair CV.junk (CV.pair CV.junk (CV.pair CV.junk (CV.pair CV.junk (CV.pair CV.junk (CV.pair CV.junk (CV.pair CV.junk (CV.pair CV.junk (CV.pair CV.junk (CV.pair CV.junk (CV.pair CV.junk (CV.pair CV.junk (CV.pair CV.junk (CV.pair CV.junk (CV.pair CV.junk (CV.pair CV.junk (CV.pair CV.junk (CV.pure Ty.unit PUnit.unit)))))))))))))))))))))))))))))))))))))))))))))))))))))))))))))))))))))),(41,CV.int i64 p0),(42,CV.whole 10),(43,CV.bool true),(44,CV.bool false)] [Blk.mem (CV.pure (Ty.pair (Ty.pair (Ty.slice (Ty.int u32)) (Ty.pair (Ty.slice (Ty.int i64)) (Ty.pair (Ty.int i64) Ty.unit))) (Ty.pair (Ty.int i64) (Ty.pair (Ty.int i64) Ty.unit))) (((v_61 ((p12,p13,p4),p5) p0 p15 p7).1):Zt21_5)),Blk.mem (CV.pure (Ty.pair (Ty.slice (Ty.pair (Ty.int i64) (Ty.pair (Ty.int i64) (Ty.pair (Ty.int i64) (Ty.pair (Ty.int i64) (Ty.pair (Ty.int i64) (Ty.pair (Ty.int i64) (Ty.pair Ty.bool (Ty.pair (Ty.int i64) Ty.unit))))))))) (Ty.pair (Ty.slice (Ty.pair (Ty.int i64) (Ty.pair (Ty.int i64) (Ty.pair (Ty.int i64) (Ty.pair (Ty.int i64) (Ty.pair (Ty.int i64) (Ty.pair (Ty.slice (Ty.int i64)) (Ty.pair (Ty.int i64) Ty.unit)))))))) (Ty.pair (Ty.int i64) (Ty.pair Ty.bool Ty.unit)))) p6),Blk.mem (CV.pure (Ty.pair (Ty.int i64) (Ty.pair (Ty.int u32) Ty.unit)) (((v_61 ((p12,p13,p4),p5) p0 p15 p7).2.1):Zt21_10)),Blk.mem (CV.pair (CV.pair (CV.nil 51 (Ty.int u32)) (CV.pair (CV.nil 3 (Ty.int i64)) (CV.pure (Ty.pair (Ty.int i64) Ty.unit) p8))) (CV.pure (Ty.pair (Ty.int i64) (Ty.pair (Ty.int i64) Ty.unit)) p9)),Blk.mem (CV.pure (Ty.pair (Ty.int i64) (Ty.pair (Ty.int u32) Ty.unit)) p10),Blk.mem (CV.int i64 p11),Blk.fvec 51 (Ty.int u32) p12,Blk.fvec 3 (Ty.int i64) p13,Blk.mem (CV.pure (Ty.pair (Ty.slice (Ty.pair (Ty.int i64) (Ty.pair (Ty.int i64) (Ty.pair (Ty.int i64) (Ty.pair (Ty.int i64) (Ty.pair (Ty.int i64) (Ty.pair (Ty.int i64) (Ty.pair Ty.bool (Ty.pair (Ty.int i64) Ty.unit))))))))) (Ty.pair (Ty.slice (Ty.pair (Ty.int i64) (Ty.pair (Ty.int i64) (Ty.pair (Ty.int i64) (Ty.pair (Ty.int i64) (Ty.pair (Ty.int i64) (Ty.pair (Ty.slice (Ty.int i64)) (Ty.pair (Ty.int i64) Ty.unit)))))))) (Ty.pair (Ty.int i64) (Ty.pair Ty.bool Ty.unit)))) p14),Blk.ghost 0,Blk.fvec 51 (Ty.int u32) p15] 10)
noncomputable def Sp.S_21_91_1_0{R:Type}(k:E_21_91_1_0->Option R)(p0:Int)(p1:List (Int×Int×Int×Int×Int×List Int×Int×Unit))(p2 p3:Int)(p4:Int×Unit)(p5:Int×Int×Unit)(p6:List (Int×Int×Int×Int×Int×Int×Bool×Int×Unit)×List (Int×Int×Int×Int×Int×List Int×Int×Unit)×Int×Bool×Unit)(p7:Int×Int×Unit)(p8:Int×Unit)(p9 p10:Int×Int×Unit)(p11:Int)(p12 p13:List Int)(p14:List (Int×Int×Int×Int×Int×Int×Bool×Int×Unit)×List (Int×Int×Int×Int×Int×List Int×Int×Unit)×Int×Bool×Unit)(p15:List Int):Option R:=
 gd (p_60 ((p12,p13,p4),p5) p0 p15) (bif(v_60 ((p12,p13,p4),p5) p0 p15).1 then k (E_21_91_1_0.e0 p0 p1 p2 p3 p4 p5 p6 p7 p8 p9 p10 p11 p12 p13 p14 p15)else gd (p_61 ((p12,p13,p4),p5) p0 p15 p7) (bif(v_61 ((p12,p13,p4),p5) p0 p15 p7).2.2.1 !=0 then k (E_21_91_1_0.e1 p0 p4 p5 p6 p7 p12 p13 p14 p15)else k (E_21_91_1_0.e2 p0 p1 p2 p3 p4 p5 p6 p7 p8 p9 p10 p11 p12 p13 p14 p15)))
noncomputable def Sp.J_21_91_1_0(p0:Int)(p1:List (Int×Int×Int×Int×Int×List Int×Int×Unit))(p2 p3:Int)(p4:Int×Unit)(p5:Int×Int×Unit)(p6:List (Int×Int×Int×Int×Int×Int×Bool×Int×Unit)×List (Int×Int×Int×Int×Int×List Int×Int×Unit)×Int×Bool×Unit)(p7:Int×Int×Unit)(p8:Int×Unit)(p9 p10:Int×Int×Unit)(p11:Int)(p12 p13:List Int)(p14:List (Int×Int×Int×Int×Int×Int×Bool×Int×Unit)×List (Int×Int×Int×Int×Int×List Int×Int×Unit)×Int×Bool×Unit)(p15:List Int):Option E_21_91_1_0:=S_21_91_1_0 some p0 p1 p2 p3 p4 p5 p6 p7 p8 p9 p10 p11 p12 p13 p14 p15
noncomputable def O_21_91_1_0{R:Type}:Orc R:=orL T_21_91_1_0 (fun a=>J_21_91_1_0 a.1 a.2.1 a.2.2.1 a.2.2.2.1 a.2.2.2.2.1 a.2.2.2.2.2.1 a.2.2.2.2.2.2.1 a.2.2.2.2.2.2.2.1 a.2.2.2.2.2.2.2.2.1 a.2.2.2.2.2.2.2.2.2.1 a.2.2.2.2.2.2.2.2.2.2.1 a.2.2.2.2.2.2.2.2.2.2.2.1 a.2.2.2.2.2.2.2.2.2.2.2.2.1 a.2.2.2.2.2.2.2.2.2.2.2.2.2.1 a.2.2.2.2.2.2.2.2.2.2.2.2.2.2.1 a.2.2.2.2.2.2.2.2.2.2.2.2.2.2.2.1) Y_21_91_1_0
theorem OK_21_91_1_0{R:Type}:okF (R:=R) sm_21 3 (ni (nf 91 0) 0) O_21_91_1_0:=jp noO_ok (os:=[]) trivial T_21_91_1_0 (fun R k a=>S_21_91_1_0 k a.1 a.2.1 a.2.2.1 a.2.2.2.1 a.2.2.2.2.1 a.2.2.2.2.2.1 a.2.2.2.2.2.2.1 a.2.2.2.2.2.2.2.1 a.2.2.2.2.2.2.2.2.1 a.2.2.2.2.2.2.2.2.2.1 a.2.2.2.2.2.2.2.2.2.2.1 a.2.2.2.2.2.2.2.2.2.2.2.1 a.2.2.2.2.2.2.2.2.2.2.2.2.1 a.2.2.2.2.2.2.2.2.2.2.2.2.2.1 a.2.2.2.2.2.2.2.2.2.2.2.2.2.2.1 a.2.2.2.2.2.2.2.2.2.2.2.2.2.2.2.1) Y_21_91_1_0 (fun k a=>by kernel_rfl) (fun Y a=>by
 unfold S_21_91_1_0
 repeat' first|apply gdN|apply condN|rfl) (ok0 _)
noncomputable def T_21_91_1_1:PS:=⟨46,[(0,.yl 9 21 (.kc (.pair .junk (.pair .junk (.pair .junk (.pair (.ptr 0 []) (.pair .junk (.pair (.ptr 2 []) (.pair (.ptr 3 []) (.pair (.ptr 4 []) (.pair (.ptr 5 []) (.pair .junk (.pair .junk (.pair .junk (.pair .junk (.pair .junk (.pair .junk (.pair .junk (.pair .junk (.pair .junk (.pair .junk (.pair .junk (.pair .junk (.pair .junk (.pair .junk (.pair .junk (.pair .junk (.pair .junk (.pair .junk (.pair .junk (.pair .junk (.pair .junk (.pair .junk (.pair .junk (.pair .junk (.pair .junk (.pair .junk (.pair .junk (.pair .junk (.pair .junk (.pair .junk (.pair .junk (.pair .junk (.pair .junk (.pair .junk (.pair .junk (.pair .junk (.pair .junk (.pair .junk (.pair .junk (.pair .junk (.pair .junk (.pair .junk (.pair .junk (.pair .junk (.pair .junk (.pair .junk (.pair .junk (.pair .junk (.pair .junk (.pair .junk (.pair .junk (.pair .junk (.pair .junk (.pair .junk (.pair .junk (.pair .junk (.pair .junk (.pair .junk (.pair .junk (.pure .unit PUnit.unit))))))))))))))))))))))))))))))))))))))))))))))))))))))))))))))))))))))),(1,.kc (.ptr 8 [])),(3,.hv (.int .i64)),(5,.kc (.whole 10)),(16,.hv Zy21_6),(17,.hv (.int .i64)),(18,.hv (.int .i64))],[.mem (.hv Zy21_8),.mem (.hv Zy21_1),.mem (.hv Zy21_7),.mem (.pr (.pr (.kc (.nil 51 (.int .u32))) (.pr (.kc (.nil 3 (.int .i64))) (.hv (.pair (.int .i64) .unit)))) (.hv Zy21_9)),.mem (.hv Zy21_7),.mem (.hv (.int .i64)),.fvec 51 (.int .u32),.fvec 3 (.int .i64),.mem (.hv Zy21_1),.gh 0,.vec 51 (.int .u32)],10⟩
inductive Sp.E_21_91_1_1 where
 |e0 (p0:Int) (p1:Zt21_4) (p2 p3:Int) (p4:Zt21_3) (p5:Zt21_0) (p6:Zt21_2) (p7:Int×Unit) (p8 p9:Zt21_2) (p10:Int) (p11 p12:List Int) (p13:Zt21_0) (p14:List Int)
 |e1 (p0:Int) (p4:Zt21_3) (p5:Zt21_0) (p6:Zt21_2) (p11 p12:List Int) (p13:Zt21_0) (p14:List Int)
 |e2 (p0:Int) (p1:Zt21_4) (p2 p3:Int) (p4:Zt21_3) (p5:Zt21_0) (p6:Zt21_2) (p7:Int×Unit) (p8 p9:Zt21_2) (p10:Int) (p11 p12:List Int) (p13:Zt21_0) (p14:List Int)
noncomputable def Sp.B_21_91_1_1{R:Type}(r:Option E_21_91_1_1)(k0:Int->Zt21_4->Int->Int->Zt21_3->Zt21_0->Zt21_2->(Int×Unit)->Zt21_2->Zt21_2->Int->List Int->List Int->Zt21_0->List Int->Option R)(k1:Int->Zt21_3->Zt21_0->Zt21_2->List Int->List Int->Zt21_0->List Int->Option R)(k2:Int->Zt21_4->Int->Int->Zt21_3->Zt21_0->Zt21_2->(Int×Unit)->Zt21_2->Zt21_2->Int->List Int->List Int->Zt21_0->List Int->Option R):Option R:=match r with
 |none=>none
 |some (.e0 p0 p1 p2 p3 p4 p5 p6 p7 p8 p9 p10 p11 p12 p13 p14)=>k0 p0 p1 p2 p3 p4 p5 p6 p7 p8 p9 p10 p11 p12 p13 p14
 |some (.e1 p0 p4 p5 p6 p11 p12 p13 p14)=>k1 p0 p4 p5 p6 p11 p12 p13 p14
 |some (.e2 p0 p1 p2 p3 p4 p5 p6 p7 p8 p9 p10 p11 p12 p13 p14)=>k2 p0 p1 p2 p3 p4 p5 p6 p7 p8 p9 p10 p11 p12 p13 p14
theorem Bn_21_91_1_1{A R:Type}{r:Option E_21_91_1_1}{f:A->Option R}{k0:Int->Zt21_4->Int->Int->Zt21_3->Zt21_0->Zt21_2->(Int×Unit)->Zt21_2->Zt21_2->Int->List Int->List Int->Zt21_0->List Int->Option A}{k1:Int->Zt21_3->Zt21_0->Zt21_2->List Int->List Int->Zt21_0->List Int->Option A}{k2:Int->Zt21_4->Int->Int->Zt21_3->Zt21_0->Zt21_2->(Int×Unit)->Zt21_2->Zt21_2->Int->List Int->List Int->Zt21_0->List Int->Option A}{l0:Int->Zt21_4->Int->Int->Zt21_3->Zt21_0->Zt21_2->(Int×Unit)->Zt21_2->Zt21_2->Int->List Int->List Int->Zt21_0->List Int->Option R}{l1:Int->Zt21_3->Zt21_0->Zt21_2->List Int->List Int->Zt21_0->List Int->Option R}{l2:Int->Zt21_4->Int->Int->Zt21_3->Zt21_0->Zt21_2->(Int×Unit)->Zt21_2->Zt21_2->Int->List Int->List Int->Zt21_0->List Int->Option R}(h0:∀p0 p1 p2 p3 p4 p5 p6 p7 p8 p9 p10 p11 p12 p13 p14,(k0 p0 p1 p2 p3 p4 p5 p6 p7 p8 p9 p10 p11 p12 p13 p14).bind f=l0 p0 p1 p2 p3 p4 p5 p6 p7 p8 p9 p10 p11 p12 p13 p14)(h1:∀p0 p4 p5 p6 p11 p12 p13 p14,(k1 p0 p4 p5 p6 p11 p12 p13 p14).bind f=l1 p0 p4 p5 p6 p11 p12 p13 p14)(h2:∀p0 p1 p2 p3 p4 p5 p6 p7 p8 p9 p10 p11 p12 p13 p14,(k2 p0 p1 p2 p3 p4 p5 p6 p7 p8 p9 p10 p11 p12 p13 p14).bind f=l2 p0 p1 p2 p3 p4 p5 p6 p7 p8 p9 p10 p11 p12 p13 p14):(B_21_91_1_1 r k0 k1 k2).bind f=B_21_91_1_1 r l0 l1 l2:=by
 cases r with
 |none=>rfl
 |some e=>cases e<;>first|apply h0|apply h1|apply h2
noncomputable def Y_21_91_1_1{R:Type}(k:Ex->St->Option R):E_21_91_1_1->Option R
 | .e0 p0 p1 p2 p3 p4 p5 p6 p7 p8 p9 p10 p11 p12 p13 p14=>k Ex.normal (sx 46 [(0,CV.yld 9 21 (CV.pair CV.junk (CV.pair CV.junk (CV.pair CV.junk (CV.pair (CV.ptr 0 []) (CV.pair CV.junk (CV.pair (CV.ptr 2 []) (CV.pair (CV.ptr 3 []) (CV.pair (CV.ptr 4 []) (CV.pair (CV.ptr 5 []) (CV.pair CV.junk (CV.pair CV.junk (CV.pair CV.junk (CV.pair CV.junk (CV.pair CV.junk (CV.pair CV.junk (CV.pair CV.junk (CV.pair CV.junk (CV.pair CV.junk (CV.pair CV.junk (CV.pair CV.junk (CV.pair CV.junk (CV.pair CV.junk (CV.pair CV.junk (CV.pair CV.junk (CV.pair CV.junk (CV.pair CV.junk (CV.pair CV.junk (CV.pair CV.junk (CV.pair CV.junk (CV.pair CV.junk (CV.pair CV.junk (CV.pair CV.junk (CV.pair CV.junk (CV.pair CV.junk (CV.pair CV.junk (CV.pair CV.junk (CV.pair CV.junk (CV.pair CV.junk (CV.pair CV.junk (CV.pair CV.junk (CV.pair CV.junk (CV.pair CV.junk (CV.pair CV.junk (CV.pair CV.junk (CV.pair CV.junk (CV.pair CV.junk (CV.pair CV.junk (CV.pair CV.junk (CV.pair CV.junk (CV.pair CV.junk (CV.pair CV.junk (CV.pair CV.junk (CV.pair CV.junk (CV.pair CV.junk (CV.pair CV.junk (CV.pair CV.junk (CV.pair CV.junk (CV.pair CV.junk (CV.pair CV.junk (CV.pair CV.junk (CV.pair CV.junk (CV.pair CV.junk (CV.pair CV.junk (CV.pair CV.junk (CV.pair CV.junk (CV.pair CV.junk (CV.pair CV.junk (CV.pair CV.junk (CV.pure Ty.unit PUnit.unit)))))))))))))))))))))))))))))))))))))))))))))))))))))))))))))))))))))),(1,CV.ptr 8 []),(3,CV.int i64 p0),(5,CV.whole 10),(16,CV.pure (Ty.slice (Ty.pair (Ty.int i64) (Ty.pair (Ty.int i64) (Ty.pair (Ty.int i64) (Ty.pair (Ty.int i64) (Ty.pair (Ty.int i64) (Ty.pair (Ty.slice (Ty.int i64)) (Ty.pair (Ty.int i64) Ty.unit)))))))) p1),(17,CV.int i64 p2),(18,CV.int i64 p3),(40,CV.yld 9 21 (CV.pair CV.junk (CV.pair CV.junk (CV.pair CV.junk (CV.pair (CV.ptr 0 []) (CV.pair CV.junk (CV.pair (CV.ptr 2 []) (CV.pair (CV.ptr 3 []) (CV.pair (CV.ptr 4 []) (CV.pair (CV.ptr 5 []) (CV.pair CV.junk (CV.pair CV.junk (CV.pair CV.junk (CV.pair CV.junk (CV.pair CV.junk (CV.pair CV.junk (CV.pair CV.junk (CV.pair CV.junk (CV.pair CV.junk (CV.pair CV.junk (CV.pair CV.junk (CV.pair CV.junk (CV.pair CV.junk (CV.pair CV.junk (CV.pair CV.junk (CV.pair CV.junk (CV.pair CV.junk (CV.pair CV.junk (CV.pair CV.junk (CV.pair CV.junk (CV.pair CV.junk (CV.pair CV.junk (CV.pair CV.junk (CV.pair CV.junk (CV.pair CV.junk (CV.pair CV.junk (CV.pair CV.junk (CV.pair CV.junk (CV.pair CV.junk (CV.pair CV.junk (CV.pair CV.junk (CV.pair CV.junk (CV.pair CV.junk (CV.pair CV.junk (CV.pair CV.junk (CV.pair CV.junk (CV.pair CV.junk (CV.pair CV.junk (CV.pair CV.junk (CV.pair CV.junk (CV.pair CV.junk (CV.pair CV.junk (CV.pair CV.junk (CV.pair CV.junk (CV.pair CV.junk (CV.pair CV.junk (CV.pair CV.junk (CV.pair CV.junk (CV.pair CV.junk (CV.pair CV.junk (CV.pair CV.junk (CV.pair CV.junk (CV.pair CV.junk (CV.pair CV.junk (CV.pair CV.junk (CV.pair CV.junk (CV.pair CV.junk (CV.pair CV.junk (CV.pair CV.junk (CV.pure Ty.unit PUnit.unit)))))))))))))))))))))))))))))))))))))))))))))))))))))))))))))))))))))),(41,CV.int i64 p0),(42,CV.whole 10),(43,CV.bool true),(44,CV.bool false)] [Blk.mem (CV.pure (Ty.pair (Ty.pair (Ty.slice (Ty.int u32)) (Ty.pair (Ty.slice (Ty.int i64)) (Ty.pair (Ty.int i64) Ty.unit))) (Ty.pair (Ty.int i64) (Ty.pair (Ty.int i64) Ty.unit))) p4),Blk.mem (CV.pure (Ty.pair (Ty.slice (Ty.pair (Ty.int i64) (Ty.pair (Ty.int i64) (Ty.pair (Ty.int i64) (Ty.pair (Ty.int i64) (Ty.pair (Ty.int i64) (Ty.pair (Ty.int i64) (Ty.pair Ty.bool (Ty.pair (Ty.int i64) Ty.unit))))))))) (Ty.pair (Ty.slice (Ty.pair (Ty.int i64) (Ty.pair (Ty.int i64) (Ty.pair (Ty.int i64) (Ty.pair (Ty.int i64) (Ty.pair (Ty.int i64) (Ty.pair (Ty.slice (Ty.int i64)) (Ty.pair (Ty.int i64) Ty.unit)))))))) (Ty.pair (Ty.int i64) (Ty.pair Ty.bool Ty.unit)))) p5),Blk.mem (CV.pure (Ty.pair (Ty.int i64) (Ty.pair (Ty.int u32) Ty.unit)) p6),Blk.mem (CV.pair (CV.pair (CV.nil 51 (Ty.int u32)) (CV.pair (CV.nil 3 (Ty.int i64)) (CV.pure (Ty.pair (Ty.int i64) Ty.unit) p7))) (CV.pure (Ty.pair (Ty.int i64) (Ty.pair (Ty.int i64) Ty.unit)) p8)),Blk.mem (CV.pure (Ty.pair (Ty.int i64) (Ty.pair (Ty.int u32) Ty.unit)) p9),Blk.mem (CV.int i64 p10),Blk.fvec 51 (Ty.int u32) p11,Blk.fvec 3 (Ty.int i64) p12,Blk.mem (CV.pure (Ty.pair (Ty.slice (Ty.pair (Ty.int i64) (Ty.pair (Ty.int i64) (Ty.pair (Ty.int i64) (Ty.pair (Ty.int i64) (Ty.pair (Ty.int i64) (Ty.pair (Ty.int i64) (Ty.pair Ty.bool (Ty.pair (Ty.int i64) Ty.unit))))))))) (Ty.pair (Ty.slice (Ty.pair (Ty.int i64) (Ty.pair (Ty.int i64) (Ty.pair (Ty.int i64) (Ty.pair (Ty.int i64) (Ty.pair (Ty.int i64) (Ty.pair (Ty.slice (Ty.int i64)) (Ty.pair (Ty.int i64) Ty.unit)))))))) (Ty.pair (Ty.int i64) (Ty.pair Ty.bool Ty.unit)))) p13),Blk.ghost 0,Blk.vec 51 (Ty.int u32) p14] 10)
 | .e1 p0 p4 p5 p6 p11 p12 p13 p14=>k Ex.ret (sx 46 [] [Blk.mem (CV.pure (Ty.pair (Ty.pair (Ty.slice (Ty.int u32)) (Ty.pair (Ty.slice (Ty.int i64)) (Ty.pair (Ty.int i64) Ty.unit))) (Ty.pair (Ty.int i64) (Ty.pair (Ty.int i64) Ty.unit))) (((v_61 p4 p0 p14 p6).1):Zt21_5)),Blk.mem (CV.pure (Ty.pair (Ty.slice (Ty.pair (Ty.int i64) (Ty.pair (Ty.int i64) (Ty.pair (Ty.int i64) (Ty.pair (Ty.int i64) (Ty.pair (Ty.int i64) (Ty.pair (Ty.int i64) (Ty.pair Ty.bool (Ty.pair (Ty.int i64) Ty.unit))))))))) (Ty.pair (Ty.slice (Ty.pair (Ty.int i64) (Ty.pair (Ty.int i64) (Ty.pair (Ty.int i64) (Ty.pair (Ty.int i64) (Ty.pair (Ty.int i64) (Ty.pair (Ty.slice (Ty.int i64)) (Ty.pair (Ty.int i64) Ty.unit)))))))) (Ty.pair (Ty.int i64) (Ty.pair Ty.bool Ty.unit)))) p5),Blk.mem (CV.pure (Ty.pair (Ty.int i64) (Ty.pair (Ty.int u32) Ty.unit)) (((v_61 p4 p0 p14 p6).2.1):Zt21_10)),Blk.mem (CV.pure (Ty.pair (Ty.pair (Ty.slice (Ty.int u32)) (Ty.pair (Ty.slice (Ty.int i64)) (Ty.pair (Ty.int i64) Ty.unit))) (Ty.pair (Ty.int i64) (Ty.pair (Ty.int i64) Ty.unit))) (((v_61 p4 p0 p14 p6).1):Zt21_5)),Blk.mem (CV.pure (Ty.pair (Ty.int i64) (Ty.pair (Ty.int u32) Ty.unit)) (((v_61 p4 p0 p14 p6).2.1):Zt21_10)),Blk.mem (CV.int i64 ((v_61 p4 p0 p14 p6).2.2.1)),Blk.fvec 51 (Ty.int u32) p11,Blk.fvec 3 (Ty.int i64) p12,Blk.mem (CV.pure (Ty.pair (Ty.slice (Ty.pair (Ty.int i64) (Ty.pair (Ty.int i64) (Ty.pair (Ty.int i64) (Ty.pair (Ty.int i64) (Ty.pair (Ty.int i64) (Ty.pair (Ty.int i64) (Ty.pair Ty.bool (Ty.pair (Ty.int i64) Ty.unit))))))))) (Ty.pair (Ty.slice (Ty.pair (Ty.int i64) (Ty.pair (Ty.int i64) (Ty.pair (Ty.int i64) (Ty.pair (Ty.int i64) (Ty.pair (Ty.int i64) (Ty.pair (Ty.slice (Ty.int i64)) (Ty.pair (Ty.int i64) Ty.unit)))))))) (Ty.pair (Ty.int i64) (Ty.pair Ty.bool Ty.unit)))) p13),Blk.ghost 2] 10)
 | .e2 p0 p1 p2 p3 p4 p5 p6 p7 p8 p9 p10 p11 p12 p13 p14=>k Ex.normal (sx 46 [(0,CV.yld 9 21 (CV.pair CV.junk (CV.pair CV.junk (CV.pair CV.junk (CV.pair (CV.ptr 0 []) (CV.pair CV.junk (CV.pair (CV.ptr 2 []) (CV.pair (CV.ptr 3 []) (CV.pair (CV.ptr 4 []) (CV.pair (CV.ptr 5 []) (CV.pair CV.junk (CV.pair CV.junk (CV.pair CV.junk (CV.pair CV.junk (CV.pair CV.junk (CV.pair CV.junk (CV.pair CV.junk (CV.pair CV.junk (CV.pair CV.junk (CV.pair CV.junk (CV.pair CV.junk (CV.pair CV.junk (CV.pair CV.junk (CV.pair CV.junk (CV.pair CV.junk (CV.pair CV.junk (CV.pair CV.junk (CV.pair CV.junk (CV.pair CV.junk (CV.pair CV.junk (CV.pair CV.junk (CV.pair CV.junk (CV.pair CV.junk (CV.pair CV.junk (CV.pair CV.junk (CV.pair CV.junk (CV.pair CV.junk (CV.pair CV.junk (CV.pair CV.junk (CV.pair CV.junk (CV.pair CV.junk (CV.pair CV.junk (CV.pair CV.junk (CV.pair CV.junk (CV.pair CV.junk (CV.pair CV.junk (CV.pair CV.junk (CV.pair CV.junk (CV.pair CV.junk (CV.pair CV.junk (CV.pair CV.junk (CV.pair CV.junk (CV.pair CV.junk (CV.pair CV.junk (CV.pair CV.junk (CV.pair CV.junk (CV.pair CV.junk (CV.pair CV.junk (CV.pair CV.junk (CV.pair CV.junk (CV.pair CV.junk (CV.pair CV.junk (CV.pair CV.junk (CV.pair CV.junk (CV.pair CV.junk (CV.pair CV.junk (CV.pair CV.junk (CV.pair CV.junk (CV.pair CV.junk (CV.pure Ty.unit PUnit.unit)))))))))))))))))))))))))))))))))))))))))))))))))))))))))))))))))))))),(1,CV.ptr 8 []),(3,CV.int i64 p0),(5,CV.whole 10),(16,CV.pure (Ty.slice (Ty.pair (Ty.int i64) (Ty.pair (Ty.int i64) (Ty.pair (Ty.int i64) (Ty.pair (Ty.int i64) (Ty.pair (Ty.int i64) (Ty.pair (Ty.slice (Ty.int i64)) (Ty.pair (Ty.int i64) Ty.unit)))))))) p1),(17,CV.int i64 p2),(18,CV.int i64 p3),(40,CV.yld 9 21 (CV.pair CV.junk (CV.pair CV.junk (CV.pair CV.junk (CV.pair (CV.ptr 0 []) (CV.pair CV.junk (CV.pair (CV.ptr 2 []) (CV.pair (CV.ptr 3 []) (CV.pair (CV.ptr 4 []) (CV.pair (CV.ptr 5 []) (CV.pair CV.junk (CV.pair CV.junk (CV.pair CV.junk (CV.pair CV.junk (CV.pair CV.junk (CV.pair CV.junk (CV.pair CV.junk (CV.pair CV.junk (CV.pair CV.junk (CV.pair CV.junk (CV.pair CV.junk (CV.pair CV.junk (CV.pair CV.junk (CV.pair CV.junk (CV.pair CV.junk (CV.pair CV.junk (CV.pair CV.junk (CV.pair CV.junk (CV.pair CV.junk (CV.pair CV.junk (CV.pair CV.junk (CV.pair CV.junk (CV.pair CV.junk (CV.pair CV.junk (CV.pair CV.junk (CV.pair CV.junk (CV.pair CV.junk (CV.pair CV.junk (CV.pair CV.junk (CV.pair CV.junk (CV.pair CV.junk (CV.pair CV.junk (CV.pair CV.junk (CV.pair CV.junk (CV.pair CV.junk (CV.pair CV.junk (CV.pair CV.junk (CV.pair CV.junk (CV.pair CV.junk (CV.pair CV.junk (CV.pair CV.junk (CV.pair CV.junk (CV.pair CV.junk (CV.pair CV.junk (CV.pair CV.junk (CV.pair CV.junk (CV.pair CV.junk (CV.pair CV.junk (CV.pair CV.junk (CV.pair CV.junk (CV.pair CV.junk (CV.pair CV.junk (CV.pair CV.junk (CV.pair CV.junk (CV.pair CV.junk (CV.pair CV.junk (CV.pair CV.junk (CV.pair CV.junk (CV.pair CV.junk (CV.pure Ty.unit PUnit.unit)))))))))))))))))))))))))))))))))))))))))))))))))))))))))))))))))))))),(41,CV.int i64 p0),(42,CV.whole 10),(43,CV.bool true),(44,CV.bool false)] [Blk.mem (CV.pure (Ty.pair (Ty.pair (Ty.slice (Ty.int u32)) (Ty.pair (Ty.slice (Ty.int i64)) (Ty.pair (Ty.int i64) Ty.unit))) (Ty.pair (Ty.int i64) (Ty.pair (Ty.int i64) Ty.unit))) (((v_61 p4 p0 p14 p6).1):Zt21_5)),Blk.mem (CV.pure (Ty.pair (Ty.slice (Ty.pair (Ty.int i64) (Ty.pair (Ty.int i64) (Ty.pair (Ty.int i64) (Ty.pair (Ty.int i64) (Ty.pair (Ty.int i64) (Ty.pair (Ty.int i64) (Ty.pair Ty.bool (Ty.pair (Ty.int i64) Ty.unit))))))))) (Ty.pair (Ty.slice (Ty.pair (Ty.int i64) (Ty.pair (Ty.int i64) (Ty.pair (Ty.int i64) (Ty.pair (Ty.int i64) (Ty.pair (Ty.int i64) (Ty.pair (Ty.slice (Ty.int i64)) (Ty.pair (Ty.int i64) Ty.unit)))))))) (Ty.pair (Ty.int i64) (Ty.pair Ty.bool Ty.unit)))) p5),Blk.mem (CV.pure (Ty.pair (Ty.int i64) (Ty.pair (Ty.int u32) Ty.unit)) (((v_61 p4 p0 p14 p6).2.1):Zt21_10)),Blk.mem (CV.pair (CV.pair (CV.nil 51 (Ty.int u32)) (CV.pair (CV.nil 3 (Ty.int i64)) (CV.pure (Ty.pair (Ty.int i64) Ty.unit) p7))) (CV.pure (Ty.pair (Ty.int i64) (Ty.pair (Ty.int i64) Ty.unit)) p8)),Blk.mem (CV.pure (Ty.pair (Ty.int i64) (Ty.pair (Ty.int u32) Ty.unit)) p9),Blk.mem (CV.int i64 p10),Blk.fvec 51 (Ty.int u32) p11,Blk.fvec 3 (Ty.int i64) p12,Blk.mem (CV.pure (Ty.pair (Ty.slice (Ty.pair (Ty.int i64) (Ty.pair (Ty.int i64) (Ty.pair (Ty.int i64) (Ty.pair (Ty.int i64) (Ty.pair (Ty.int i64) (Ty.pair (Ty.int i64) (Ty.pair Ty.bool (Ty.pair (Ty.int i64) Ty.unit))))))))) (Ty.pair (Ty.slice (Ty.pair (Ty.int i64) (Ty.pair (Ty.int i64) (Ty.pair (Ty.int i64) (Ty.pair (Ty.int i64) (Ty.pair (Ty.int i64) (Ty.pair (Ty.slice (Ty.int i64)) (Ty.pair (Ty.int i64) Ty.unit)))))))) (Ty.pair (Ty.int i64) (Ty.pair Ty.bool Ty.unit)))) p13),Blk.ghost 0,Blk.fvec 51 (Ty.int u32) p14] 10)
noncomputable def Sp.S_21_91_1_1{R:Type}(k:E_21_91_1_1->Option R)(p0:Int)(p1:List (Int×Int×Int×Int×Int×List Int×Int×Unit))(p2 p3:Int)(p4:(List Int×List Int×Int×Unit)×Int×Int×Unit)(p5:List (Int×Int×Int×Int×Int×Int×Bool×Int×Unit)×List (Int×Int×Int×Int×Int×List Int×Int×Unit)×Int×Bool×Unit)(p6:Int×Int×Unit)(p7:Int×Unit)(p8 p9:Int×Int×Unit)(p10:Int)(p11 p12:List Int)(p13:List (Int×Int×Int×Int×Int×Int×Bool×Int×Unit)×List (Int×Int×Int×Int×Int×List Int×Int×Unit)×Int×Bool×Unit)(p14:List Int):Option R:=
 gd (p_60 p4 p0 p14) (bif(v_60 p4 p0 p14).1 then k (E_21_91_1_1.e0 p0 p1 p2 p3 p4 p5 p6 p7 p8 p9 p10 p11 p12 p13 p14)else gd (p_61 p4 p0 p14 p6) (bif(v_61 p4 p0 p14 p6).2.2.1 !=0 then k (E_21_91_1_1.e1 p0 p4 p5 p6 p11 p12 p13 p14)else k (E_21_91_1_1.e2 p0 p1 p2 p3 p4 p5 p6 p7 p8 p9 p10 p11 p12 p13 p14)))
noncomputable def Sp.J_21_91_1_1(p0:Int)(p1:List (Int×Int×Int×Int×Int×List Int×Int×Unit))(p2 p3:Int)(p4:(List Int×List Int×Int×Unit)×Int×Int×Unit)(p5:List (Int×Int×Int×Int×Int×Int×Bool×Int×Unit)×List (Int×Int×Int×Int×Int×List Int×Int×Unit)×Int×Bool×Unit)(p6:Int×Int×Unit)(p7:Int×Unit)(p8 p9:Int×Int×Unit)(p10:Int)(p11 p12:List Int)(p13:List (Int×Int×Int×Int×Int×Int×Bool×Int×Unit)×List (Int×Int×Int×Int×Int×List Int×Int×Unit)×Int×Bool×Unit)(p14:List Int):Option E_21_91_1_1:=S_21_91_1_1 some p0 p1 p2 p3 p4 p5 p6 p7 p8 p9 p10 p11 p12 p13 p14
noncomputable def O_21_91_1_1{R:Type}:Orc R:=orL T_21_91_1_1 (fun a=>J_21_91_1_1 a.1 a.2.1 a.2.2.1 a.2.2.2.1 a.2.2.2.2.1 a.2.2.2.2.2.1 a.2.2.2.2.2.2.1 a.2.2.2.2.2.2.2.1 a.2.2.2.2.2.2.2.2.1 a.2.2.2.2.2.2.2.2.2.1 a.2.2.2.2.2.2.2.2.2.2.1 a.2.2.2.2.2.2.2.2.2.2.2.1 a.2.2.2.2.2.2.2.2.2.2.2.2.1 a.2.2.2.2.2.2.2.2.2.2.2.2.2.1 a.2.2.2.2.2.2.2.2.2.2.2.2.2.2.1) Y_21_91_1_1 O_21_91_1_0
theorem OK_21_91_1_1{R:Type}:okF (R:=R) sm_21 3 (ni (nf 91 0) 0) O_21_91_1_1:=jp noO_ok (os:=[]) trivial T_21_91_1_1 (fun R k a=>S_21_91_1_1 k a.1 a.2.1 a.2.2.1 a.2.2.2.1 a.2.2.2.2.1 a.2.2.2.2.2.1 a.2.2.2.2.2.2.1 a.2.2.2.2.2.2.2.1 a.2.2.2.2.2.2.2.2.1 a.2.2.2.2.2.2.2.2.2.1 a.2.2.2.2.2.2.2.2.2.2.1 a.2.2.2.2.2.2.2.2.2.2.2.1 a.2.2.2.2.2.2.2.2.2.2.2.2.1 a.2.2.2.2.2.2.2.2.2.2.2.2.2.1 a.2.2.2.2.2.2.2.2.2.2.2.2.2.2.1) Y_21_91_1_1 (fun k a=>by kernel_rfl) (fun Y a=>by
 unfold S_21_91_1_1
 repeat' first|apply gdN|apply condN|rfl) OK_21_91_1_0
noncomputable def T_21_91_0_1:PS:=⟨46,[(0,.yl 9 21 (.kc (.pair .junk (.pair .junk (.pair .junk (.pair (.ptr 0 []) (.pair .junk (.pair (.ptr 2 []) (.pair (.ptr 3 []) (.pair (.ptr 4 []) (.pair (.ptr 5 []) (.pair .junk (.pair .junk (.pair .junk (.pair .junk (.pair .junk (.pair .junk (.pair .junk (.pair .junk (.pair .junk (.pair .junk (.pair .junk (.pair .junk (.pair .junk (.pair .junk (.pair .junk (.pair .junk (.pair .junk (.pair .junk (.pair .junk (.pair .junk (.pair .junk (.pair .junk (.pair .junk (.pair .junk (.pair .junk (.pair .junk (.pair .junk (.pair .junk (.pair .junk (.pair .junk (.pair .junk (.pair .junk (.pair .junk (.pair .junk (.pair .junk (.pair .junk (.pair .junk (.pair .junk (.pair .junk (.pair .junk (.pair .junk (.pair .junk (.pair .junk (.pair .junk (.pair .junk (.pair .junk (.pair .junk (.pair .junk (.pair .junk (.pair .junk (.pair .junk (.pair .junk (.pair .junk (.pair .junk (.pair .junk (.pair .junk (.pair .junk (.pair .junk (.pair .junk (.pure .unit PUnit.unit))))))))))))))))))))))))))))))))))))))))))))))))))))))))))))))))))))))),(1,.kc (.ptr 8 [])),(16,.hv Zy21_6),(17,.hv (.int .i64)),(18,.hv (.int .i64))],[.mem (.hv Zy21_8),.mem (.hv Zy21_1),.mem (.hv Zy21_7),.mem (.pr (.pr (.kc (.nil 51 (.int .u32))) (.pr (.kc (.nil 3 (.int .i64))) (.hv (.pair (.int .i64) .unit)))) (.hv Zy21_9)),.mem (.hv Zy21_7),.mem (.hv (.int .i64)),.fvec 51 (.int .u32),.fvec 3 (.int .i64),.mem (.hv Zy21_1),.gh 0],10⟩
inductive Sp.E_21_91_0_1 where
 |e0 (y91:Int) (y92:Zt21_3) (y93:Zt21_0) (y94:Zt21_2) (y95 y96:List Int) (y97:Zt21_0) (y98:List Int)
 |e1 (p3:Zt21_3) (p4:Zt21_0) (p5:Zt21_2) (p6:Int×Unit) (p7 p8:Zt21_2) (p9:Int) (p10 p11:List Int) (p12:Zt21_0)
noncomputable def Sp.B_21_91_0_1{R:Type}(r:Option E_21_91_0_1)(k0:Int->Zt21_3->Zt21_0->Zt21_2->List Int->List Int->Zt21_0->List Int->Option R)(k1:Zt21_3->Zt21_0->Zt21_2->(Int×Unit)->Zt21_2->Zt21_2->Int->List Int->List Int->Zt21_0->Option R):Option R:=match r with
 |none=>none
 |some (.e0 y91 y92 y93 y94 y95 y96 y97 y98)=>k0 y91 y92 y93 y94 y95 y96 y97 y98
 |some (.e1 p3 p4 p5 p6 p7 p8 p9 p10 p11 p12)=>k1 p3 p4 p5 p6 p7 p8 p9 p10 p11 p12
noncomputable def Y_21_91_0_1{R:Type}(k:Ex->St->Option R):E_21_91_0_1->Option R
 | .e0 y91 y92 y93 y94 y95 y96 y97 y98=>k Ex.ret (sx 46 [] [Blk.mem (CV.pure (Ty.pair (Ty.pair (Ty.slice (Ty.int u32)) (Ty.pair (Ty.slice (Ty.int i64)) (Ty.pair (Ty.int i64) Ty.unit))) (Ty.pair (Ty.int i64) (Ty.pair (Ty.int i64) Ty.unit))) (((v_61 y92 y91 y98 y94).1):Zt21_5)),Blk.mem (CV.pure (Ty.pair (Ty.slice (Ty.pair (Ty.int i64) (Ty.pair (Ty.int i64) (Ty.pair (Ty.int i64) (Ty.pair (Ty.int i64) (Ty.pair (Ty.int i64) (Ty.pair (Ty.int i64) (Ty.pair Ty.bool (Ty.pair (Ty.int i64) Ty.unit))))))))) (Ty.pair (Ty.slice (Ty.pair (Ty.int i64) (Ty.pair (Ty.int i64) (Ty.pair (Ty.int i64) (Ty.pair (Ty.int i64) (Ty.pair (Ty.int i64) (Ty.pair (Ty.slice (Ty.int i64)) (Ty.pair (Ty.int i64) Ty.unit)))))))) (Ty.pair (Ty.int i64) (Ty.pair Ty.bool Ty.unit)))) y93),Blk.mem (CV.pure (Ty.pair (Ty.int i64) (Ty.pair (Ty.int u32) Ty.unit)) (((v_61 y92 y91 y98 y94).2.1):Zt21_10)),Blk.mem (CV.pure (Ty.pair (Ty.pair (Ty.slice (Ty.int u32)) (Ty.pair (Ty.slice (Ty.int i64)) (Ty.pair (Ty.int i64) Ty.unit))) (Ty.pair (Ty.int i64) (Ty.pair (Ty.int i64) Ty.unit))) (((v_61 y92 y91 y98 y94).1):Zt21_5)),Blk.mem (CV.pure (Ty.pair (Ty.int i64) (Ty.pair (Ty.int u32) Ty.unit)) (((v_61 y92 y91 y98 y94).2.1):Zt21_10)),Blk.mem (CV.int i64 ((v_61 y92 y91 y98 y94).2.2.1)),Blk.fvec 51 (Ty.int u32) y95,Blk.fvec 3 (Ty.int i64) y96,Blk.mem (CV.pure (Ty.pair (Ty.slice (Ty.pair (Ty.int i64) (Ty.pair (Ty.int i64) (Ty.pair (Ty.int i64) (Ty.pair (Ty.int i64) (Ty.pair (Ty.int i64) (Ty.pair (Ty.int i64) (Ty.pair Ty.bool (Ty.pair (Ty.int i64) Ty.unit))))))))) (Ty.pair (Ty.slice (Ty.pair (Ty.int i64) (Ty.pair (Ty.int i64) (Ty.pair (Ty.int i64) (Ty.pair (Ty.int i64) (Ty.pair (Ty.int i64) (Ty.pair (Ty.slice (Ty.int i64)) (Ty.pair (Ty.int i64) Ty.unit)))))))) (Ty.pair (Ty.int i64) (Ty.pair Ty.bool Ty.unit)))) y97),Blk.ghost 2] 10)
 | .e1 p3 p4 p5 p6 p7 p8 p9 p10 p11 p12=>k (Ex.exit 0) (sx 46 [] [Blk.mem (CV.pure (Ty.pair (Ty.pair (Ty.slice (Ty.int u32)) (Ty.pair (Ty.slice (Ty.int i64)) (Ty.pair (Ty.int i64) Ty.unit))) (Ty.pair (Ty.int i64) (Ty.pair (Ty.int i64) Ty.unit))) p3),Blk.mem (CV.pure (Ty.pair (Ty.slice (Ty.pair (Ty.int i64) (Ty.pair (Ty.int i64) (Ty.pair (Ty.int i64) (Ty.pair (Ty.int i64) (Ty.pair (Ty.int i64) (Ty.pair (Ty.int i64) (Ty.pair Ty.bool (Ty.pair (Ty.int i64) Ty.unit))))))))) (Ty.pair (Ty.slice (Ty.pair (Ty.int i64) (Ty.pair (Ty.int i64) (Ty.pair (Ty.int i64) (Ty.pair (Ty.int i64) (Ty.pair (Ty.int i64) (Ty.pair (Ty.slice (Ty.int i64)) (Ty.pair (Ty.int i64) Ty.unit)))))))) (Ty.pair (Ty.int i64) (Ty.pair Ty.bool Ty.unit)))) p4),Blk.mem (CV.pure (Ty.pair (Ty.int i64) (Ty.pair (Ty.int u32) Ty.unit)) p5),Blk.mem (CV.pair (CV.pair (CV.nil 51 (Ty.int u32)) (CV.pair (CV.nil 3 (Ty.int i64)) (CV.pure (Ty.pair (Ty.int i64) Ty.unit) p6))) (CV.pure (Ty.pair (Ty.int i64) (Ty.pair (Ty.int i64) Ty.unit)) p7)),Blk.mem (CV.pure (Ty.pair (Ty.int i64) (Ty.pair (Ty.int u32) Ty.unit)) p8),Blk.mem (CV.int i64 p9),Blk.fvec 51 (Ty.int u32) p10,Blk.fvec 3 (Ty.int i64) p11,Blk.mem (CV.pure (Ty.pair (Ty.slice (Ty.pair (Ty.int i64) (Ty.pair (Ty.int i64) (Ty.pair (Ty.int i64) (Ty.pair (Ty.int i64) (Ty.pair (Ty.int i64) (Ty.pair (Ty.int i64) (Ty.pair Ty.bool (Ty.pair (Ty.int i64) Ty.unit))))))))) (Ty.pair (Ty.slice (Ty.pair (Ty.int i64) (Ty.pair (Ty.int i64) (Ty.pair (Ty.int i64) (Ty.pair (Ty.int i64) (Ty.pair (Ty.int i64) (Ty.pair (Ty.slice (Ty.int i64)) (Ty.pair (Ty.int i64) Ty.unit)))))))) (Ty.pair (Ty.int i64) (Ty.pair Ty.bool Ty.unit)))) p12),Blk.ghost 0] 10)
noncomputable def Sp.S_21_91_0_1{R:Type}(K:(List (Int×Int×Int×Int×Int×List Int×Int×Unit))->Int->Int->((List Int×List Int×Int×Unit)×Int×Int×Unit)->(List (Int×Int×Int×Int×Int×Int×Bool×Int×Unit)×List (Int×Int×Int×Int×Int×List Int×Int×Unit)×Int×Bool×Unit)->(Int×Int×Unit)->(Int×Unit)->(Int×Int×Unit)->(Int×Int×Unit)->Int->List Int->List Int->(List (Int×Int×Int×Int×Int×Int×Bool×Int×Unit)×List (Int×Int×Int×Int×Int×List Int×Int×Unit)×Int×Bool×Unit)->Option R)(k:E_21_91_0_1->Option R)(p0:List (Int×Int×Int×Int×Int×List Int×Int×Unit))(p1 p2:Int)(p3:(List Int×List Int×Int×Unit)×Int×Int×Unit)(p4:List (Int×Int×Int×Int×Int×Int×Bool×Int×Unit)×List (Int×Int×Int×Int×Int×List Int×Int×Unit)×Int×Bool×Unit)(p5:Int×Int×Unit)(p6:Int×Unit)(p7 p8:Int×Int×Unit)(p9:Int)(p10 p11:List Int)(p12:List (Int×Int×Int×Int×Int×Int×Bool×Int×Unit)×List (Int×Int×Int×Int×Int×List Int×Int×Unit)×Int×Bool×Unit):Option R:=
 bif decide (p2<p1)then gd (inB p2 (length p0)) (gd (p_43 (getD p0 (toNat p2) Zd0)) (bif(v_43 (getD p0 (toNat p2) Zd0)).1 then gd (p_34 (getD p0 (toNat p2) Zd0)) (gd (inB p2 (length (p12.1))) (gd (room (1+length ((v_34 (getD p0 (toNat p2) Zd0)).1)) 4) (B_21_91_1_1 (J_21_91_1_1 p2 p0 p1 p2 p3 p4 p5 p6 p7 p8 p9 p10 p11 p12 ([wrap u32 ((getD (p12.1) (toNat p2) Zd1).1)]++(v_34 (getD p0 (toNat p2) Zd0)).1)) (fun y76 y77 y78 y79 y80 y81 y82 y83 y84 y85 y86 y87 y88 y89 y90=>K y77 y78 (wrap i64 (y79+1)) y80 y81 y82 y83 y84 y85 y86 y87 y88 y89) (fun y91 y92 y93 y94 y95 y96 y97 y98=>k (E_21_91_0_1.e0 y91 y92 y93 y94 y95 y96 y97 y98)) fun y99 y100 y101 y102 y103 y104 y105 y106 y107 y108 y109 y110 y111 y112 y113=>K y100 y101 (wrap i64 (y102+1)) ((v_61 y103 y99 y113 y105).1) y104 ((v_61 y103 y99 y113 y105).2.1) y106 y107 y108 y109 y110 y111 y112)))else B_21_91_1_1 (J_21_91_1_1 p2 p0 p1 p2 p3 p4 p5 p6 p7 p8 p9 p10 p11 p12 []) (fun y114 y115 y116 y117 y118 y119 y120 y121 y122 y123 y124 y125 y126 y127 y128=>K y115 y116 (wrap i64 (y117+1)) y118 y119 y120 y121 y122 y123 y124 y125 y126 y127) (fun y129 y130 y131 y132 y133 y134 y135 y136=>k (E_21_91_0_1.e0 y129 y130 y131 y132 y133 y134 y135 y136)) fun y137 y138 y139 y140 y141 y142 y143 y144 y145 y146 y147 y148 y149 y150 y151=>K y138 y139 (wrap i64 (y140+1)) ((v_61 y141 y137 y151 y143).1) y142 ((v_61 y141 y137 y151 y143).2.1) y144 y145 y146 y147 y148 y149 y150))else k (E_21_91_0_1.e1 p3 p4 p5 p6 p7 p8 p9 p10 p11 p12)
noncomputable def Sp.L_21_91_0_1:Nat->(List (Int×Int×Int×Int×Int×List Int×Int×Unit))->Int->Int->((List Int×List Int×Int×Unit)×Int×Int×Unit)->(List (Int×Int×Int×Int×Int×Int×Bool×Int×Unit)×List (Int×Int×Int×Int×Int×List Int×Int×Unit)×Int×Bool×Unit)->(Int×Int×Unit)->(Int×Unit)->(Int×Int×Unit)->(Int×Int×Unit)->Int->List Int->List Int->(List (Int×Int×Int×Int×Int×Int×Bool×Int×Unit)×List (Int×Int×Int×Int×Int×List Int×Int×Unit)×Int×Bool×Unit)->Option E_21_91_0_1
 |0,_,_,_,_,_,_,_,_,_,_,_,_,_=>none
 |m+1,p0,p1,p2,p3,p4,p5,p6,p7,p8,p9,p10,p11,p12=>S_21_91_0_1 (L_21_91_0_1 m) some p0 p1 p2 p3 p4 p5 p6 p7 p8 p9 p10 p11 p12
noncomputable def l_21_91_0_1(m:Nat)(a:T_21_91_0_1.E):Option E_21_91_0_1:=L_21_91_0_1 m a.1 a.2.1 a.2.2.1 a.2.2.2.1 a.2.2.2.2.1 a.2.2.2.2.2.1 a.2.2.2.2.2.2.1 a.2.2.2.2.2.2.2.1 a.2.2.2.2.2.2.2.2.1 a.2.2.2.2.2.2.2.2.2.1 a.2.2.2.2.2.2.2.2.2.2.1 a.2.2.2.2.2.2.2.2.2.2.2.1 a.2.2.2.2.2.2.2.2.2.2.2.2.1
noncomputable def O_21_91_0_1{R:Type}:Orc R:=orL T_21_91_0_1 (l_21_91_0_1 FU) Y_21_91_0_1
theorem loop_21_91_0_1{R:Type}(k:Ex->St->Option R):∀m a,evLoopN (evCodeL sm_21 FU (ovr noO (evFn sm_21 fns FU 3)) (mkT (inner (nf 91 0)) [O_21_91_1_1]) (inner (nf 91 0))) (St.norm (lv (nf 91 0))) m (T_21_91_0_1.inst a) k=(l_21_91_0_1 m a).bind (Y_21_91_0_1 k):=lpN l_21_91_0_1 (fun R K k a=>S_21_91_0_1 (fun p0 p1 p2 p3 p4 p5 p6 p7 p8 p9 p10 p11 p12=>K (p0,p1,p2,p3,p4,p5,p6,p7,p8,p9,p10,p11,p12,())) k a.1 a.2.1 a.2.2.1 a.2.2.2.1 a.2.2.2.2.1 a.2.2.2.2.2.1 a.2.2.2.2.2.2.1 a.2.2.2.2.2.2.2.1 a.2.2.2.2.2.2.2.2.1 a.2.2.2.2.2.2.2.2.2.1 a.2.2.2.2.2.2.2.2.2.2.1 a.2.2.2.2.2.2.2.2.2.2.2.1 a.2.2.2.2.2.2.2.2.2.2.2.2.1) (fun _=>rfl) (fun _ _=>rfl) (fun K a=>by kernel_rfl) (fun K a=>by
 unfold S_21_91_0_1
 repeat' first|apply gdN|apply condN|(apply Bn_21_91_1_1<;>intros)|rfl)
theorem OK_21_91_0_1{R:Type}:okF (R:=R) sm_21 3 (nf 91 0) O_21_91_0_1:=lp noO_ok (os:=[O_21_91_1_1]) ⟨OK_21_91_1_1,trivial⟩ T_21_91_0_1 l_21_91_0_1 (fun R K k a=>S_21_91_0_1 (fun p0 p1 p2 p3 p4 p5 p6 p7 p8 p9 p10 p11 p12=>K (p0,p1,p2,p3,p4,p5,p6,p7,p8,p9,p10,p11,p12,())) k a.1 a.2.1 a.2.2.1 a.2.2.2.1 a.2.2.2.2.1 a.2.2.2.2.2.1 a.2.2.2.2.2.2.1 a.2.2.2.2.2.2.2.1 a.2.2.2.2.2.2.2.2.1 a.2.2.2.2.2.2.2.2.2.1 a.2.2.2.2.2.2.2.2.2.2.1 a.2.2.2.2.2.2.2.2.2.2.2.1 a.2.2.2.2.2.2.2.2.2.2.2.2.1) Y_21_91_0_1 (fun _=>rfl) (fun _ _=>rfl) (fun k K a=>by kernel_rfl) (fun Y K a=>by
 unfold S_21_91_0_1
 repeat' first|apply gdN|apply condN|(apply Bn_21_91_1_1<;>intros)|rfl) (ok0 _)
noncomputable def T_21_91_0_0:PS:=⟨46,[(0,.yl 9 21 (.kc (.pair .junk (.pair .junk (.pair .junk (.pair (.ptr 0 []) (.pair .junk (.pair (.ptr 2 []) (.pair (.ptr 3 []) (.pair (.ptr 4 []) (.pair (.ptr 5 []) (.pair .junk (.pair .junk (.pair .junk (.pair .junk (.pair .junk (.pair .junk (.pair .junk (.pair .junk (.pair .junk (.pair .junk (.pair .junk (.pair .junk (.pair .junk (.pair .junk (.pair .junk (.pair .junk (.pair .junk (.pair .junk (.pair .junk (.pair .junk (.pair .junk (.pair .junk (.pair .junk (.pair .junk (.pair .junk (.pair .junk (.pair .junk (.pair .junk (.pair .junk (.pair .junk (.pair .junk (.pair .junk (.pair .junk (.pair .junk (.pair .junk (.pair .junk (.pair .junk (.pair .junk (.pair .junk (.pair .junk (.pair .junk (.pair .junk (.pair .junk (.pair .junk (.pair .junk (.pair .junk (.pair .junk (.pair .junk (.pair .junk (.pair .junk (.pair .junk (.pair .junk (.pair .junk (.pair .junk (.pair .junk (.pair .junk (.pair .junk (.pair .junk (.pair .junk (.pure .unit PUnit.unit))))))))))))))))))))))))))))))))))))))))))))))))))))))))))))))))))))))),(1,.kc (.ptr 8 [])),(16,.hv Zy21_6),(17,.hv (.int .i64)),(18,.hv (.int .i64))],[.mem (.pr (.pr (.kc (.whole 6)) (.pr (.kc (.whole 7)) (.hv (.pair (.int .i64) .unit)))) (.hv Zy21_9)),.mem (.hv Zy21_1),.mem (.hv Zy21_7),.mem (.pr (.pr (.kc (.nil 51 (.int .u32))) (.pr (.kc (.nil 3 (.int .i64))) (.hv (.pair (.int .i64) .unit)))) (.hv Zy21_9)),.mem (.hv Zy21_7),.mem (.hv (.int .i64)),.vec 51 (.int .u32),.vec 3 (.int .i64),.mem (.hv Zy21_1),.gh 0],10⟩
inductive Sp.E_21_91_0_0 where
 |e0 (y98:Int) (y99:Int×Unit) (y100:Zt21_2) (y101:Zt21_0) (y102:Zt21_2) (y103 y104:List Int) (y105:Zt21_0) (y106:List Int)
 |e1 (p3:Int×Unit) (p4:Zt21_2) (p5:Zt21_0) (p6:Zt21_2) (p7:Int×Unit) (p8 p9:Zt21_2) (p10:Int) (p11 p12:List Int) (p13:Zt21_0)
 |e2 (y91:Int) (y92:Zt21_3) (y93:Zt21_0) (y94:Zt21_2) (y95 y96:List Int) (y97:Zt21_0) (y98:List Int)
 |e3 (p3:Zt21_3) (p4:Zt21_0) (p5:Zt21_2) (p6:Int×Unit) (p7 p8:Zt21_2) (p9:Int) (p10 p11:List Int) (p12:Zt21_0)
noncomputable def Sp.B_21_91_0_0{R:Type}(r:Option E_21_91_0_0)(k0:Int->(Int×Unit)->Zt21_2->Zt21_0->Zt21_2->List Int->List Int->Zt21_0->List Int->Option R)(k1:(Int×Unit)->Zt21_2->Zt21_0->Zt21_2->(Int×Unit)->Zt21_2->Zt21_2->Int->List Int->List Int->Zt21_0->Option R)(k2:Int->Zt21_3->Zt21_0->Zt21_2->List Int->List Int->Zt21_0->List Int->Option R)(k3:Zt21_3->Zt21_0->Zt21_2->(Int×Unit)->Zt21_2->Zt21_2->Int->List Int->List Int->Zt21_0->Option R):Option R:=match r with
 |none=>none
 |some (.e0 y98 y99 y100 y101 y102 y103 y104 y105 y106)=>k0 y98 y99 y100 y101 y102 y103 y104 y105 y106
 |some (.e1 p3 p4 p5 p6 p7 p8 p9 p10 p11 p12 p13)=>k1 p3 p4 p5 p6 p7 p8 p9 p10 p11 p12 p13
 |some (.e2 y91 y92 y93 y94 y95 y96 y97 y98)=>k2 y91 y92 y93 y94 y95 y96 y97 y98
 |some (.e3 p3 p4 p5 p6 p7 p8 p9 p10 p11 p12)=>k3 p3 p4 p5 p6 p7 p8 p9 p10 p11 p12
noncomputable def Y_21_91_0_0{R:Type}(k:Ex->St->Option R):E_21_91_0_0->Option R
 | .e0 y98 y99 y100 y101 y102 y103 y104 y105 y106=>k Ex.ret (sx 46 [] [Blk.mem (CV.pure (Ty.pair (Ty.pair (Ty.slice (Ty.int u32)) (Ty.pair (Ty.slice (Ty.int i64)) (Ty.pair (Ty.int i64) Ty.unit))) (Ty.pair (Ty.int i64) (Ty.pair (Ty.int i64) Ty.unit))) (((v_61 ((y103,y104,y99),y100) y98 y106 y102).1):Zt21_5)),Blk.mem (CV.pure (Ty.pair (Ty.slice (Ty.pair (Ty.int i64) (Ty.pair (Ty.int i64) (Ty.pair (Ty.int i64) (Ty.pair (Ty.int i64) (Ty.pair (Ty.int i64) (Ty.pair (Ty.int i64) (Ty.pair Ty.bool (Ty.pair (Ty.int i64) Ty.unit))))))))) (Ty.pair (Ty.slice (Ty.pair (Ty.int i64) (Ty.pair (Ty.int i64) (Ty.pair (Ty.int i64) (Ty.pair (Ty.int i64) (Ty.pair (Ty.int i64) (Ty.pair (Ty.slice (Ty.int i64)) (Ty.pair (Ty.int i64) Ty.unit)))))))) (Ty.pair (Ty.int i64) (Ty.pair Ty.bool Ty.unit)))) y101),Blk.mem (CV.pure (Ty.pair (Ty.int i64) (Ty.pair (Ty.int u32) Ty.unit)) (((v_61 ((y103,y104,y99),y100) y98 y106 y102).2.1):Zt21_10)),Blk.mem (CV.pure (Ty.pair (Ty.pair (Ty.slice (Ty.int u32)) (Ty.pair (Ty.slice (Ty.int i64)) (Ty.pair (Ty.int i64) Ty.unit))) (Ty.pair (Ty.int i64) (Ty.pair (Ty.int i64) Ty.unit))) (((v_61 ((y103,y104,y99),y100) y98 y106 y102).1):Zt21_5)),Blk.mem (CV.pure (Ty.pair (Ty.int i64) (Ty.pair (Ty.int u32) Ty.unit)) (((v_61 ((y103,y104,y99),y100) y98 y106 y102).2.1):Zt21_10)),Blk.mem (CV.int i64 ((v_61 ((y103,y104,y99),y100) y98 y106 y102).2.2.1)),Blk.fvec 51 (Ty.int u32) y103,Blk.fvec 3 (Ty.int i64) y104,Blk.mem (CV.pure (Ty.pair (Ty.slice (Ty.pair (Ty.int i64) (Ty.pair (Ty.int i64) (Ty.pair (Ty.int i64) (Ty.pair (Ty.int i64) (Ty.pair (Ty.int i64) (Ty.pair (Ty.int i64) (Ty.pair Ty.bool (Ty.pair (Ty.int i64) Ty.unit))))))))) (Ty.pair (Ty.slice (Ty.pair (Ty.int i64) (Ty.pair (Ty.int i64) (Ty.pair (Ty.int i64) (Ty.pair (Ty.int i64) (Ty.pair (Ty.int i64) (Ty.pair (Ty.slice (Ty.int i64)) (Ty.pair (Ty.int i64) Ty.unit)))))))) (Ty.pair (Ty.int i64) (Ty.pair Ty.bool Ty.unit)))) y105),Blk.ghost 2] 10)
 | .e1 p3 p4 p5 p6 p7 p8 p9 p10 p11 p12 p13=>k (Ex.exit 0) (sx 46 [] [Blk.mem (CV.pair (CV.pair (CV.whole 6) (CV.pair (CV.whole 7) (CV.pure (Ty.pair (Ty.int i64) Ty.unit) p3))) (CV.pure (Ty.pair (Ty.int i64) (Ty.pair (Ty.int i64) Ty.unit)) p4)),Blk.mem (CV.pure (Ty.pair (Ty.slice (Ty.pair (Ty.int i64) (Ty.pair (Ty.int i64) (Ty.pair (Ty.int i64) (Ty.pair (Ty.int i64) (Ty.pair (Ty.int i64) (Ty.pair (Ty.int i64) (Ty.pair Ty.bool (Ty.pair (Ty.int i64) Ty.unit))))))))) (Ty.pair (Ty.slice (Ty.pair (Ty.int i64) (Ty.pair (Ty.int i64) (Ty.pair (Ty.int i64) (Ty.pair (Ty.int i64) (Ty.pair (Ty.int i64) (Ty.pair (Ty.slice (Ty.int i64)) (Ty.pair (Ty.int i64) Ty.unit)))))))) (Ty.pair (Ty.int i64) (Ty.pair Ty.bool Ty.unit)))) p5),Blk.mem (CV.pure (Ty.pair (Ty.int i64) (Ty.pair (Ty.int u32) Ty.unit)) p6),Blk.mem (CV.pair (CV.pair (CV.nil 51 (Ty.int u32)) (CV.pair (CV.nil 3 (Ty.int i64)) (CV.pure (Ty.pair (Ty.int i64) Ty.unit) p7))) (CV.pure (Ty.pair (Ty.int i64) (Ty.pair (Ty.int i64) Ty.unit)) p8)),Blk.mem (CV.pure (Ty.pair (Ty.int i64) (Ty.pair (Ty.int u32) Ty.unit)) p9),Blk.mem (CV.int i64 p10),Blk.vec 51 (Ty.int u32) p11,Blk.vec 3 (Ty.int i64) p12,Blk.mem (CV.pure (Ty.pair (Ty.slice (Ty.pair (Ty.int i64) (Ty.pair (Ty.int i64) (Ty.pair (Ty.int i64) (Ty.pair (Ty.int i64) (Ty.pair (Ty.int i64) (Ty.pair (Ty.int i64) (Ty.pair Ty.bool (Ty.pair (Ty.int i64) Ty.unit))))))))) (Ty.pair (Ty.slice (Ty.pair (Ty.int i64) (Ty.pair (Ty.int i64) (Ty.pair (Ty.int i64) (Ty.pair (Ty.int i64) (Ty.pair (Ty.int i64) (Ty.pair (Ty.slice (Ty.int i64)) (Ty.pair (Ty.int i64) Ty.unit)))))))) (Ty.pair (Ty.int i64) (Ty.pair Ty.bool Ty.unit)))) p13),Blk.ghost 0] 10)
 | .e2 y91 y92 y93 y94 y95 y96 y97 y98=>k Ex.ret (sx 46 [] [Blk.mem (CV.pure (Ty.pair (Ty.pair (Ty.slice (Ty.int u32)) (Ty.pair (Ty.slice (Ty.int i64)) (Ty.pair (Ty.int i64) Ty.unit))) (Ty.pair (Ty.int i64) (Ty.pair (Ty.int i64) Ty.unit))) (((v_61 y92 y91 y98 y94).1):Zt21_5)),Blk.mem (CV.pure (Ty.pair (Ty.slice (Ty.pair (Ty.int i64) (Ty.pair (Ty.int i64) (Ty.pair (Ty.int i64) (Ty.pair (Ty.int i64) (Ty.pair (Ty.int i64) (Ty.pair (Ty.int i64) (Ty.pair Ty.bool (Ty.pair (Ty.int i64) Ty.unit))))))))) (Ty.pair (Ty.slice (Ty.pair (Ty.int i64) (Ty.pair (Ty.int i64) (Ty.pair (Ty.int i64) (Ty.pair (Ty.int i64) (Ty.pair (Ty.int i64) (Ty.pair (Ty.slice (Ty.int i64)) (Ty.pair (Ty.int i64) Ty.unit)))))))) (Ty.pair (Ty.int i64) (Ty.pair Ty.bool Ty.unit)))) y93),Blk.mem (CV.pure (Ty.pair (Ty.int i64) (Ty.pair (Ty.int u32) Ty.unit)) (((v_61 y92 y91 y98 y94).2.1):Zt21_10)),Blk.mem (CV.pure (Ty.pair (Ty.pair (Ty.slice (Ty.int u32)) (Ty.pair (Ty.slice (Ty.int i64)) (Ty.pair (Ty.int i64) Ty.unit))) (Ty.pair (Ty.int i64) (Ty.pair (Ty.int i64) Ty.unit))) (((v_61 y92 y91 y98 y94).1):Zt21_5)),Blk.mem (CV.pure (Ty.pair (Ty.int i64) (Ty.pair (Ty.int u32) Ty.unit)) (((v_61 y92 y91 y98 y94).2.1):Zt21_10)),Blk.mem (CV.int i64 ((v_61 y92 y91 y98 y94).2.2.1)),Blk.fvec 51 (Ty.int u32) y95,Blk.fvec 3 (Ty.int i64) y96,Blk.mem (CV.pure (Ty.pair (Ty.slice (Ty.pair (Ty.int i64) (Ty.pair (Ty.int i64) (Ty.pair (Ty.int i64) (Ty.pair (Ty.int i64) (Ty.pair (Ty.int i64) (Ty.pair (Ty.int i64) (Ty.pair Ty.bool (Ty.pair (Ty.int i64) Ty.unit))))))))) (Ty.pair (Ty.slice (Ty.pair (Ty.int i64) (Ty.pair (Ty.int i64) (Ty.pair (Ty.int i64) (Ty.pair (Ty.int i64) (Ty.pair (Ty.int i64) (Ty.pair (Ty.slice (Ty.int i64)) (Ty.pair (Ty.int i64) Ty.unit)))))))) (Ty.pair (Ty.int i64) (Ty.pair Ty.bool Ty.unit)))) y97),Blk.ghost 2] 10)
 | .e3 p3 p4 p5 p6 p7 p8 p9 p10 p11 p12=>k (Ex.exit 0) (sx 46 [] [Blk.mem (CV.pure (Ty.pair (Ty.pair (Ty.slice (Ty.int u32)) (Ty.pair (Ty.slice (Ty.int i64)) (Ty.pair (Ty.int i64) Ty.unit))) (Ty.pair (Ty.int i64) (Ty.pair (Ty.int i64) Ty.unit))) p3),Blk.mem (CV.pure (Ty.pair (Ty.slice (Ty.pair (Ty.int i64) (Ty.pair (Ty.int i64) (Ty.pair (Ty.int i64) (Ty.pair (Ty.int i64) (Ty.pair (Ty.int i64) (Ty.pair (Ty.int i64) (Ty.pair Ty.bool (Ty.pair (Ty.int i64) Ty.unit))))))))) (Ty.pair (Ty.slice (Ty.pair (Ty.int i64) (Ty.pair (Ty.int i64) (Ty.pair (Ty.int i64) (Ty.pair (Ty.int i64) (Ty.pair (Ty.int i64) (Ty.pair (Ty.slice (Ty.int i64)) (Ty.pair (Ty.int i64) Ty.unit)))))))) (Ty.pair (Ty.int i64) (Ty.pair Ty.bool Ty.unit)))) p4),Blk.mem (CV.pure (Ty.pair (Ty.int i64) (Ty.pair (Ty.int u32) Ty.unit)) p5),Blk.mem (CV.pair (CV.pair (CV.nil 51 (Ty.int u32)) (CV.pair (CV.nil 3 (Ty.int i64)) (CV.pure (Ty.pair (Ty.int i64) Ty.unit) p6))) (CV.pure (Ty.pair (Ty.int i64) (Ty.pair (Ty.int i64) Ty.unit)) p7)),Blk.mem (CV.pure (Ty.pair (Ty.int i64) (Ty.pair (Ty.int u32) Ty.unit)) p8),Blk.mem (CV.int i64 p9),Blk.fvec 51 (Ty.int u32) p10,Blk.fvec 3 (Ty.int i64) p11,Blk.mem (CV.pure (Ty.pair (Ty.slice (Ty.pair (Ty.int i64) (Ty.pair (Ty.int i64) (Ty.pair (Ty.int i64) (Ty.pair (Ty.int i64) (Ty.pair (Ty.int i64) (Ty.pair (Ty.int i64) (Ty.pair Ty.bool (Ty.pair (Ty.int i64) Ty.unit))))))))) (Ty.pair (Ty.slice (Ty.pair (Ty.int i64) (Ty.pair (Ty.int i64) (Ty.pair (Ty.int i64) (Ty.pair (Ty.int i64) (Ty.pair (Ty.int i64) (Ty.pair (Ty.slice (Ty.int i64)) (Ty.pair (Ty.int i64) Ty.unit)))))))) (Ty.pair (Ty.int i64) (Ty.pair Ty.bool Ty.unit)))) p12),Blk.ghost 0] 10)
noncomputable def Sp.S_21_91_0_0{R:Type}(K:(List (Int×Int×Int×Int×Int×List Int×Int×Unit))->Int->Int->(Int×Unit)->(Int×Int×Unit)->(List (Int×Int×Int×Int×Int×Int×Bool×Int×Unit)×List (Int×Int×Int×Int×Int×List Int×Int×Unit)×Int×Bool×Unit)->(Int×Int×Unit)->(Int×Unit)->(Int×Int×Unit)->(Int×Int×Unit)->Int->List Int->List Int->(List (Int×Int×Int×Int×Int×Int×Bool×Int×Unit)×List (Int×Int×Int×Int×Int×List Int×Int×Unit)×Int×Bool×Unit)->Option R)(KB:(List (Int×Int×Int×Int×Int×List Int×Int×Unit))->Int->Int->((List Int×List Int×Int×Unit)×Int×Int×Unit)->(List (Int×Int×Int×Int×Int×Int×Bool×Int×Unit)×List (Int×Int×Int×Int×Int×List Int×Int×Unit)×Int×Bool×Unit)->(Int×Int×Unit)->(Int×Unit)->(Int×Int×Unit)->(Int×Int×Unit)->Int->List Int->List Int->(List (Int×Int×Int×Int×Int×Int×Bool×Int×Unit)×List (Int×Int×Int×Int×Int×List Int×Int×Unit)×Int×Bool×Unit)->Option R)(k:E_21_91_0_0->Option R)(p0:List (Int×Int×Int×Int×Int×List Int×Int×Unit))(p1 p2:Int)(p3:Int×Unit)(p4:Int×Int×Unit)(p5:List (Int×Int×Int×Int×Int×Int×Bool×Int×Unit)×List (Int×Int×Int×Int×Int×List Int×Int×Unit)×Int×Bool×Unit)(p6:Int×Int×Unit)(p7:Int×Unit)(p8 p9:Int×Int×Unit)(p10:Int)(p11 p12:List Int)(p13:List (Int×Int×Int×Int×Int×Int×Bool×Int×Unit)×List (Int×Int×Int×Int×Int×List Int×Int×Unit)×Int×Bool×Unit):Option R:=
 bif decide (p2<p1)then gd (inB p2 (length p0)) (gd (p_43 (getD p0 (toNat p2) Zd0)) (bif(v_43 (getD p0 (toNat p2) Zd0)).1 then gd (p_34 (getD p0 (toNat p2) Zd0)) (gd (inB p2 (length (p13.1))) (gd (room (1+length ((v_34 (getD p0 (toNat p2) Zd0)).1)) 4) (B_21_91_1_0 (J_21_91_1_0 p2 p0 p1 p2 p3 p4 p5 p6 p7 p8 p9 p10 p11 p12 p13 ([wrap u32 ((getD (p13.1) (toNat p2) Zd1).1)]++(v_34 (getD p0 (toNat p2) Zd0)).1)) (fun y82 y83 y84 y85 y86 y87 y88 y89 y90 y91 y92 y93 y94 y95 y96 y97=>K y83 y84 (wrap i64 (y85+1)) y86 y87 y88 y89 y90 y91 y92 y93 y94 y95 y96) (fun y98 y99 y100 y101 y102 y103 y104 y105 y106=>k (E_21_91_0_0.e0 y98 y99 y100 y101 y102 y103 y104 y105 y106)) fun y107 y108 y109 y110 y111 y112 y113 y114 y115 y116 y117 y118 y119 y120 y121 y122=>KB y108 y109 (wrap i64 (y110+1)) ((v_61 ((y119,y120,y111),y112) y107 y122 y114).1) y113 ((v_61 ((y119,y120,y111),y112) y107 y122 y114).2.1) y115 y116 y117 y118 y119 y120 y121)))else B_21_91_1_0 (J_21_91_1_0 p2 p0 p1 p2 p3 p4 p5 p6 p7 p8 p9 p10 p11 p12 p13 []) (fun y123 y124 y125 y126 y127 y128 y129 y130 y131 y132 y133 y134 y135 y136 y137 y138=>K y124 y125 (wrap i64 (y126+1)) y127 y128 y129 y130 y131 y132 y133 y134 y135 y136 y137) (fun y139 y140 y141 y142 y143 y144 y145 y146 y147=>k (E_21_91_0_0.e0 y139 y140 y141 y142 y143 y144 y145 y146 y147)) fun y148 y149 y150 y151 y152 y153 y154 y155 y156 y157 y158 y159 y160 y161 y162 y163=>KB y149 y150 (wrap i64 (y151+1)) ((v_61 ((y160,y161,y152),y153) y148 y163 y155).1) y154 ((v_61 ((y160,y161,y152),y153) y148 y163 y155).2.1) y156 y157 y158 y159 y160 y161 y162))else k (E_21_91_0_0.e1 p3 p4 p5 p6 p7 p8 p9 p10 p11 p12 p13)
noncomputable def C_21_91_0_0:E_21_91_0_1->E_21_91_0_0
 | .e0 y91 y92 y93 y94 y95 y96 y97 y98=> .e2 y91 y92 y93 y94 y95 y96 y97 y98
 | .e1 p3 p4 p5 p6 p7 p8 p9 p10 p11 p12=> .e3 p3 p4 p5 p6 p7 p8 p9 p10 p11 p12
theorem BC_21_91_0_0(r:Option E_21_91_0_1):B_21_91_0_1 r (fun y91 y92 y93 y94 y95 y96 y97 y98=>some (E_21_91_0_0.e2 y91 y92 y93 y94 y95 y96 y97 y98)) (fun p3 p4 p5 p6 p7 p8 p9 p10 p11 p12=>some (E_21_91_0_0.e3 p3 p4 p5 p6 p7 p8 p9 p10 p11 p12))=r.bind fun e=>some (C_21_91_0_0 e):=by
 cases r with
 |none=>rfl
 |some e=>cases e<;>rfl
noncomputable def Sp.L_21_91_0_0:Nat->(List (Int×Int×Int×Int×Int×List Int×Int×Unit))->Int->Int->(Int×Unit)->(Int×Int×Unit)->(List (Int×Int×Int×Int×Int×Int×Bool×Int×Unit)×List (Int×Int×Int×Int×Int×List Int×Int×Unit)×Int×Bool×Unit)->(Int×Int×Unit)->(Int×Unit)->(Int×Int×Unit)->(Int×Int×Unit)->Int->List Int->List Int->(List (Int×Int×Int×Int×Int×Int×Bool×Int×Unit)×List (Int×Int×Int×Int×Int×List Int×Int×Unit)×Int×Bool×Unit)->Option E_21_91_0_0
 |0,_,_,_,_,_,_,_,_,_,_,_,_,_,_=>none
 |m+1,p0,p1,p2,p3,p4,p5,p6,p7,p8,p9,p10,p11,p12,p13=>S_21_91_0_0 (L_21_91_0_0 m) (fun q0 q1 q2 q3 q4 q5 q6 q7 q8 q9 q10 q11 q12=>B_21_91_0_1 (L_21_91_0_1 m q0 q1 q2 q3 q4 q5 q6 q7 q8 q9 q10 q11 q12) (fun y91 y92 y93 y94 y95 y96 y97 y98=>some (E_21_91_0_0.e2 y91 y92 y93 y94 y95 y96 y97 y98)) (fun p3 p4 p5 p6 p7 p8 p9 p10 p11 p12=>some (E_21_91_0_0.e3 p3 p4 p5 p6 p7 p8 p9 p10 p11 p12))) some p0 p1 p2 p3 p4 p5 p6 p7 p8 p9 p10 p11 p12 p13
noncomputable def l_21_91_0_0(m:Nat)(a:T_21_91_0_0.E):Option E_21_91_0_0:=L_21_91_0_0 m a.1 a.2.1 a.2.2.1 a.2.2.2.1 a.2.2.2.2.1 a.2.2.2.2.2.1 a.2.2.2.2.2.2.1 a.2.2.2.2.2.2.2.1 a.2.2.2.2.2.2.2.2.1 a.2.2.2.2.2.2.2.2.2.1 a.2.2.2.2.2.2.2.2.2.2.1 a.2.2.2.2.2.2.2.2.2.2.2.1 a.2.2.2.2.2.2.2.2.2.2.2.2.1 a.2.2.2.2.2.2.2.2.2.2.2.2.2.1
noncomputable def O_21_91_0_0{R:Type}:Orc R:=orL T_21_91_0_0 (l_21_91_0_0 FU) Y_21_91_0_0 O_21_91_0_1
theorem OK_21_91_0_0{R:Type}:okF (R:=R) sm_21 3 (nf 91 0) O_21_91_0_0:=lp2 noO_ok (os:=[O_21_91_1_1]) ⟨OK_21_91_1_1,trivial⟩ T_21_91_0_0 T_21_91_0_1 l_21_91_0_0 l_21_91_0_1 (fun R K KB k a=>S_21_91_0_0 (fun p0 p1 p2 p3 p4 p5 p6 p7 p8 p9 p10 p11 p12 p13=>K (p0,p1,p2,p3,p4,p5,p6,p7,p8,p9,p10,p11,p12,p13,())) (fun q0 q1 q2 q3 q4 q5 q6 q7 q8 q9 q10 q11 q12=>KB (q0,q1,q2,q3,q4,q5,q6,q7,q8,q9,q10,q11,q12,())) k a.1 a.2.1 a.2.2.1 a.2.2.2.1 a.2.2.2.2.1 a.2.2.2.2.2.1 a.2.2.2.2.2.2.1 a.2.2.2.2.2.2.2.1 a.2.2.2.2.2.2.2.2.1 a.2.2.2.2.2.2.2.2.2.1 a.2.2.2.2.2.2.2.2.2.2.1 a.2.2.2.2.2.2.2.2.2.2.2.1 a.2.2.2.2.2.2.2.2.2.2.2.2.1 a.2.2.2.2.2.2.2.2.2.2.2.2.2.1) Y_21_91_0_0 Y_21_91_0_1 C_21_91_0_0 (fun _=>rfl) (fun m a=>by
 unfold l_21_91_0_0
 rw[L_21_91_0_0]
 simp only[BC_21_91_0_0]
 rfl) (fun k e=>by cases e<;>rfl) (fun k=>loop_21_91_0_1 k) (fun k K a=>by kernel_rfl) (fun Y K KB a=>by
 unfold S_21_91_0_0
 repeat' first|apply gdN|apply condN|(apply Bn_21_91_1_0<;>intros)|rfl) OK_21_91_0_1
noncomputable def g_21_91{R:Type}:List CV->List Blk->(CV->List Blk->Option R)->Option R:=evFnL sm_21 FU (ovr noO (evFn sm_21 fns FU 3)) (mkT (fB fns 91) [O_21_91_0_0]) (fO fns 91)
theorem g_21_91_ok{R:Type}(args:List CV)(hp:List Blk)(k:CV->List Blk->Option R)(r:R)(h:g_21_91 args hp k=some r):evFn sm_21 fns FU 4 91 args hp k=some r:=runG noO_ok (os:=[O_21_91_0_0]) ⟨OK_21_91_0_0,trivial⟩ h
noncomputable def ov_21_59{R:Type}:Nat->Option (List CV->List Blk->(CV->List Blk->Option R)->Option R):=fun f'=>bif Nat.beq f' 91 then some g_21_91 else none
theorem ov_21_59_ok{R:Type}:OvrOK (R:=R) ov_21_59 (evFn sm_21 fns FU 4):=by
 intro f' g h args hp k r hg
 dsimp only[ov_21_59]at h
 by_cases h91:f'=91
 ·subst h91
  injection h with h
  subst h
  exact evFn_le 0 (g_21_91_ok _ _ _ _ hg)
 rw[nbeq_ne h91,cond_false]at h
 cases h
noncomputable def g_21_59{R:Type}:List CV->List Blk->(CV->List Blk->Option R)->Option R:=evFnL sm_21 FU (ovr ov_21_59 (evFn sm_21 fns FU 4)) (mkT (fB fns 59) []) (fO fns 59)
theorem g_21_59_ok{R:Type}(args:List CV)(hp:List Blk)(k:CV->List Blk->Option R)(r:R)(h:g_21_59 args hp k=some r):evFn sm_21 fns FU 5 59 args hp k=some r:=runG ov_21_59_ok (os:=[]) trivial h
noncomputable def ov_21_21{R:Type}:Nat->Option (List CV->List Blk->(CV->List Blk->Option R)->Option R):=fun f'=>bif Nat.beq f' 59 then some g_21_59 else bif Nat.beq f' 91 then some g_21_91 else none
theorem ov_21_21_ok{R:Type}:OvrOK (R:=R) ov_21_21 (evFn sm_21 fns FU 5):=by
 intro f' g h args hp k r hg
 dsimp only[ov_21_21]at h
 by_cases h59:f'=59
 ·subst h59
  injection h with h
  subst h
  exact evFn_le 0 (g_21_59_ok _ _ _ _ hg)
 rw[nbeq_ne h59,cond_false]at h
 by_cases h91:f'=91
 ·subst h91
  injection h with h
  subst h
  exact evFn_le 1 (g_21_91_ok _ _ _ _ hg)
 rw[nbeq_ne h91,cond_false]at h
 cases h
noncomputable def F_21(a0:(((List Int)×((List Int)×(Int×Unit)))×(Int×(Int×Unit))))(a1:((List (Int×(Int×(Int×(Int×(Int×(Int×(Bool×(Int×Unit)))))))))×((List (Int×(Int×(Int×(Int×(Int×((List Int)×(Int×Unit))))))))×(Int×(Bool×Unit)))))(a2:(Int×(Int×Unit))):Option ((((List Int)×((List Int)×(Int×Unit)))×(Int×(Int×Unit)))×(Int×(Int×Unit))×Int×Unit) :=
 gd (p_38 a0) (bif !(v_38 a0).1 then some ((([],[],0,PUnit.unit),0,0,PUnit.unit),(0,0,PUnit.unit),1,PUnit.unit)else gd (p_44 a1) (bif !(v_44 a1).1 then some ((([],[],0,PUnit.unit),0,0,PUnit.unit),(0,0,PUnit.unit),1,PUnit.unit)else bif decide (a2.1<0)then some ((([],[],0,PUnit.unit),0,0,PUnit.unit),(0,0,PUnit.unit),1,PUnit.unit)else bif decide (a2.1>1099511627776)then some ((([],[],0,PUnit.unit),0,0,PUnit.unit),(0,0,PUnit.unit),1,PUnit.unit)else gd (room (length (a0.1.1)) 4) (gd (room (length (a0.1.2.1)) 8) (gd (p_60 ((a0.1.1,a0.1.2.1,a0.1.2.2),a0.2) 254 [wrap u32 (a1.2.2.1)]) (bif(v_60 ((a0.1.1,a0.1.2.1,a0.1.2.2),a0.2) 254 [wrap u32 (a1.2.2.1)]).1 then B_21_91_0_0 (L_21_91_0_0 4611686018427387904 (a1.2.1) (↑(length (a1.2.1)):Int) 0 (a0.1.2.2) (a0.2) a1 a2 (0,PUnit.unit) (0,0,PUnit.unit) (0,0,PUnit.unit) 0 (a0.1.1) (a0.1.2.1) a1) (fun y60 y61 y62 y63 y64 y65 y66 y67 y68=>some ((v_61 ((y65,y66,y61),y62) y60 y68 y64).1,(v_61 ((y65,y66,y61),y62) y60 y68 y64).2.1,(v_61 ((y65,y66,y61),y62) y60 y68 y64).2.2.1,PUnit.unit)) (fun y69 y70 y71 y72 y73 y74 y75 y76 y77 y78 y79=>some (((y77,y78,y69),y70),y72,0,PUnit.unit)) (fun y80 y81 y82 y83 y84 y85 y86 y87=>some ((v_61 y81 y80 y87 y83).1,(v_61 y81 y80 y87 y83).2.1,(v_61 y81 y80 y87 y83).2.2.1,PUnit.unit)) fun y88 y89 y90 y91 y92 y93 y94 y95 y96 y97=>some (y88,y90,0,PUnit.unit)else gd (p_61 ((a0.1.1,a0.1.2.1,a0.1.2.2),a0.2) 254 [wrap u32 (a1.2.2.1)] a2) (bif(v_61 ((a0.1.1,a0.1.2.1,a0.1.2.2),a0.2) 254 [wrap u32 (a1.2.2.1)] a2).2.2.1 !=0 then some ((v_61 ((a0.1.1,a0.1.2.1,a0.1.2.2),a0.2) 254 [wrap u32 (a1.2.2.1)] a2).1,(v_61 ((a0.1.1,a0.1.2.1,a0.1.2.2),a0.2) 254 [wrap u32 (a1.2.2.1)] a2).2.1,(v_61 ((a0.1.1,a0.1.2.1,a0.1.2.2),a0.2) 254 [wrap u32 (a1.2.2.1)] a2).2.2.1,PUnit.unit)else B_21_91_0_1 (L_21_91_0_1 4611686018427387904 (a1.2.1) (↑(length (a1.2.1)):Int) 0 ((v_61 ((a0.1.1,a0.1.2.1,a0.1.2.2),a0.2) 254 [wrap u32 (a1.2.2.1)] a2).1) a1 ((v_61 ((a0.1.1,a0.1.2.1,a0.1.2.2),a0.2) 254 [wrap u32 (a1.2.2.1)] a2).2.1) (0,PUnit.unit) (0,0,PUnit.unit) (0,0,PUnit.unit) 0 (a0.1.1) (a0.1.2.1) a1) (fun y98 y99 y100 y101 y102 y103 y104 y105=>some ((v_61 y99 y98 y105 y101).1,(v_61 y99 y98 y105 y101).2.1,(v_61 y99 y98 y105 y101).2.2.1,PUnit.unit)) fun y106 y107 y108 y109 y110 y111 y112 y113 y114 y115=>some (y106,y108,0,PUnit.unit)))))))
noncomputable def Sp.p_21(a0:(((List Int)×((List Int)×(Int×Unit)))×(Int×(Int×Unit))))(a1:((List (Int×(Int×(Int×(Int×(Int×(Int×(Bool×(Int×Unit)))))))))×((List (Int×(Int×(Int×(Int×(Int×((List Int)×(Int×Unit))))))))×(Int×(Bool×Unit)))))(a2:(Int×(Int×Unit))):Bool:=(F_21 a0 a1 a2).isSome
noncomputable def Sp.v_21(a0:(((List Int)×((List Int)×(Int×Unit)))×(Int×(Int×Unit))))(a1:((List (Int×(Int×(Int×(Int×(Int×(Int×(Bool×(Int×Unit)))))))))×((List (Int×(Int×(Int×(Int×(Int×((List Int)×(Int×Unit))))))))×(Int×(Bool×Unit)))))(a2:(Int×(Int×Unit))):(((List Int)×((List Int)×(Int×Unit)))×(Int×(Int×Unit)))×(Int×(Int×Unit))×Int×Unit:=(F_21 a0 a1 a2).getD (dfH R_21)
noncomputable def s_21:Summ:=shS A_21 R_21 (fun x=>p_21 x.1 x.2.1 x.2.2.1) (fun x=>v_21 x.1 x.2.1 x.2.2.1)
theorem pv_21(a0:(((List Int)×((List Int)×(Int×Unit)))×(Int×(Int×Unit))))(a1:((List (Int×(Int×(Int×(Int×(Int×(Int×(Bool×(Int×Unit)))))))))×((List (Int×(Int×(Int×(Int×(Int×((List Int)×(Int×Unit))))))))×(Int×(Bool×Unit)))))(a2:(Int×(Int×Unit))){y:(((List Int)×((List Int)×(Int×Unit)))×(Int×(Int×Unit)))×(Int×(Int×Unit))×Int×Unit}(h:F_21 a0 a1 a2=some y):p_21 a0 a1 a2=true/\v_21 a0 a1 a2=y:=pvG h
theorem run_21(x:HDen A_21)(y:HDen R_21)(h:F_21 x.1 x.2.1 x.2.2.1=some y):rnF sm_21 6 21 A_21 R_21 x y:=runG ov_21_21_ok (os:=[]) trivial (Eq.trans (by kernel_rfl) h)
end
noncomputable section
abbrev A_68:List Ty:=[(.int .i64)]
abbrev R_68:List Ty:=[.bool]
noncomputable def sm_68:Nat->Option Summ:=smL []
noncomputable def F_68(a0:Int):Option (Bool×Unit) :=
 bif decide (a0>=1)then some (decide (a0<=1000000),PUnit.unit)else some (false,PUnit.unit)
noncomputable def Sp.p_68(a0:Int):Bool:=(F_68 a0).isSome
noncomputable def Sp.v_68(a0:Int):Bool×Unit:=(F_68 a0).getD (dfH R_68)
noncomputable def s_68:Summ:=shN A_68 R_68 (fun x=>p_68 x.1) (fun x=>v_68 x.1)
theorem pv_68(a0:Int){y:Bool×Unit}(h:F_68 a0=some y):p_68 a0=true/\v_68 a0=y:=pvG h
theorem run_68(x:HDen A_68)(y:HDen R_68)(h:F_68 x.1=some y):rnF sm_68 1 68 A_68 R_68 x y:=runG noO_ok (os:=[]) trivial (Eq.trans (by kernel_rfl) h)
end
noncomputable section
abbrev A_27:List Ty:=[(.pair (.slice (.int .u32)) (.pair (.slice (.int .i64)) (.pair (.int .i64) .unit)))]
abbrev R_27:List Ty:=[.bool]
noncomputable def sm_27:Nat->Option Summ:=smL [(68,s_68)]
noncomputable def T_27_0:PS:=⟨49,[(1,.kc (.ptr 0 [])),(3,.hv (.int .i64)),(4,.hv (.int .i64))],[.mem (.hv (.pair (.slice (.int .u32)) (.pair (.slice (.int .i64)) (.pair (.int .i64) .unit))))],0⟩
inductive Sp.E_27_0 where
 |e0
 |e1
noncomputable def Sp.B_27_0{R:Type}(r:Option E_27_0)(k0 k1:Option R):Option R:=match r with
 |none=>none
 |some (.e0)=>k0
 |some (.e1)=>k1
noncomputable def Y_27_0{R:Type}(k:Ex->St->Option R):E_27_0->Option R
 | .e0=>k Ex.ret (sx 49 [(2,CV.bool false)] [])
 | .e1=>k (Ex.exit 0) (sx 49 [] [])
noncomputable def Sp.S_27_0{R:Type}(K:Int->Int->(List Int×List Int×Int×Unit)->Option R)(k:E_27_0->Option R)(p0 p1:Int)(p2:List Int×List Int×Int×Unit):Option R:=
 bif decide (p1<p0)then gd (inB p1 (length (p2.2.1))) (bif decide (getD (p2.2.1) (toNat p1) (0:Int)<(0:Int))then k (E_27_0.e0)else gd (inB p1 (length (p2.2.1))) (bif decide (getD (p2.2.1) (toNat p1) 0>p2.2.2.1)then k (E_27_0.e0)else K p0 (wrap i64 (p1+1)) p2))else k (E_27_0.e1)
noncomputable def Sp.L_27_0:Nat->Int->Int->(List Int×List Int×Int×Unit)->Option E_27_0
 |0,_,_,_=>none
 |m+1,p0,p1,p2=>S_27_0 (L_27_0 m) some p0 p1 p2
noncomputable def l_27_0(m:Nat)(a:T_27_0.E):Option E_27_0:=L_27_0 m a.1 a.2.1 a.2.2.1
noncomputable def O_27_0{R:Type}:Orc R:=orL T_27_0 (l_27_0 FU) Y_27_0
theorem OK_27_0{R:Type}:okF (R:=R) sm_27 0 (nf 27 0) O_27_0:=lp0 T_27_0 l_27_0 (fun R K k a=>S_27_0 (fun p0 p1 p2=>K (p0,p1,p2,())) k a.1 a.2.1 a.2.2.1) Y_27_0 (fun _ _ _=>by kernel_rfl) (fun _ _ _=>by
 unfold S_27_0
 repeat' first|apply gdN|apply condN|rfl) (ok0 _)
noncomputable def F_27(a0:((List Int)×((List Int)×(Int×Unit)))):Option (Bool×Unit) :=
 bif decide ((↑(length (a0.2.1)):Int)<1)then some (false,PUnit.unit)else bif decide ((↑(length (a0.2.1)):Int)>64)then some (false,PUnit.unit)else bif(↑(length (a0.1)):Int)!=wrap i64 ((↑(length (a0.2.1)):Int)*64)then some (false,PUnit.unit)else gd (p_68 (a0.2.2.1)) (bif !(v_68 (a0.2.2.1)).1 then some (false,PUnit.unit)else B_27_0 (L_27_0 4611686018427387904 (↑(length (a0.2.1)):Int) 0 a0) (some (false,PUnit.unit)) (some (true,PUnit.unit)))
noncomputable def Sp.p_27(a0:((List Int)×((List Int)×(Int×Unit)))):Bool:=(F_27 a0).isSome
noncomputable def Sp.v_27(a0:((List Int)×((List Int)×(Int×Unit)))):Bool×Unit:=(F_27 a0).getD (dfH R_27)
noncomputable def s_27:Summ:=shN A_27 R_27 (fun x=>p_27 x.1) (fun x=>v_27 x.1)
theorem pv_27(a0:((List Int)×((List Int)×(Int×Unit)))){y:Bool×Unit}(h:F_27 a0=some y):p_27 a0=true/\v_27 a0=y:=pvG h
theorem run_27(x:HDen A_27)(y:HDen R_27)(h:F_27 x.1=some y):rnF sm_27 1 27 A_27 R_27 x y:=runG noO_ok (os:=[O_27_0]) ⟨OK_27_0,trivial⟩ (Eq.trans (by kernel_rfl) h)
end
noncomputable section
abbrev A_49:List Ty:=[(.pair (.slice (.int .u32)) (.pair (.slice (.int .i64)) (.pair (.int .i64) .unit))),(.int .i64),(.int .i64)]
abbrev R_49:List Ty:=[.bool]
noncomputable def sm_49:Nat->Option Summ:=smL []
noncomputable def F_49(a0:((List Int)×((List Int)×(Int×Unit))))(a1 a2:Int):Option (Bool×Unit) :=
 bif decide (a2<2)then some (false,PUnit.unit)else bif decide (a2>16)then some (false,PUnit.unit)else bif Int.tmod a2 (2:Int)!=(0:Int)then some (false,PUnit.unit)else bif decide (a1<0)then some (false,PUnit.unit)else some (decide (a1<=wrap i64 ((↑(length (a0.2.1)):Int)-a2)),PUnit.unit)
noncomputable def Sp.p_49(a0:((List Int)×((List Int)×(Int×Unit))))(a1 a2:Int):Bool:=(F_49 a0 a1 a2).isSome
noncomputable def Sp.v_49(a0:((List Int)×((List Int)×(Int×Unit))))(a1 a2:Int):Bool×Unit:=(F_49 a0 a1 a2).getD (dfH R_49)
noncomputable def s_49:Summ:=shN A_49 R_49 (fun x=>p_49 x.1 x.2.1 x.2.2.1) (fun x=>v_49 x.1 x.2.1 x.2.2.1)
theorem pv_49(a0:((List Int)×((List Int)×(Int×Unit))))(a1 a2:Int){y:Bool×Unit}(h:F_49 a0 a1 a2=some y):p_49 a0 a1 a2=true/\v_49 a0 a1 a2=y:=pvG h
theorem run_49(x:HDen A_49)(y:HDen R_49)(h:F_49 x.1 x.2.1 x.2.2.1=some y):rnF sm_49 1 49 A_49 R_49 x y:=runG noO_ok (os:=[]) trivial (Eq.trans (by kernel_rfl) h)
end
noncomputable section
abbrev A_136:List Ty:=[(.int .i64)]
abbrev R_136:List Ty:=[(.int .u32)]
noncomputable def sm_136:Nat->Option Summ:=smL []
noncomputable def F_136(a0:Int):Option (Int×Unit) :=
 some (Sp.orI u32 (wrap u32 (wrap u32 a0*65536)) (wrap u32 (wrap i64 (65535-a0))),PUnit.unit)
noncomputable def Sp.p_136(a0:Int):Bool:=(F_136 a0).isSome
noncomputable def Sp.v_136(a0:Int):Int×Unit:=(F_136 a0).getD (dfH R_136)
noncomputable def s_136:Summ:=shN A_136 R_136 (fun x=>p_136 x.1) (fun x=>v_136 x.1)
theorem pv_136(a0:Int){y:Int×Unit}(h:F_136 a0=some y):p_136 a0=true/\v_136 a0=y:=pvG h
theorem run_136(x:HDen A_136)(y:HDen R_136)(h:F_136 x.1=some y):rnF sm_136 1 136 A_136 R_136 x y:=runG noO_ok (os:=[]) trivial (Eq.trans (by kernel_rfl) h)
end
noncomputable section
abbrev A_121:List Ty:=[(.int .u32)]
abbrev R_121:List Ty:=[(.int .i64),.bool]
noncomputable def sm_121:Nat->Option Summ:=smL [(136,s_136)]
noncomputable def F_121(a0:Int):Option (Int×Bool×Unit) :=
 gd (p_136 (wrap i64 (Int.fdiv a0 65536))) (some (wrap i64 (Int.fdiv a0 65536),(v_136 (wrap i64 (Int.fdiv a0 65536))).1==a0,PUnit.unit))
noncomputable def Sp.p_121(a0:Int):Bool:=(F_121 a0).isSome
noncomputable def Sp.v_121(a0:Int):Int×Bool×Unit:=(F_121 a0).getD (dfH R_121)
noncomputable def s_121:Summ:=shN A_121 R_121 (fun x=>p_121 x.1) (fun x=>v_121 x.1)
theorem pv_121(a0:Int){y:Int×Bool×Unit}(h:F_121 a0=some y):p_121 a0=true/\v_121 a0=y:=pvG h
theorem run_121(x:HDen A_121)(y:HDen R_121)(h:F_121 x.1=some y):rnF sm_121 1 121 A_121 R_121 x y:=runG noO_ok (os:=[]) trivial (Eq.trans (by kernel_rfl) h)
end
noncomputable section
abbrev A_101:List Ty:=[(.pair (.pair (.slice (.int .u32)) (.pair (.slice (.int .i64)) (.pair (.int .i64) .unit))) (.pair (.int .i64) (.pair (.int .i64) .unit)))]
abbrev R_101:List Ty:=[(.int .i64)]
noncomputable def sm_101:Nat->Option Summ:=smL []
noncomputable def F_101(a0:(((List Int)×((List Int)×(Int×Unit)))×(Int×(Int×Unit)))):Option (Int×Unit) :=
 some (wrap i64 (Int.tdiv (wrap i64 (64*a0.2.2.1)) 2),PUnit.unit)
noncomputable def Sp.p_101(a0:(((List Int)×((List Int)×(Int×Unit)))×(Int×(Int×Unit)))):Bool:=(F_101 a0).isSome
noncomputable def Sp.v_101(a0:(((List Int)×((List Int)×(Int×Unit)))×(Int×(Int×Unit)))):Int×Unit:=(F_101 a0).getD (dfH R_101)
noncomputable def s_101:Summ:=shN A_101 R_101 (fun x=>p_101 x.1) (fun x=>v_101 x.1)
theorem pv_101(a0:(((List Int)×((List Int)×(Int×Unit)))×(Int×(Int×Unit)))){y:Int×Unit}(h:F_101 a0=some y):p_101 a0=true/\v_101 a0=y:=pvG h
theorem run_101(x:HDen A_101)(y:HDen R_101)(h:F_101 x.1=some y):rnF sm_101 1 101 A_101 R_101 x y:=runG noO_ok (os:=[]) trivial (Eq.trans (by kernel_rfl) h)
end
noncomputable section
abbrev A_103:List Ty:=[(.pair (.pair (.slice (.int .u32)) (.pair (.slice (.int .i64)) (.pair (.int .i64) .unit))) (.pair (.int .i64) (.pair (.int .i64) .unit))),(.int .i64)]
abbrev R_103:List Ty:=[(.int .i64)]
noncomputable def sm_103:Nat->Option Summ:=smL [(101,s_101)]
noncomputable def F_103(a0:(((List Int)×((List Int)×(Int×Unit)))×(Int×(Int×Unit))))(a1:Int):Option (Int×Unit) :=
 gd (p_101 a0) (some (wrap i64 (wrap i64 (64*a0.2.1)+wrap i64 (a1*(v_101 a0).1)),PUnit.unit))
noncomputable def Sp.p_103(a0:(((List Int)×((List Int)×(Int×Unit)))×(Int×(Int×Unit))))(a1:Int):Bool:=(F_103 a0 a1).isSome
noncomputable def Sp.v_103(a0:(((List Int)×((List Int)×(Int×Unit)))×(Int×(Int×Unit))))(a1:Int):Int×Unit:=(F_103 a0 a1).getD (dfH R_103)
noncomputable def s_103:Summ:=shN A_103 R_103 (fun x=>p_103 x.1 x.2.1) (fun x=>v_103 x.1 x.2.1)
theorem pv_103(a0:(((List Int)×((List Int)×(Int×Unit)))×(Int×(Int×Unit))))(a1:Int){y:Int×Unit}(h:F_103 a0 a1=some y):p_103 a0 a1=true/\v_103 a0 a1=y:=pvG h
theorem run_103(x:HDen A_103)(y:HDen R_103)(h:F_103 x.1 x.2.1=some y):rnF sm_103 1 103 A_103 R_103 x y:=runG noO_ok (os:=[]) trivial (Eq.trans (by kernel_rfl) h)
end
noncomputable section
abbrev A_122:List Ty:=[(.pair (.pair (.slice (.int .u32)) (.pair (.slice (.int .i64)) (.pair (.int .i64) .unit))) (.pair (.int .i64) (.pair (.int .i64) .unit))),(.int .i64),(.int .i64)]
abbrev R_122:List Ty:=[(.int .u32)]
noncomputable def sm_122:Nat->Option Summ:=smL [(103,s_103)]
noncomputable def F_122(a0:(((List Int)×((List Int)×(Int×Unit)))×(Int×(Int×Unit))))(a1 a2:Int):Option (Int×Unit) :=
 gd (p_103 a0 a1) (gd (inB (wrap i64 ((v_103 a0 a1).1+a2)) (length (a0.1.1))) (some (getD (a0.1.1) (toNat (wrap i64 ((v_103 a0 a1).1+a2))) 0,PUnit.unit)))
noncomputable def Sp.p_122(a0:(((List Int)×((List Int)×(Int×Unit)))×(Int×(Int×Unit))))(a1 a2:Int):Bool:=(F_122 a0 a1 a2).isSome
noncomputable def Sp.v_122(a0:(((List Int)×((List Int)×(Int×Unit)))×(Int×(Int×Unit))))(a1 a2:Int):Int×Unit:=(F_122 a0 a1 a2).getD (dfH R_122)
noncomputable def s_122:Summ:=shN A_122 R_122 (fun x=>p_122 x.1 x.2.1 x.2.2.1) (fun x=>v_122 x.1 x.2.1 x.2.2.1)
theorem pv_122(a0:(((List Int)×((List Int)×(Int×Unit)))×(Int×(Int×Unit))))(a1 a2:Int){y:Int×Unit}(h:F_122 a0 a1 a2=some y):p_122 a0 a1 a2=true/\v_122 a0 a1 a2=y:=pvG h
theorem run_122(x:HDen A_122)(y:HDen R_122)(h:F_122 x.1 x.2.1 x.2.2.1=some y):rnF sm_122 1 122 A_122 R_122 x y:=runG noO_ok (os:=[]) trivial (Eq.trans (by kernel_rfl) h)
end
noncomputable section
abbrev A_86:List Ty:=[(.pair (.pair (.slice (.int .u32)) (.pair (.slice (.int .i64)) (.pair (.int .i64) .unit))) (.pair (.int .i64) (.pair (.int .i64) .unit))),(.int .i64)]
abbrev R_86:List Ty:=[(.int .i64)]
noncomputable def sm_86:Nat->Option Summ:=smL [(121,s_121),(122,s_122)]
noncomputable def F_86(a0:(((List Int)×((List Int)×(Int×Unit)))×(Int×(Int×Unit))))(a1:Int):Option (Int×Unit) :=
 gd (p_122 a0 a1 0) (gd (p_121 ((v_122 a0 a1 0).1)) (bif !(v_121 ((v_122 a0 a1 0).1)).2.1 then some (0,PUnit.unit)else some ((v_121 ((v_122 a0 a1 0).1)).1,PUnit.unit)))
noncomputable def Sp.p_86(a0:(((List Int)×((List Int)×(Int×Unit)))×(Int×(Int×Unit))))(a1:Int):Bool:=(F_86 a0 a1).isSome
noncomputable def Sp.v_86(a0:(((List Int)×((List Int)×(Int×Unit)))×(Int×(Int×Unit))))(a1:Int):Int×Unit:=(F_86 a0 a1).getD (dfH R_86)
noncomputable def s_86:Summ:=shN A_86 R_86 (fun x=>p_86 x.1 x.2.1) (fun x=>v_86 x.1 x.2.1)
theorem pv_86(a0:(((List Int)×((List Int)×(Int×Unit)))×(Int×(Int×Unit))))(a1:Int){y:Int×Unit}(h:F_86 a0 a1=some y):p_86 a0 a1=true/\v_86 a0 a1=y:=pvG h
theorem run_86(x:HDen A_86)(y:HDen R_86)(h:F_86 x.1 x.2.1=some y):rnF sm_86 1 86 A_86 R_86 x y:=runG noO_ok (os:=[]) trivial (Eq.trans (by kernel_rfl) h)
end
noncomputable section
abbrev A_50:List Ty:=[(.pair (.pair (.slice (.int .u32)) (.pair (.slice (.int .i64)) (.pair (.int .i64) .unit))) (.pair (.int .i64) (.pair (.int .i64) .unit)))]
abbrev R_50:List Ty:=[(.int .i64)]
noncomputable def sm_50:Nat->Option Summ:=smL [(86,s_86)]
noncomputable def F_50(a0:(((List Int)×((List Int)×(Int×Unit)))×(Int×(Int×Unit)))):Option (Int×Unit) :=
 gd (p_86 a0 0) (gd (p_86 a0 1) (bif(v_86 a0 0).1==0 then bif(v_86 a0 1).1==0 then some ((-1:Int),PUnit.unit)else bif decide ((v_86 a0 1).1>(v_86 a0 0).1)then some (1,PUnit.unit)else some (0,PUnit.unit)else bif decide ((v_86 a0 1).1>(v_86 a0 0).1)then some (1,PUnit.unit)else some (0,PUnit.unit)))
noncomputable def Sp.p_50(a0:(((List Int)×((List Int)×(Int×Unit)))×(Int×(Int×Unit)))):Bool:=(F_50 a0).isSome
noncomputable def Sp.v_50(a0:(((List Int)×((List Int)×(Int×Unit)))×(Int×(Int×Unit)))):Int×Unit:=(F_50 a0).getD (dfH R_50)
noncomputable def s_50:Summ:=shN A_50 R_50 (fun x=>p_50 x.1) (fun x=>v_50 x.1)
theorem pv_50(a0:(((List Int)×((List Int)×(Int×Unit)))×(Int×(Int×Unit)))){y:Int×Unit}(h:F_50 a0=some y):p_50 a0=true/\v_50 a0=y:=pvG h
theorem run_50(x:HDen A_50)(y:HDen R_50)(h:F_50 x.1=some y):rnF sm_50 1 50 A_50 R_50 x y:=runG noO_ok (os:=[]) trivial (Eq.trans (by kernel_rfl) h)
end
noncomputable section
abbrev A_13:List Ty:=[(.pair (.pair (.slice (.int .u32)) (.pair (.slice (.int .i64)) (.pair (.int .i64) .unit))) (.pair (.int .i64) (.pair (.int .i64) .unit)))]
abbrev R_13:List Ty:=[.bool]
noncomputable def sm_13:Nat->Option Summ:=smL [(27,s_27),(49,s_49),(50,s_50)]
noncomputable def F_13(a0:(((List Int)×((List Int)×(Int×Unit)))×(Int×(Int×Unit)))):Option (Bool×Unit) :=
 gd (p_27 (a0.1)) (bif(v_27 (a0.1)).1 then gd (p_49 (a0.1) (a0.2.1) (a0.2.2.1)) (bif(v_49 (a0.1) (a0.2.1) (a0.2.2.1)).1 then gd (p_50 a0) (some (decide ((v_50 a0).1>=0),PUnit.unit))else some (false,PUnit.unit))else some (false,PUnit.unit))
noncomputable def Sp.p_13(a0:(((List Int)×((List Int)×(Int×Unit)))×(Int×(Int×Unit)))):Bool:=(F_13 a0).isSome
noncomputable def Sp.v_13(a0:(((List Int)×((List Int)×(Int×Unit)))×(Int×(Int×Unit)))):Bool×Unit:=(F_13 a0).getD (dfH R_13)
noncomputable def s_13:Summ:=shN A_13 R_13 (fun x=>p_13 x.1) (fun x=>v_13 x.1)
theorem pv_13(a0:(((List Int)×((List Int)×(Int×Unit)))×(Int×(Int×Unit)))){y:Bool×Unit}(h:F_13 a0=some y):p_13 a0=true/\v_13 a0=y:=pvG h
theorem run_13(x:HDen A_13)(y:HDen R_13)(h:F_13 x.1=some y):rnF sm_13 1 13 A_13 R_13 x y:=runG noO_ok (os:=[]) trivial (Eq.trans (by kernel_rfl) h)
end
noncomputable section
abbrev A_55:List Ty:=[(.int .i64),(.int .i64),(.int .i64)]
abbrev R_55:List Ty:=[.bool]
noncomputable def sm_55:Nat->Option Summ:=smL []
noncomputable def F_55(a0 a1 a2:Int):Option (Bool×Unit) :=
 bif decide (a0>=a1)then some (decide (a0<=a2),PUnit.unit)else some (false,PUnit.unit)
noncomputable def Sp.p_55(a0 a1 a2:Int):Bool:=(F_55 a0 a1 a2).isSome
noncomputable def Sp.v_55(a0 a1 a2:Int):Bool×Unit:=(F_55 a0 a1 a2).getD (dfH R_55)
noncomputable def s_55:Summ:=shN A_55 R_55 (fun x=>p_55 x.1 x.2.1 x.2.2.1) (fun x=>v_55 x.1 x.2.1 x.2.2.1)
theorem pv_55(a0 a1 a2:Int){y:Bool×Unit}(h:F_55 a0 a1 a2=some y):p_55 a0 a1 a2=true/\v_55 a0 a1 a2=y:=pvG h
theorem run_55(x:HDen A_55)(y:HDen R_55)(h:F_55 x.1 x.2.1 x.2.2.1=some y):rnF sm_55 1 55 A_55 R_55 x y:=runG noO_ok (os:=[]) trivial (Eq.trans (by kernel_rfl) h)
end
noncomputable section
abbrev A_48:List Ty:=[(.pair (.int .i64) (.pair (.int .i64) (.pair (.int .i64) (.pair (.int .i64) (.pair (.int .i64) (.pair (.int .i64) (.pair .bool (.pair (.int .i64) .unit))))))))]
abbrev R_48:List Ty:=[.bool]
noncomputable def sm_48:Nat->Option Summ:=smL [(55,s_55)]
noncomputable def F_48(a0:(Int×(Int×(Int×(Int×(Int×(Int×(Bool×(Int×Unit))))))))):Option (Bool×Unit) :=
 gd (p_55 (a0.1) 1 16777215) (bif(v_55 (a0.1) 1 16777215).1 then gd (p_55 (a0.2.1) 1 100) (bif(v_55 (a0.2.1) 1 100).1 then gd (p_55 (a0.2.2.1) 1 100) (bif(v_55 (a0.2.2.1) 1 100).1 then gd (p_55 (a0.2.2.2.1) 1 100) (bif(v_55 (a0.2.2.2.1) 1 100).1 then gd (p_55 (a0.2.2.2.2.1) (a0.2.2.2.1) 255) (bif(v_55 (a0.2.2.2.2.1) (a0.2.2.2.1) 255).1 then gd (p_55 (a0.2.2.2.2.2.1) 0 255) (bif(v_55 (a0.2.2.2.2.2.1) 0 255).1 then gd (p_55 (a0.2.2.2.2.2.2.2.1) 0 8) (some ((v_55 (a0.2.2.2.2.2.2.2.1) 0 8).1,PUnit.unit))else some (false,PUnit.unit))else some (false,PUnit.unit))else some (false,PUnit.unit))else some (false,PUnit.unit))else some (false,PUnit.unit))else some (false,PUnit.unit))
noncomputable def Sp.p_48(a0:(Int×(Int×(Int×(Int×(Int×(Int×(Bool×(Int×Unit))))))))):Bool:=(F_48 a0).isSome
noncomputable def Sp.v_48(a0:(Int×(Int×(Int×(Int×(Int×(Int×(Bool×(Int×Unit))))))))):Bool×Unit:=(F_48 a0).getD (dfH R_48)
noncomputable def s_48:Summ:=shN A_48 R_48 (fun x=>p_48 x.1) (fun x=>v_48 x.1)
theorem pv_48(a0:(Int×(Int×(Int×(Int×(Int×(Int×(Bool×(Int×Unit))))))))){y:Bool×Unit}(h:F_48 a0=some y):p_48 a0=true/\v_48 a0=y:=pvG h
theorem run_48(x:HDen A_48)(y:HDen R_48)(h:F_48 x.1=some y):rnF sm_48 1 48 A_48 R_48 x y:=runG noO_ok (os:=[]) trivial (Eq.trans (by kernel_rfl) h)
end
noncomputable section
abbrev Zy12_0:Ty:=(.slice (.pair (.int .i64) (.pair (.int .i64) (.pair (.int .i64) (.pair (.int .i64) (.pair (.int .i64) (.pair (.int .i64) (.pair .bool (.pair (.int .i64) .unit)))))))))
abbrev Zt12_1:Type:=List (Int×Int×Int×Int×Int×Int×Bool×Int×Unit)
abbrev A_12:List Ty:=[(.slice (.pair (.int .i64) (.pair (.int .i64) (.pair (.int .i64) (.pair (.int .i64) (.pair (.int .i64) (.pair (.int .i64) (.pair .bool (.pair (.int .i64) .unit)))))))))]
abbrev R_12:List Ty:=[(.int .i64)]
noncomputable def sm_12:Nat->Option Summ:=smL [(48,s_48)]
noncomputable def T_12_0:PS:=⟨43,[(0,.hv Zy12_0),(3,.hv (.int .i64))],[],0⟩
inductive Sp.E_12_0 where
 |e0
 |e1 (p0:Zt12_1)
noncomputable def Sp.B_12_0{R:Type}(r:Option E_12_0)(k0:Option R)(k1:Zt12_1->Option R):Option R:=match r with
 |none=>none
 |some (.e0)=>k0
 |some (.e1 p0)=>k1 p0
noncomputable def Y_12_0{R:Type}(k:Ex->St->Option R):E_12_0->Option R
 | .e0=>k Ex.ret (sx 43 [(2,CV.int i64 1)] [])
 | .e1 p0=>k (Ex.exit 0) (sx 43 [(0,CV.pure (Ty.slice (Ty.pair (Ty.int i64) (Ty.pair (Ty.int i64) (Ty.pair (Ty.int i64) (Ty.pair (Ty.int i64) (Ty.pair (Ty.int i64) (Ty.pair (Ty.int i64) (Ty.pair Ty.bool (Ty.pair (Ty.int i64) Ty.unit))))))))) p0)] [])
noncomputable def Sp.S_12_0{R:Type}(K:(List (Int×Int×Int×Int×Int×Int×Bool×Int×Unit))->Int->Option R)(k:E_12_0->Option R)(p0:List (Int×Int×Int×Int×Int×Int×Bool×Int×Unit))(p1:Int):Option R:=
 bif decide (p1<(↑(length p0):Int))then gd (inB p1 (length p0)) (gd (p_48 (getD p0 (toNat p1) Zd1)) (bif !(v_48 (getD p0 (toNat p1) Zd1)).1 then k (E_12_0.e0)else K p0 (wrap i64 (p1+1))))else k (E_12_0.e1 p0)
noncomputable def Sp.L_12_0:Nat->(List (Int×Int×Int×Int×Int×Int×Bool×Int×Unit))->Int->Option E_12_0
 |0,_,_=>none
 |m+1,p0,p1=>S_12_0 (L_12_0 m) some p0 p1
noncomputable def l_12_0(m:Nat)(a:T_12_0.E):Option E_12_0:=L_12_0 m a.1 a.2.1
noncomputable def O_12_0{R:Type}:Orc R:=orL T_12_0 (l_12_0 FU) Y_12_0
theorem OK_12_0{R:Type}:okF (R:=R) sm_12 0 (nf 12 0) O_12_0:=lp0 T_12_0 l_12_0 (fun R K k a=>S_12_0 (fun p0 p1=>K (p0,p1,())) k a.1 a.2.1) Y_12_0 (fun _ _ _=>by kernel_rfl) (fun _ _ _=>by
 unfold S_12_0
 repeat' first|apply gdN|apply condN|rfl) (ok0 _)
noncomputable def T_12_2:PS:=⟨43,[(0,.hv Zy12_0),(4,.hv (.int .i64)),(5,.hv (.int .i64))],[],0⟩
inductive Sp.E_12_2 where
 |e0
 |e1 (p0:Zt12_1) (p1:Int)
noncomputable def Sp.B_12_2{R:Type}(r:Option E_12_2)(k0:Option R)(k1:Zt12_1->Int->Option R):Option R:=match r with
 |none=>none
 |some (.e0)=>k0
 |some (.e1 p0 p1)=>k1 p0 p1
theorem Bn_12_2{A R:Type}{r:Option E_12_2}{f:A->Option R}{k0:Option A}{k1:Zt12_1->Int->Option A}{l0:Option R}{l1:Zt12_1->Int->Option R}(h0:(k0).bind f=l0)(h1:∀p0 p1,(k1 p0 p1).bind f=l1 p0 p1):(B_12_2 r k0 k1).bind f=B_12_2 r l0 l1:=by
 cases r with
 |none=>rfl
 |some e=>cases e<;>first|apply h0|apply h1
noncomputable def Y_12_2{R:Type}(k:Ex->St->Option R):E_12_2->Option R
 | .e0=>k Ex.ret (sx 43 [(2,CV.int i64 8)] [])
 | .e1 p0 p1=>k (Ex.exit 4) (sx 43 [(0,CV.pure (Ty.slice (Ty.pair (Ty.int i64) (Ty.pair (Ty.int i64) (Ty.pair (Ty.int i64) (Ty.pair (Ty.int i64) (Ty.pair (Ty.int i64) (Ty.pair (Ty.int i64) (Ty.pair Ty.bool (Ty.pair (Ty.int i64) Ty.unit))))))))) p0),(4,CV.int i64 p1)] [])
noncomputable def Sp.S_12_2{R:Type}(K:(List (Int×Int×Int×Int×Int×Int×Bool×Int×Unit))->Int->Int->Option R)(k:E_12_2->Option R)(p0:List (Int×Int×Int×Int×Int×Int×Bool×Int×Unit))(p1 p2:Int):Option R:=
 bif decide (p2<p1)then gd (inB p2 (length p0)) (gd (inB p1 (length p0)) (bif(getD p0 (toNat p2) Zd1).1==(getD p0 (toNat p1) Zd1).1 then k (E_12_2.e0)else K p0 p1 (wrap i64 (p2+1))))else k (E_12_2.e1 p0 p1)
noncomputable def Sp.L_12_2:Nat->(List (Int×Int×Int×Int×Int×Int×Bool×Int×Unit))->Int->Int->Option E_12_2
 |0,_,_,_=>none
 |m+1,p0,p1,p2=>S_12_2 (L_12_2 m) some p0 p1 p2
noncomputable def l_12_2(m:Nat)(a:T_12_2.E):Option E_12_2:=L_12_2 m a.1 a.2.1 a.2.2.1
noncomputable def O_12_2{R:Type}:Orc R:=orL T_12_2 (l_12_2 FU) Y_12_2
theorem OK_12_2{R:Type}:okF (R:=R) sm_12 0 (ni (nf 12 1) 0) O_12_2:=lp0 T_12_2 l_12_2 (fun R K k a=>S_12_2 (fun p0 p1 p2=>K (p0,p1,p2,())) k a.1 a.2.1 a.2.2.1) Y_12_2 (fun _ _ _=>by kernel_rfl) (fun _ _ _=>by
 unfold S_12_2
 repeat' first|apply gdN|apply condN|rfl) (ok0 _)
noncomputable def T_12_1:PS:=⟨43,[(0,.hv Zy12_0),(4,.hv (.int .i64))],[],0⟩
inductive Sp.E_12_1 where
 |e0
 |e1
noncomputable def Sp.B_12_1{R:Type}(r:Option E_12_1)(k0 k1:Option R):Option R:=match r with
 |none=>none
 |some (.e0)=>k0
 |some (.e1)=>k1
noncomputable def Y_12_1{R:Type}(k:Ex->St->Option R):E_12_1->Option R
 | .e0=>k Ex.ret (sx 43 [(2,CV.int i64 8)] [])
 | .e1=>k (Ex.exit 2) (sx 43 [] [])
noncomputable def Sp.S_12_1{R:Type}(K:(List (Int×Int×Int×Int×Int×Int×Bool×Int×Unit))->Int->Option R)(k:E_12_1->Option R)(p0:List (Int×Int×Int×Int×Int×Int×Bool×Int×Unit))(p1:Int):Option R:=
 bif decide (p1<(↑(length p0):Int))then B_12_2 (L_12_2 4611686018427387904 p0 p1 0) (k (E_12_1.e0)) fun y6 y7=>K y6 (wrap i64 (y7+1))else k (E_12_1.e1)
noncomputable def Sp.L_12_1:Nat->(List (Int×Int×Int×Int×Int×Int×Bool×Int×Unit))->Int->Option E_12_1
 |0,_,_=>none
 |m+1,p0,p1=>S_12_1 (L_12_1 m) some p0 p1
noncomputable def l_12_1(m:Nat)(a:T_12_1.E):Option E_12_1:=L_12_1 m a.1 a.2.1
noncomputable def O_12_1{R:Type}:Orc R:=orL T_12_1 (l_12_1 FU) Y_12_1
theorem OK_12_1{R:Type}:okF (R:=R) sm_12 0 (nf 12 1) O_12_1:=lp noO_ok (os:=[O_12_2]) ⟨OK_12_2,trivial⟩ T_12_1 l_12_1 (fun R K k a=>S_12_1 (fun p0 p1=>K (p0,p1,())) k a.1 a.2.1) Y_12_1 (fun _=>rfl) (fun _ _=>rfl) (fun k K a=>by kernel_rfl) (fun Y K a=>by
 unfold S_12_1
 repeat' first|apply gdN|apply condN|(apply Bn_12_2<;>intros)|rfl) (ok0 _)
noncomputable def F_12(a0:(List (Int×(Int×(Int×(Int×(Int×(Int×(Bool×(Int×Unit)))))))))):Option (Int×Unit) :=
 bif decide ((↑(length a0):Int)>64)then some (5,PUnit.unit)else B_12_0 (L_12_0 4611686018427387904 a0 0) (some (1,PUnit.unit)) fun y5=>B_12_1 (L_12_1 4611686018427387904 y5 0) (some (8,PUnit.unit)) (some (0,PUnit.unit))
noncomputable def Sp.p_12(a0:(List (Int×(Int×(Int×(Int×(Int×(Int×(Bool×(Int×Unit)))))))))):Bool:=(F_12 a0).isSome
noncomputable def Sp.v_12(a0:(List (Int×(Int×(Int×(Int×(Int×(Int×(Bool×(Int×Unit)))))))))):Int×Unit:=(F_12 a0).getD (dfH R_12)
noncomputable def s_12:Summ:=shN A_12 R_12 (fun x=>p_12 x.1) (fun x=>v_12 x.1)
theorem pv_12(a0:(List (Int×(Int×(Int×(Int×(Int×(Int×(Bool×(Int×Unit)))))))))){y:Int×Unit}(h:F_12 a0=some y):p_12 a0=true/\v_12 a0=y:=pvG h
theorem run_12(x:HDen A_12)(y:HDen R_12)(h:F_12 x.1=some y):rnF sm_12 1 12 A_12 R_12 x y:=runG noO_ok (os:=[O_12_0,O_12_1]) ⟨OK_12_0,OK_12_1,trivial⟩ (Eq.trans (by kernel_rfl) h)
end
noncomputable section
abbrev A_89:List Ty:=[(.slice (.int .i64))]
abbrev R_89:List Ty:=[.bool]
noncomputable def sm_89:Nat->Option Summ:=smL [(55,s_55)]
noncomputable def T_89_0:PS:=⟨16,[(0,.hv (.slice (.int .i64))),(3,.hv (.int .i64))],[],0⟩
inductive Sp.E_89_0 where
 |e0
 |e1
noncomputable def Sp.B_89_0{R:Type}(r:Option E_89_0)(k0 k1:Option R):Option R:=match r with
 |none=>none
 |some (.e0)=>k0
 |some (.e1)=>k1
noncomputable def Y_89_0{R:Type}(k:Ex->St->Option R):E_89_0->Option R
 | .e0=>k Ex.ret (sx 16 [(2,CV.bool false)] [])
 | .e1=>k (Ex.exit 0) (sx 16 [] [])
noncomputable def Sp.S_89_0{R:Type}(K:List Int->Int->Option R)(k:E_89_0->Option R)(p0:List Int)(p1:Int):Option R:=
 bif decide (p1<(↑(length p0):Int))then gd (inB p1 (length p0)) (gd (p_55 (getD p0 (toNat p1) 0) (-1099511627776:Int) 1099511627776) (bif !(v_55 (getD p0 (toNat p1) 0) (-1099511627776:Int) 1099511627776).1 then k (E_89_0.e0)else K p0 (wrap i64 (p1+1))))else k (E_89_0.e1)
noncomputable def Sp.L_89_0:Nat->List Int->Int->Option E_89_0
 |0,_,_=>none
 |m+1,p0,p1=>S_89_0 (L_89_0 m) some p0 p1
noncomputable def l_89_0(m:Nat)(a:T_89_0.E):Option E_89_0:=L_89_0 m a.1 a.2.1
noncomputable def O_89_0{R:Type}:Orc R:=orL T_89_0 (l_89_0 FU) Y_89_0
theorem OK_89_0{R:Type}:okF (R:=R) sm_89 0 (nf 89 0) O_89_0:=lp0 T_89_0 l_89_0 (fun R K k a=>S_89_0 (fun p0 p1=>K (p0,p1,())) k a.1 a.2.1) Y_89_0 (fun _ _ _=>by kernel_rfl) (fun _ _ _=>by
 unfold S_89_0
 repeat' first|apply gdN|apply condN|rfl) (ok0 _)
noncomputable def F_89(a0:(List Int)):Option (Bool×Unit) :=
 B_89_0 (L_89_0 4611686018427387904 a0 0) (some (false,PUnit.unit)) (some (true,PUnit.unit))
noncomputable def Sp.p_89(a0:(List Int)):Bool:=(F_89 a0).isSome
noncomputable def Sp.v_89(a0:(List Int)):Bool×Unit:=(F_89 a0).getD (dfH R_89)
noncomputable def s_89:Summ:=shN A_89 R_89 (fun x=>p_89 x.1) (fun x=>v_89 x.1)
theorem pv_89(a0:(List Int)){y:Bool×Unit}(h:F_89 a0=some y):p_89 a0=true/\v_89 a0=y:=pvG h
theorem run_89(x:HDen A_89)(y:HDen R_89)(h:F_89 x.1=some y):rnF sm_89 1 89 A_89 R_89 x y:=runG noO_ok (os:=[O_89_0]) ⟨OK_89_0,trivial⟩ (Eq.trans (by kernel_rfl) h)
end
noncomputable section
abbrev A_90:List Ty:=[(.pair (.int .i64) (.pair (.int .i64) (.pair (.int .i64) (.pair (.int .i64) (.pair (.int .i64) (.pair (.slice (.int .i64)) (.pair (.int .i64) .unit))))))),(.int .i64)]
abbrev R_90:List Ty:=[.bool]
noncomputable def sm_90:Nat->Option Summ:=smL []
noncomputable def F_90(a0:(Int×(Int×(Int×(Int×(Int×((List Int)×(Int×Unit))))))))(a1:Int):Option (Bool×Unit) :=
 some (Sp.andI i64 (a0.1) a1 !=0,PUnit.unit)
noncomputable def Sp.p_90(a0:(Int×(Int×(Int×(Int×(Int×((List Int)×(Int×Unit))))))))(a1:Int):Bool:=(F_90 a0 a1).isSome
noncomputable def Sp.v_90(a0:(Int×(Int×(Int×(Int×(Int×((List Int)×(Int×Unit))))))))(a1:Int):Bool×Unit:=(F_90 a0 a1).getD (dfH R_90)
noncomputable def s_90:Summ:=shN A_90 R_90 (fun x=>p_90 x.1 x.2.1) (fun x=>v_90 x.1 x.2.1)
theorem pv_90(a0:(Int×(Int×(Int×(Int×(Int×((List Int)×(Int×Unit))))))))(a1:Int){y:Bool×Unit}(h:F_90 a0 a1=some y):p_90 a0 a1=true/\v_90 a0 a1=y:=pvG h
theorem run_90(x:HDen A_90)(y:HDen R_90)(h:F_90 x.1 x.2.1=some y):rnF sm_90 1 90 A_90 R_90 x y:=runG noO_ok (os:=[]) trivial (Eq.trans (by kernel_rfl) h)
end
noncomputable section
abbrev Zt54_0:Type:=Int×Int×Int×Int×Int×List Int×Int×Unit
abbrev Zt54_1:Type:=Int×Int×Int×Int×Int×Int×Bool×Int×Unit
abbrev Zy54_2:Ty:=(.pair (.int .i64) (.pair (.int .i64) (.pair (.int .i64) (.pair (.int .i64) (.pair (.int .i64) (.pair (.int .i64) (.pair .bool (.pair (.int .i64) .unit))))))))
abbrev Zy54_3:Ty:=(.pair (.int .i64) (.pair (.int .i64) (.pair (.int .i64) (.pair (.int .i64) (.pair (.int .i64) (.pair (.slice (.int .i64)) (.pair (.int .i64) .unit)))))))
abbrev A_54:List Ty:=[(.pair (.int .i64) (.pair (.int .i64) (.pair (.int .i64) (.pair (.int .i64) (.pair (.int .i64) (.pair (.int .i64) (.pair .bool (.pair (.int .i64) .unit)))))))),(.pair (.int .i64) (.pair (.int .i64) (.pair (.int .i64) (.pair (.int .i64) (.pair (.int .i64) (.pair (.slice (.int .i64)) (.pair (.int .i64) .unit))))))),(.int .i64)]
abbrev R_54:List Ty:=[.bool]
noncomputable def sm_54:Nat->Option Summ:=smL [(55,s_55),(89,s_89),(90,s_90)]
noncomputable def T_54_3:PS:=⟨166,[(3,.kc (.ptr 0 [])),(4,.kc (.ptr 1 [])),(7,.hv .bool)],[.mem (.hv Zy54_2),.mem (.hv Zy54_3)],0⟩
inductive Sp.E_54_3 where
 |e0 (p1:Zt54_1) (p2:Zt54_0)
 |e1
 |e2 (p2:Zt54_0)
noncomputable def Sp.B_54_3{R:Type}(r:Option E_54_3)(k0:Zt54_1->Zt54_0->Option R)(k1:Option R)(k2:Zt54_0->Option R):Option R:=match r with
 |none=>none
 |some (.e0 p1 p2)=>k0 p1 p2
 |some (.e1)=>k1
 |some (.e2 p2)=>k2 p2
theorem Bn_54_3{A R:Type}{r:Option E_54_3}{f:A->Option R}{k0:Zt54_1->Zt54_0->Option A}{k1:Option A}{k2:Zt54_0->Option A}{l0:Zt54_1->Zt54_0->Option R}{l1:Option R}{l2:Zt54_0->Option R}(h0:∀p1 p2,(k0 p1 p2).bind f=l0 p1 p2)(h1:(k1).bind f=l1)(h2:∀p2,(k2 p2).bind f=l2 p2):(B_54_3 r k0 k1 k2).bind f=B_54_3 r l0 l1 l2:=by
 cases r with
 |none=>rfl
 |some e=>cases e<;>first|apply h0|apply h1|apply h2
noncomputable def Y_54_3{R:Type}(k:Ex->St->Option R):E_54_3->Option R
 | .e0 p1 p2=>k Ex.ret (sx 166 [(6,CV.bool ((↑(length (p2.2.2.2.2.2.1)):Int)==p1.2.2.2.2.2.2.2.1))] [])
 | .e1=>k Ex.ret (sx 166 [(6,CV.bool false)] [])
 | .e2 p2=>k Ex.ret (sx 166 [(6,CV.bool ((↑(length (p2.2.2.2.2.2.1)):Int)==0))] [])
noncomputable def Sp.S_54_3{R:Type}(k:E_54_3->Option R)(p0:Bool)(p1:Int×Int×Int×Int×Int×Int×Bool×Int×Unit)(p2:Int×Int×Int×Int×Int×List Int×Int×Unit):Option R:=
 bif p0 then bif decide (p2.2.2.2.2.1>=1)then bif decide (p2.2.2.1>=1)then bif decide (p2.2.2.2.2.2.2.1>=1)then k (E_54_3.e0 p1 p2)else k (E_54_3.e1)else k (E_54_3.e1)else k (E_54_3.e1)else bif p2.2.2.1==0 then bif p2.2.2.2.1==0 then bif p2.2.2.2.2.1==0 then bif p2.2.2.2.2.2.2.1==0 then k (E_54_3.e2 p2)else k (E_54_3.e1)else k (E_54_3.e1)else k (E_54_3.e1)else k (E_54_3.e1)
noncomputable def Sp.J_54_3(p0:Bool)(p1:Int×Int×Int×Int×Int×Int×Bool×Int×Unit)(p2:Int×Int×Int×Int×Int×List Int×Int×Unit):Option E_54_3:=S_54_3 some p0 p1 p2
noncomputable def O_54_3{R:Type}:Orc R:=orL T_54_3 (fun a=>J_54_3 a.1 a.2.1 a.2.2.1) Y_54_3
theorem OK_54_3{R:Type}:okF (R:=R) sm_54 0 (ni (ni (ni (nf 54 0) 0) 0) 0) O_54_3:=jp noO_ok (os:=[]) trivial T_54_3 (fun R k a=>S_54_3 k a.1 a.2.1 a.2.2.1) Y_54_3 (fun k a=>by kernel_rfl) (fun Y a=>by
 unfold S_54_3
 repeat' first|apply gdN|apply condN|rfl) (ok0 _)
noncomputable def T_54_2:PS:=⟨166,[(3,.kc (.ptr 0 [])),(4,.kc (.ptr 1 [])),(7,.hv .bool)],[.mem (.hv Zy54_2),.mem (.hv Zy54_3)],0⟩
inductive Sp.E_54_2 where
 |e0
 |e1 (y6:Zt54_1) (y7:Zt54_0)
 |e2 (y8:Zt54_0)
noncomputable def Sp.B_54_2{R:Type}(r:Option E_54_2)(k0:Option R)(k1:Zt54_1->Zt54_0->Option R)(k2:Zt54_0->Option R):Option R:=match r with
 |none=>none
 |some (.e0)=>k0
 |some (.e1 y6 y7)=>k1 y6 y7
 |some (.e2 y8)=>k2 y8
theorem Bn_54_2{A R:Type}{r:Option E_54_2}{f:A->Option R}{k0:Option A}{k1:Zt54_1->Zt54_0->Option A}{k2:Zt54_0->Option A}{l0:Option R}{l1:Zt54_1->Zt54_0->Option R}{l2:Zt54_0->Option R}(h0:(k0).bind f=l0)(h1:∀y6 y7,(k1 y6 y7).bind f=l1 y6 y7)(h2:∀y8,(k2 y8).bind f=l2 y8):(B_54_2 r k0 k1 k2).bind f=B_54_2 r l0 l1 l2:=by
 cases r with
 |none=>rfl
 |some e=>cases e<;>first|apply h0|apply h1|apply h2
noncomputable def Y_54_2{R:Type}(k:Ex->St->Option R):E_54_2->Option R
 | .e0=>k Ex.ret (sx 166 [(6,CV.bool false)] [])
 | .e1 y6 y7=>k Ex.ret (sx 166 [(6,CV.bool ((↑(length (y7.2.2.2.2.2.1)):Int)==y6.2.2.2.2.2.2.2.1))] [])
 | .e2 y8=>k Ex.ret (sx 166 [(6,CV.bool ((↑(length (y8.2.2.2.2.2.1)):Int)==0))] [])
noncomputable def Sp.S_54_2{R:Type}(k:E_54_2->Option R)(p0:Bool)(p1:Int×Int×Int×Int×Int×Int×Bool×Int×Unit)(p2:Int×Int×Int×Int×Int×List Int×Int×Unit):Option R:=
 gd (p_90 p2 2) (bif(v_90 p2 2).1 then bif p2.2.2.2.1 !=0 then k (E_54_2.e0)else B_54_3 (J_54_3 p0 p1 p2) (fun y6 y7=>k (E_54_2.e1 y6 y7)) (k (E_54_2.e0)) fun y8=>k (E_54_2.e2 y8)else B_54_3 (J_54_3 p0 p1 p2) (fun y9 y10=>k (E_54_2.e1 y9 y10)) (k (E_54_2.e0)) fun y11=>k (E_54_2.e2 y11))
noncomputable def Sp.J_54_2(p0:Bool)(p1:Int×Int×Int×Int×Int×Int×Bool×Int×Unit)(p2:Int×Int×Int×Int×Int×List Int×Int×Unit):Option E_54_2:=S_54_2 some p0 p1 p2
noncomputable def O_54_2{R:Type}:Orc R:=orL T_54_2 (fun a=>J_54_2 a.1 a.2.1 a.2.2.1) Y_54_2
theorem OK_54_2{R:Type}:okF (R:=R) sm_54 0 (ni (ni (nf 54 0) 0) 0) O_54_2:=jp noO_ok (os:=[O_54_3]) ⟨OK_54_3,trivial⟩ T_54_2 (fun R k a=>S_54_2 k a.1 a.2.1 a.2.2.1) Y_54_2 (fun k a=>by kernel_rfl) (fun Y a=>by
 unfold S_54_2
 repeat' first|apply gdN|apply condN|(apply Bn_54_3<;>intros)|rfl) (ok0 _)
noncomputable def T_54_1:PS:=⟨166,[(3,.kc (.ptr 0 [])),(4,.kc (.ptr 1 [])),(7,.hv .bool)],[.mem (.hv Zy54_2),.mem (.hv Zy54_3)],0⟩
inductive Sp.E_54_1 where
 |e0
 |e1 (y6:Zt54_1) (y7:Zt54_0)
 |e2 (y8:Zt54_0)
noncomputable def Sp.B_54_1{R:Type}(r:Option E_54_1)(k0:Option R)(k1:Zt54_1->Zt54_0->Option R)(k2:Zt54_0->Option R):Option R:=match r with
 |none=>none
 |some (.e0)=>k0
 |some (.e1 y6 y7)=>k1 y6 y7
 |some (.e2 y8)=>k2 y8
theorem Bn_54_1{A R:Type}{r:Option E_54_1}{f:A->Option R}{k0:Option A}{k1:Zt54_1->Zt54_0->Option A}{k2:Zt54_0->Option A}{l0:Option R}{l1:Zt54_1->Zt54_0->Option R}{l2:Zt54_0->Option R}(h0:(k0).bind f=l0)(h1:∀y6 y7,(k1 y6 y7).bind f=l1 y6 y7)(h2:∀y8,(k2 y8).bind f=l2 y8):(B_54_1 r k0 k1 k2).bind f=B_54_1 r l0 l1 l2:=by
 cases r with
 |none=>rfl
 |some e=>cases e<;>first|apply h0|apply h1|apply h2
noncomputable def Y_54_1{R:Type}(k:Ex->St->Option R):E_54_1->Option R
 | .e0=>k Ex.ret (sx 166 [(6,CV.bool false)] [])
 | .e1 y6 y7=>k Ex.ret (sx 166 [(6,CV.bool ((↑(length (y7.2.2.2.2.2.1)):Int)==y6.2.2.2.2.2.2.2.1))] [])
 | .e2 y8=>k Ex.ret (sx 166 [(6,CV.bool ((↑(length (y8.2.2.2.2.2.1)):Int)==0))] [])
noncomputable def Sp.S_54_1{R:Type}(k:E_54_1->Option R)(p0:Bool)(p1:Int×Int×Int×Int×Int×Int×Bool×Int×Unit)(p2:Int×Int×Int×Int×Int×List Int×Int×Unit):Option R:=
 gd (p_90 p2 4) (bif !(v_90 p2 4).1==(p2.2.2.1==2)then k (E_54_1.e0)else gd (p_90 p2 16) (bif(v_90 p2 16).1 then gd (p_90 p2 4) (bif(v_90 p2 4).1 then bif !p1.2.2.2.2.2.2.1 then k (E_54_1.e0)else B_54_2 (J_54_2 p0 p1 p2) (k (E_54_1.e0)) (fun y6 y7=>k (E_54_1.e1 y6 y7)) fun y8=>k (E_54_1.e2 y8)else k (E_54_1.e0))else B_54_2 (J_54_2 p0 p1 p2) (k (E_54_1.e0)) (fun y9 y10=>k (E_54_1.e1 y9 y10)) fun y11=>k (E_54_1.e2 y11)))
noncomputable def Sp.J_54_1(p0:Bool)(p1:Int×Int×Int×Int×Int×Int×Bool×Int×Unit)(p2:Int×Int×Int×Int×Int×List Int×Int×Unit):Option E_54_1:=S_54_1 some p0 p1 p2
noncomputable def O_54_1{R:Type}:Orc R:=orL T_54_1 (fun a=>J_54_1 a.1 a.2.1 a.2.2.1) Y_54_1
theorem OK_54_1{R:Type}:okF (R:=R) sm_54 0 (ni (nf 54 0) 0) O_54_1:=jp noO_ok (os:=[O_54_2]) ⟨OK_54_2,trivial⟩ T_54_1 (fun R k a=>S_54_1 k a.1 a.2.1 a.2.2.1) Y_54_1 (fun k a=>by kernel_rfl) (fun Y a=>by
 unfold S_54_1
 repeat' first|apply gdN|apply condN|(apply Bn_54_2<;>intros)|rfl) (ok0 _)
noncomputable def T_54_0:PS:=⟨166,[(2,.hv (.int .i64)),(3,.kc (.ptr 0 [])),(4,.kc (.ptr 1 [])),(7,.hv .bool)],[.mem (.hv Zy54_2),.mem (.hv Zy54_3)],0⟩
inductive Sp.E_54_0 where
 |e0
 |e1 (y6:Zt54_1) (y7:Zt54_0)
 |e2 (y8:Zt54_0)
noncomputable def Sp.B_54_0{R:Type}(r:Option E_54_0)(k0:Option R)(k1:Zt54_1->Zt54_0->Option R)(k2:Zt54_0->Option R):Option R:=match r with
 |none=>none
 |some (.e0)=>k0
 |some (.e1 y6 y7)=>k1 y6 y7
 |some (.e2 y8)=>k2 y8
noncomputable def Y_54_0{R:Type}(k:Ex->St->Option R):E_54_0->Option R
 | .e0=>k Ex.ret (sx 166 [(6,CV.bool false)] [])
 | .e1 y6 y7=>k Ex.ret (sx 166 [(6,CV.bool ((↑(length (y7.2.2.2.2.2.1)):Int)==y6.2.2.2.2.2.2.2.1))] [])
 | .e2 y8=>k Ex.ret (sx 166 [(6,CV.bool ((↑(length (y8.2.2.2.2.2.1)):Int)==0))] [])
noncomputable def Sp.S_54_0{R:Type}(k:E_54_0->Option R)(p0:Int)(p1:Bool)(p2:Int×Int×Int×Int×Int×Int×Bool×Int×Unit)(p3:Int×Int×Int×Int×Int×List Int×Int×Unit):Option R:=
 gd (p_90 p3 1) (bif(v_90 p3 1).1 then gd (p_90 p3 2) (bif(v_90 p3 2).1 then gd (p_90 p3 8) (bif(v_90 p3 8).1 then bif !p3.2.2.2.2.2.2.1==p0 then k (E_54_0.e0)else B_54_1 (J_54_1 p1 p2 p3) (k (E_54_0.e0)) (fun y6 y7=>k (E_54_0.e1 y6 y7)) fun y8=>k (E_54_0.e2 y8)else k (E_54_0.e0))else k (E_54_0.e0))else B_54_1 (J_54_1 p1 p2 p3) (k (E_54_0.e0)) (fun y9 y10=>k (E_54_0.e1 y9 y10)) fun y11=>k (E_54_0.e2 y11))
noncomputable def Sp.J_54_0(p0:Int)(p1:Bool)(p2:Int×Int×Int×Int×Int×Int×Bool×Int×Unit)(p3:Int×Int×Int×Int×Int×List Int×Int×Unit):Option E_54_0:=S_54_0 some p0 p1 p2 p3
noncomputable def O_54_0{R:Type}:Orc R:=orL T_54_0 (fun a=>J_54_0 a.1 a.2.1 a.2.2.1 a.2.2.2.1) Y_54_0
theorem OK_54_0{R:Type}:okF (R:=R) sm_54 0 (nf 54 0) O_54_0:=jp noO_ok (os:=[O_54_1]) ⟨OK_54_1,trivial⟩ T_54_0 (fun R k a=>S_54_0 k a.1 a.2.1 a.2.2.1 a.2.2.2.1) Y_54_0 (fun k a=>by kernel_rfl) (fun Y a=>by
 unfold S_54_0
 repeat' first|apply gdN|apply condN|(apply Bn_54_1<;>intros)|rfl) (ok0 _)
noncomputable def F_54(a0:(Int×(Int×(Int×(Int×(Int×(Int×(Bool×(Int×Unit)))))))))(a1:(Int×(Int×(Int×(Int×(Int×((List Int)×(Int×Unit))))))))(a2:Int):Option (Bool×Unit) :=
 gd (p_55 (a1.1) 0 31) (bif !(v_55 (a1.1) 0 31).1 then some (false,PUnit.unit)else gd (p_55 (a1.2.1) (wrap i64 (0-a0.2.2.1)) (a0.2.1)) (bif !(v_55 (a1.2.1) (wrap i64 (0-a0.2.2.1)) (a0.2.1)).1 then some (false,PUnit.unit)else gd (p_55 (a1.2.2.1) 0 2) (bif !(v_55 (a1.2.2.1) 0 2).1 then some (false,PUnit.unit)else gd (p_55 (a1.2.2.2.1) 0 (wrap i64 (a0.2.2.2.2.1-1))) (bif !(v_55 (a1.2.2.2.1) 0 (wrap i64 (a0.2.2.2.2.1-1))).1 then some (false,PUnit.unit)else gd (p_55 (a1.2.2.2.2.1) 0 255) (bif !(v_55 (a1.2.2.2.2.1) 0 255).1 then some (false,PUnit.unit)else gd (p_55 (a1.2.2.2.2.2.2.1) 0 a2) (bif !(v_55 (a1.2.2.2.2.2.2.1) 0 a2).1 then some (false,PUnit.unit)else bif(↑(length (a1.2.2.2.2.2.1)):Int)!=0 then bif(↑(length (a1.2.2.2.2.2.1)):Int)!=a0.2.2.2.2.2.2.2.1 then some (false,PUnit.unit)else gd (p_89 (a1.2.2.2.2.2.1)) (bif !(v_89 (a1.2.2.2.2.2.1)).1 then some (false,PUnit.unit)else gd (p_90 a1 2) (bif(v_90 a1 2).1 then B_54_0 (J_54_0 a2 true a0 a1) (some (false,PUnit.unit)) (fun y12 y13=>some ((↑(length (y13.2.2.2.2.2.1)):Int)==y12.2.2.2.2.2.2.2.1,PUnit.unit)) fun y14=>some ((↑(length (y14.2.2.2.2.2.1)):Int)==0,PUnit.unit)else gd (p_90 a1 4) (B_54_0 (J_54_0 a2 ((v_90 a1 4).1) a0 a1) (some (false,PUnit.unit)) (fun y15 y16=>some ((↑(length (y16.2.2.2.2.2.1)):Int)==y15.2.2.2.2.2.2.2.1,PUnit.unit)) fun y17=>some ((↑(length (y17.2.2.2.2.2.1)):Int)==0,PUnit.unit))))else gd (p_89 (a1.2.2.2.2.2.1)) (bif !(v_89 (a1.2.2.2.2.2.1)).1 then some (false,PUnit.unit)else gd (p_90 a1 2) (bif(v_90 a1 2).1 then B_54_0 (J_54_0 a2 true a0 a1) (some (false,PUnit.unit)) (fun y18 y19=>some ((↑(length (y19.2.2.2.2.2.1)):Int)==y18.2.2.2.2.2.2.2.1,PUnit.unit)) fun y20=>some ((↑(length (y20.2.2.2.2.2.1)):Int)==0,PUnit.unit)else gd (p_90 a1 4) (B_54_0 (J_54_0 a2 ((v_90 a1 4).1) a0 a1) (some (false,PUnit.unit)) (fun y21 y22=>some ((↑(length (y22.2.2.2.2.2.1)):Int)==y21.2.2.2.2.2.2.2.1,PUnit.unit)) fun y23=>some ((↑(length (y23.2.2.2.2.2.1)):Int)==0,PUnit.unit))))))))))
noncomputable def Sp.p_54(a0:(Int×(Int×(Int×(Int×(Int×(Int×(Bool×(Int×Unit)))))))))(a1:(Int×(Int×(Int×(Int×(Int×((List Int)×(Int×Unit))))))))(a2:Int):Bool:=(F_54 a0 a1 a2).isSome
noncomputable def Sp.v_54(a0:(Int×(Int×(Int×(Int×(Int×(Int×(Bool×(Int×Unit)))))))))(a1:(Int×(Int×(Int×(Int×(Int×((List Int)×(Int×Unit))))))))(a2:Int):Bool×Unit:=(F_54 a0 a1 a2).getD (dfH R_54)
noncomputable def s_54:Summ:=shN A_54 R_54 (fun x=>p_54 x.1 x.2.1 x.2.2.1) (fun x=>v_54 x.1 x.2.1 x.2.2.1)
theorem pv_54(a0:(Int×(Int×(Int×(Int×(Int×(Int×(Bool×(Int×Unit)))))))))(a1:(Int×(Int×(Int×(Int×(Int×((List Int)×(Int×Unit))))))))(a2:Int){y:Bool×Unit}(h:F_54 a0 a1 a2=some y):p_54 a0 a1 a2=true/\v_54 a0 a1 a2=y:=pvG h
theorem run_54(x:HDen A_54)(y:HDen R_54)(h:F_54 x.1 x.2.1 x.2.2.1=some y):rnF sm_54 1 54 A_54 R_54 x y:=runG noO_ok (os:=[O_54_0]) ⟨OK_54_0,trivial⟩ (Eq.trans (by kernel_rfl) h)
end
noncomputable section
abbrev Zy16_0:Ty:=(.pair (.slice (.pair (.int .i64) (.pair (.int .i64) (.pair (.int .i64) (.pair (.int .i64) (.pair (.int .i64) (.pair (.int .i64) (.pair .bool (.pair (.int .i64) .unit))))))))) (.pair (.slice (.pair (.int .i64) (.pair (.int .i64) (.pair (.int .i64) (.pair (.int .i64) (.pair (.int .i64) (.pair (.slice (.int .i64)) (.pair (.int .i64) .unit)))))))) (.pair (.int .i64) (.pair .bool .unit))))
abbrev A_16:List Ty:=[(.pair (.slice (.pair (.int .i64) (.pair (.int .i64) (.pair (.int .i64) (.pair (.int .i64) (.pair (.int .i64) (.pair (.int .i64) (.pair .bool (.pair (.int .i64) .unit))))))))) (.pair (.slice (.pair (.int .i64) (.pair (.int .i64) (.pair (.int .i64) (.pair (.int .i64) (.pair (.int .i64) (.pair (.slice (.int .i64)) (.pair (.int .i64) .unit)))))))) (.pair (.int .i64) (.pair .bool .unit))))]
abbrev R_16:List Ty:=[.bool]
noncomputable def sm_16:Nat->Option Summ:=smL [(12,s_12),(54,s_54),(55,s_55)]
noncomputable def T_16_1:PS:=⟨53,[(1,.kc (.ptr 0 [])),(3,.hv (.int .i64))],[.mem (.hv Zy16_0)],0⟩
inductive Sp.E_16_1 where
 |e0
 |e1
noncomputable def Sp.B_16_1{R:Type}(r:Option E_16_1)(k0 k1:Option R):Option R:=match r with
 |none=>none
 |some (.e0)=>k0
 |some (.e1)=>k1
theorem Bn_16_1{A R:Type}{r:Option E_16_1}{f:A->Option R}{k0:Option A}{k1:Option A}{l0:Option R}{l1:Option R}(h0:(k0).bind f=l0)(h1:(k1).bind f=l1):(B_16_1 r k0 k1).bind f=B_16_1 r l0 l1:=by
 cases r with
 |none=>rfl
 |some e=>cases e<;>first|apply h0|apply h1
noncomputable def Y_16_1{R:Type}(k:Ex->St->Option R):E_16_1->Option R
 | .e0=>k Ex.ret (sx 53 [(2,CV.bool false)] [])
 | .e1=>k (Ex.exit 0) (sx 53 [] [])
noncomputable def Sp.S_16_1{R:Type}(K:Int->(List (Int×Int×Int×Int×Int×Int×Bool×Int×Unit)×List (Int×Int×Int×Int×Int×List Int×Int×Unit)×Int×Bool×Unit)->Option R)(k:E_16_1->Option R)(p0:Int)(p1:List (Int×Int×Int×Int×Int×Int×Bool×Int×Unit)×List (Int×Int×Int×Int×Int×List Int×Int×Unit)×Int×Bool×Unit):Option R:=
 bif decide (p0<(↑(length (p1.2.1)):Int))then gd (inB p0 (length (p1.1))) (gd (inB p0 (length (p1.2.1))) (gd (p_54 (getD (p1.1) (toNat p0) Zd1) (getD (p1.2.1) (toNat p0) Zd0) (p1.2.2.1)) (bif !(v_54 (getD (p1.1) (toNat p0) Zd1) (getD (p1.2.1) (toNat p0) Zd0) (p1.2.2.1)).1 then k (E_16_1.e0)else K (wrap i64 (p0+1)) p1)))else k (E_16_1.e1)
noncomputable def Sp.L_16_1:Nat->Int->(List (Int×Int×Int×Int×Int×Int×Bool×Int×Unit)×List (Int×Int×Int×Int×Int×List Int×Int×Unit)×Int×Bool×Unit)->Option E_16_1
 |0,_,_=>none
 |m+1,p0,p1=>S_16_1 (L_16_1 m) some p0 p1
noncomputable def l_16_1(m:Nat)(a:T_16_1.E):Option E_16_1:=L_16_1 m a.1 a.2.1
noncomputable def O_16_1{R:Type}:Orc R:=orL T_16_1 (l_16_1 FU) Y_16_1
theorem OK_16_1{R:Type}:okF (R:=R) sm_16 0 (ni (nf 16 0) 0) O_16_1:=lp0 T_16_1 l_16_1 (fun R K k a=>S_16_1 (fun p0 p1=>K (p0,p1,())) k a.1 a.2.1) Y_16_1 (fun _ _ _=>by kernel_rfl) (fun _ _ _=>by
 unfold S_16_1
 repeat' first|apply gdN|apply condN|rfl) (ok0 _)
noncomputable def T_16_0:PS:=⟨53,[(1,.kc (.ptr 0 []))],[.mem (.hv Zy16_0)],0⟩
inductive Sp.E_16_0 where
 |e0
 |e1
noncomputable def Sp.B_16_0{R:Type}(r:Option E_16_0)(k0 k1:Option R):Option R:=match r with
 |none=>none
 |some (.e0)=>k0
 |some (.e1)=>k1
noncomputable def Y_16_0{R:Type}(k:Ex->St->Option R):E_16_0->Option R
 | .e0=>k Ex.ret (sx 53 [(2,CV.bool false)] [])
 | .e1=>k Ex.ret (sx 53 [(2,CV.bool true)] [])
noncomputable def Sp.S_16_0{R:Type}(k:E_16_0->Option R)(p0:List (Int×Int×Int×Int×Int×Int×Bool×Int×Unit)×List (Int×Int×Int×Int×Int×List Int×Int×Unit)×Int×Bool×Unit):Option R:=
 B_16_1 (L_16_1 4611686018427387904 0 p0) (k (E_16_0.e0)) (k (E_16_0.e1))
noncomputable def Sp.J_16_0(p0:List (Int×Int×Int×Int×Int×Int×Bool×Int×Unit)×List (Int×Int×Int×Int×Int×List Int×Int×Unit)×Int×Bool×Unit):Option E_16_0:=S_16_0 some p0
noncomputable def O_16_0{R:Type}:Orc R:=orL T_16_0 (fun a=>J_16_0 a.1) Y_16_0
theorem OK_16_0{R:Type}:okF (R:=R) sm_16 0 (nf 16 0) O_16_0:=jp noO_ok (os:=[O_16_1]) ⟨OK_16_1,trivial⟩ T_16_0 (fun R k a=>S_16_0 k a.1) Y_16_0 (fun k a=>by kernel_rfl) (fun Y a=>by
 unfold S_16_0
 repeat' first|apply gdN|apply condN|(apply Bn_16_1<;>intros)|rfl) (ok0 _)
noncomputable def F_16(a0:((List (Int×(Int×(Int×(Int×(Int×(Int×(Bool×(Int×Unit)))))))))×((List (Int×(Int×(Int×(Int×(Int×((List Int)×(Int×Unit))))))))×(Int×(Bool×Unit))))):Option (Bool×Unit) :=
 gd (p_12 (a0.1)) (bif(v_12 (a0.1)).1 !=0 then some (false,PUnit.unit)else bif(↑(length (a0.2.1)):Int)!=(↑(length (a0.1)):Int)then some (false,PUnit.unit)else gd (p_55 (a0.2.2.1) 0 1073741824) (bif !(v_55 (a0.2.2.1) 0 1073741824).1 then some (false,PUnit.unit)else bif a0.2.2.2.1 then bif decide (a0.2.2.1<1)then some (false,PUnit.unit)else B_16_0 (J_16_0 a0) (some (false,PUnit.unit)) (some (true,PUnit.unit))else B_16_0 (J_16_0 a0) (some (false,PUnit.unit)) (some (true,PUnit.unit))))
noncomputable def Sp.p_16(a0:((List (Int×(Int×(Int×(Int×(Int×(Int×(Bool×(Int×Unit)))))))))×((List (Int×(Int×(Int×(Int×(Int×((List Int)×(Int×Unit))))))))×(Int×(Bool×Unit))))):Bool:=(F_16 a0).isSome
noncomputable def Sp.v_16(a0:((List (Int×(Int×(Int×(Int×(Int×(Int×(Bool×(Int×Unit)))))))))×((List (Int×(Int×(Int×(Int×(Int×((List Int)×(Int×Unit))))))))×(Int×(Bool×Unit))))):Bool×Unit:=(F_16 a0).getD (dfH R_16)
noncomputable def s_16:Summ:=shN A_16 R_16 (fun x=>p_16 x.1) (fun x=>v_16 x.1)
theorem pv_16(a0:((List (Int×(Int×(Int×(Int×(Int×(Int×(Bool×(Int×Unit)))))))))×((List (Int×(Int×(Int×(Int×(Int×((List Int)×(Int×Unit))))))))×(Int×(Bool×Unit))))){y:Bool×Unit}(h:F_16 a0=some y):p_16 a0=true/\v_16 a0=y:=pvG h
theorem run_16(x:HDen A_16)(y:HDen R_16)(h:F_16 x.1=some y):rnF sm_16 1 16 A_16 R_16 x y:=runG noO_ok (os:=[O_16_0]) ⟨OK_16_0,trivial⟩ (Eq.trans (by kernel_rfl) h)
end
noncomputable section
abbrev A_62:List Ty:=[(.pair (.int .i64) (.pair (.int .u32) .unit))]
abbrev R_62:List Ty:=[.bool]
noncomputable def sm_62:Nat->Option Summ:=smL []
noncomputable def F_62(a0:(Int×(Int×Unit))):Option (Bool×Unit) :=
 bif decide (a0.1>=0)then some (decide (a0.1<=1099511627776),PUnit.unit)else some (false,PUnit.unit)
noncomputable def Sp.p_62(a0:(Int×(Int×Unit))):Bool:=(F_62 a0).isSome
noncomputable def Sp.v_62(a0:(Int×(Int×Unit))):Bool×Unit:=(F_62 a0).getD (dfH R_62)
noncomputable def s_62:Summ:=shN A_62 R_62 (fun x=>p_62 x.1) (fun x=>v_62 x.1)
theorem pv_62(a0:(Int×(Int×Unit))){y:Bool×Unit}(h:F_62 a0=some y):p_62 a0=true/\v_62 a0=y:=pvG h
theorem run_62(x:HDen A_62)(y:HDen R_62)(h:F_62 x.1=some y):rnF sm_62 1 62 A_62 R_62 x y:=runG noO_ok (os:=[]) trivial (Eq.trans (by kernel_rfl) h)
end
noncomputable section
abbrev A_22:List Ty:=[(.pair (.pair (.slice (.int .u32)) (.pair (.slice (.int .i64)) (.pair (.int .i64) .unit))) (.pair (.int .i64) (.pair (.int .i64) .unit))),(.pair (.slice (.pair (.int .i64) (.pair (.int .i64) (.pair (.int .i64) (.pair (.int .i64) (.pair (.int .i64) (.pair (.int .i64) (.pair .bool (.pair (.int .i64) .unit))))))))) (.pair (.slice (.pair (.int .i64) (.pair (.int .i64) (.pair (.int .i64) (.pair (.int .i64) (.pair (.int .i64) (.pair (.slice (.int .i64)) (.pair (.int .i64) .unit)))))))) (.pair (.int .i64) (.pair .bool .unit)))),(.pair (.int .i64) (.pair (.int .u32) .unit))]
abbrev R_22:List Ty:=[.bool]
noncomputable def sm_22:Nat->Option Summ:=smL [(13,s_13),(16,s_16),(62,s_62)]
noncomputable def F_22(a0:(((List Int)×((List Int)×(Int×Unit)))×(Int×(Int×Unit))))(a1:((List (Int×(Int×(Int×(Int×(Int×(Int×(Bool×(Int×Unit)))))))))×((List (Int×(Int×(Int×(Int×(Int×((List Int)×(Int×Unit))))))))×(Int×(Bool×Unit)))))(a2:(Int×(Int×Unit))):Option (Bool×Unit) :=
 gd (p_13 a0) (bif(v_13 a0).1 then gd (p_16 a1) (bif(v_16 a1).1 then gd (p_62 a2) (some ((v_62 a2).1,PUnit.unit))else some (false,PUnit.unit))else some (false,PUnit.unit))
noncomputable def Sp.p_22(a0:(((List Int)×((List Int)×(Int×Unit)))×(Int×(Int×Unit))))(a1:((List (Int×(Int×(Int×(Int×(Int×(Int×(Bool×(Int×Unit)))))))))×((List (Int×(Int×(Int×(Int×(Int×((List Int)×(Int×Unit))))))))×(Int×(Bool×Unit)))))(a2:(Int×(Int×Unit))):Bool:=(F_22 a0 a1 a2).isSome
noncomputable def Sp.v_22(a0:(((List Int)×((List Int)×(Int×Unit)))×(Int×(Int×Unit))))(a1:((List (Int×(Int×(Int×(Int×(Int×(Int×(Bool×(Int×Unit)))))))))×((List (Int×(Int×(Int×(Int×(Int×((List Int)×(Int×Unit))))))))×(Int×(Bool×Unit)))))(a2:(Int×(Int×Unit))):Bool×Unit:=(F_22 a0 a1 a2).getD (dfH R_22)
noncomputable def s_22:Summ:=shN A_22 R_22 (fun x=>p_22 x.1 x.2.1 x.2.2.1) (fun x=>v_22 x.1 x.2.1 x.2.2.1)
theorem pv_22(a0:(((List Int)×((List Int)×(Int×Unit)))×(Int×(Int×Unit))))(a1:((List (Int×(Int×(Int×(Int×(Int×(Int×(Bool×(Int×Unit)))))))))×((List (Int×(Int×(Int×(Int×(Int×((List Int)×(Int×Unit))))))))×(Int×(Bool×Unit)))))(a2:(Int×(Int×Unit))){y:Bool×Unit}(h:F_22 a0 a1 a2=some y):p_22 a0 a1 a2=true/\v_22 a0 a1 a2=y:=pvG h
theorem run_22(x:HDen A_22)(y:HDen R_22)(h:F_22 x.1 x.2.1 x.2.2.1=some y):rnF sm_22 1 22 A_22 R_22 x y:=runG noO_ok (os:=[]) trivial (Eq.trans (by kernel_rfl) h)
end
noncomputable section
abbrev A_63:List Ty:=[(.slice (.int .u32)),(.slice (.int .u32))]
abbrev R_63:List Ty:=[.bool]
noncomputable def sm_63:Nat->Option Summ:=smL []
noncomputable def T_63_0:PS:=⟨26,[(0,.hv (.slice (.int .u32))),(1,.hv (.slice (.int .u32))),(5,.hv (.int .i64))],[],0⟩
inductive Sp.E_63_0 where
 |e0
 |e1
noncomputable def Sp.B_63_0{R:Type}(r:Option E_63_0)(k0 k1:Option R):Option R:=match r with
 |none=>none
 |some (.e0)=>k0
 |some (.e1)=>k1
noncomputable def Y_63_0{R:Type}(k:Ex->St->Option R):E_63_0->Option R
 | .e0=>k Ex.ret (sx 26 [(4,CV.bool false)] [])
 | .e1=>k (Ex.exit 0) (sx 26 [] [])
noncomputable def Sp.S_63_0{R:Type}(K:List Int->List Int->Int->Option R)(k:E_63_0->Option R)(p0 p1:List Int)(p2:Int):Option R:=
 bif decide (p2<(↑(length p0):Int))then gd (inB p2 (length p0)) (gd (inB p2 (length p1)) (bif getD p0 (toNat p2) 0 !=getD p1 (toNat p2) 0 then k (E_63_0.e0)else K p0 p1 (wrap i64 (p2+1))))else k (E_63_0.e1)
noncomputable def Sp.L_63_0:Nat->List Int->List Int->Int->Option E_63_0
 |0,_,_,_=>none
 |m+1,p0,p1,p2=>S_63_0 (L_63_0 m) some p0 p1 p2
noncomputable def l_63_0(m:Nat)(a:T_63_0.E):Option E_63_0:=L_63_0 m a.1 a.2.1 a.2.2.1
noncomputable def O_63_0{R:Type}:Orc R:=orL T_63_0 (l_63_0 FU) Y_63_0
theorem OK_63_0{R:Type}:okF (R:=R) sm_63 0 (nf 63 0) O_63_0:=lp0 T_63_0 l_63_0 (fun R K k a=>S_63_0 (fun p0 p1 p2=>K (p0,p1,p2,())) k a.1 a.2.1 a.2.2.1) Y_63_0 (fun _ _ _=>by kernel_rfl) (fun _ _ _=>by
 unfold S_63_0
 repeat' first|apply gdN|apply condN|rfl) (ok0 _)
noncomputable def F_63(a0 a1:(List Int)):Option (Bool×Unit) :=
 bif(↑(length a0):Int)!=(↑(length a1):Int)then some (false,PUnit.unit)else B_63_0 (L_63_0 4611686018427387904 a0 a1 0) (some (false,PUnit.unit)) (some (true,PUnit.unit))
noncomputable def Sp.p_63(a0 a1:(List Int)):Bool:=(F_63 a0 a1).isSome
noncomputable def Sp.v_63(a0 a1:(List Int)):Bool×Unit:=(F_63 a0 a1).getD (dfH R_63)
noncomputable def s_63:Summ:=shN A_63 R_63 (fun x=>p_63 x.1 x.2.1) (fun x=>v_63 x.1 x.2.1)
theorem pv_63(a0 a1:(List Int)){y:Bool×Unit}(h:F_63 a0 a1=some y):p_63 a0 a1=true/\v_63 a0 a1=y:=pvG h
theorem run_63(x:HDen A_63)(y:HDen R_63)(h:F_63 x.1 x.2.1=some y):rnF sm_63 1 63 A_63 R_63 x y:=runG noO_ok (os:=[O_63_0]) ⟨OK_63_0,trivial⟩ (Eq.trans (by kernel_rfl) h)
end
noncomputable section
abbrev A_23:List Ty:=[(.pair (.pair (.slice (.int .u32)) (.pair (.slice (.int .i64)) (.pair (.int .i64) .unit))) (.pair (.int .i64) (.pair (.int .i64) .unit))),(.pair (.pair (.slice (.int .u32)) (.pair (.slice (.int .i64)) (.pair (.int .i64) .unit))) (.pair (.int .i64) (.pair (.int .i64) .unit)))]
abbrev R_23:List Ty:=[.bool]
noncomputable def sm_23:Nat->Option Summ:=smL [(63,s_63)]
noncomputable def T_23_0:PS:=⟨66,[(2,.kc (.ptr 0 [])),(3,.kc (.ptr 1 [])),(5,.hv (.int .i64))],[.mem (.hv (.pair (.pair (.slice (.int .u32)) (.pair (.slice (.int .i64)) (.pair (.int .i64) .unit))) (.pair (.int .i64) (.pair (.int .i64) .unit)))),.mem (.hv (.pair (.pair (.slice (.int .u32)) (.pair (.slice (.int .i64)) (.pair (.int .i64) .unit))) (.pair (.int .i64) (.pair (.int .i64) .unit))))],0⟩
inductive Sp.E_23_0 where
 |e0
 |e1 (p1 p2:(List Int×List Int×Int×Unit)×Int×Int×Unit)
noncomputable def Sp.B_23_0{R:Type}(r:Option E_23_0)(k0:Option R)(k1:((List Int×List Int×Int×Unit)×Int×Int×Unit)->((List Int×List Int×Int×Unit)×Int×Int×Unit)->Option R):Option R:=match r with
 |none=>none
 |some (.e0)=>k0
 |some (.e1 p1 p2)=>k1 p1 p2
noncomputable def Y_23_0{R:Type}(k:Ex->St->Option R):E_23_0->Option R
 | .e0=>k Ex.ret (sx 66 [(4,CV.bool false)] [])
 | .e1 p1 p2=>k (Ex.exit 0) (sx 66 [(2,CV.ptr 0 []),(3,CV.ptr 1 [])] [Blk.mem (CV.pure (Ty.pair (Ty.pair (Ty.slice (Ty.int u32)) (Ty.pair (Ty.slice (Ty.int i64)) (Ty.pair (Ty.int i64) Ty.unit))) (Ty.pair (Ty.int i64) (Ty.pair (Ty.int i64) Ty.unit))) p1),Blk.mem (CV.pure (Ty.pair (Ty.pair (Ty.slice (Ty.int u32)) (Ty.pair (Ty.slice (Ty.int i64)) (Ty.pair (Ty.int i64) Ty.unit))) (Ty.pair (Ty.int i64) (Ty.pair (Ty.int i64) Ty.unit))) p2)])
noncomputable def Sp.S_23_0{R:Type}(K:Int->((List Int×List Int×Int×Unit)×Int×Int×Unit)->((List Int×List Int×Int×Unit)×Int×Int×Unit)->Option R)(k:E_23_0->Option R)(p0:Int)(p1 p2:(List Int×List Int×Int×Unit)×Int×Int×Unit):Option R:=
 bif decide (p0<(↑(length (p1.1.2.1)):Int))then gd (inB p0 (length (p1.1.2.1))) (gd (inB p0 (length (p2.1.2.1))) (bif getD (p1.1.2.1) (toNat p0) 0 !=getD (p2.1.2.1) (toNat p0) 0 then k (E_23_0.e0)else K (wrap i64 (p0+1)) p1 p2))else k (E_23_0.e1 p1 p2)
noncomputable def Sp.L_23_0:Nat->Int->((List Int×List Int×Int×Unit)×Int×Int×Unit)->((List Int×List Int×Int×Unit)×Int×Int×Unit)->Option E_23_0
 |0,_,_,_=>none
 |m+1,p0,p1,p2=>S_23_0 (L_23_0 m) some p0 p1 p2
noncomputable def l_23_0(m:Nat)(a:T_23_0.E):Option E_23_0:=L_23_0 m a.1 a.2.1 a.2.2.1
noncomputable def O_23_0{R:Type}:Orc R:=orL T_23_0 (l_23_0 FU) Y_23_0
theorem OK_23_0{R:Type}:okF (R:=R) sm_23 0 (nf 23 0) O_23_0:=lp0 T_23_0 l_23_0 (fun R K k a=>S_23_0 (fun p0 p1 p2=>K (p0,p1,p2,())) k a.1 a.2.1 a.2.2.1) Y_23_0 (fun _ _ _=>by kernel_rfl) (fun _ _ _=>by
 unfold S_23_0
 repeat' first|apply gdN|apply condN|rfl) (ok0 _)
noncomputable def F_23(a0:(((List Int)×((List Int)×(Int×Unit)))×(Int×(Int×Unit))))(a1:(((List Int)×((List Int)×(Int×Unit)))×(Int×(Int×Unit)))):Option (Bool×Unit) :=
 bif a0.2.1 !=a1.2.1 then some (false,PUnit.unit)else bif a0.2.2.1 !=a1.2.2.1 then some (false,PUnit.unit)else bif a0.1.2.2.1 !=a1.1.2.2.1 then some (false,PUnit.unit)else bif(↑(length (a0.1.2.1)):Int)!=(↑(length (a1.1.2.1)):Int)then some (false,PUnit.unit)else B_23_0 (L_23_0 4611686018427387904 0 a0 a1) (some (false,PUnit.unit)) fun y2 y3=>gd (p_63 (y2.1.1) (y3.1.1)) (some ((v_63 (y2.1.1) (y3.1.1)).1,PUnit.unit))
noncomputable def Sp.p_23(a0:(((List Int)×((List Int)×(Int×Unit)))×(Int×(Int×Unit))))(a1:(((List Int)×((List Int)×(Int×Unit)))×(Int×(Int×Unit)))):Bool:=(F_23 a0 a1).isSome
noncomputable def Sp.v_23(a0:(((List Int)×((List Int)×(Int×Unit)))×(Int×(Int×Unit))))(a1:(((List Int)×((List Int)×(Int×Unit)))×(Int×(Int×Unit)))):Bool×Unit:=(F_23 a0 a1).getD (dfH R_23)
noncomputable def s_23:Summ:=shN A_23 R_23 (fun x=>p_23 x.1 x.2.1) (fun x=>v_23 x.1 x.2.1)
theorem pv_23(a0:(((List Int)×((List Int)×(Int×Unit)))×(Int×(Int×Unit))))(a1:(((List Int)×((List Int)×(Int×Unit)))×(Int×(Int×Unit)))){y:Bool×Unit}(h:F_23 a0 a1=some y):p_23 a0 a1=true/\v_23 a0 a1=y:=pvG h
theorem run_23(x:HDen A_23)(y:HDen R_23)(h:F_23 x.1 x.2.1=some y):rnF sm_23 1 23 A_23 R_23 x y:=runG noO_ok (os:=[O_23_0]) ⟨OK_23_0,trivial⟩ (Eq.trans (by kernel_rfl) h)
end
noncomputable section
abbrev A_105:List Ty:=[(.slice (.pair (.int .i64) (.pair (.slice (.int .u32)) .unit))),(.int .i64),(.slice (.int .u32))]
abbrev R_105:List Ty:=[(.slice (.pair (.int .i64) (.pair (.slice (.int .u32)) .unit)))]
noncomputable def sm_105:Nat->Option Summ:=smL []
noncomputable def T_105_0:PS:=⟨60,[(0,.hv (.slice (.pair (.int .i64) (.pair (.slice (.int .u32)) .unit)))),(1,.hv (.int .i64)),(2,.hv (.slice (.int .u32))),(7,.kc (.whole 0)),(8,.hv .bool),(9,.hv (.int .i64))],[.vec 71 (.pair (.int .i64) (.pair (.slice (.int .u32)) .unit))],0⟩
inductive Sp.E_105_0 where
 |e0 (p1:Int) (p2:List Int) (p3:Bool) (p5:List (Int×List Int×Unit))
noncomputable def Sp.B_105_0{R:Type}(r:Option E_105_0)(k0:Int->List Int->Bool->(List (Int×List Int×Unit))->Option R):Option R:=match r with
 |none=>none
 |some (.e0 p1 p2 p3 p5)=>k0 p1 p2 p3 p5
noncomputable def Y_105_0{R:Type}(k:Ex->St->Option R):E_105_0->Option R
 | .e0 p1 p2 p3 p5=>k (Ex.exit 0) (sx 60 [(1,CV.int i64 p1),(2,CV.pure (Ty.slice (Ty.int u32)) p2),(7,CV.whole 0),(8,CV.bool p3)] [Blk.vec 71 (Ty.pair (Ty.int i64) (Ty.pair (Ty.slice (Ty.int u32)) Ty.unit)) p5])
noncomputable def Sp.S_105_0{R:Type}(K:(List (Int×List Int×Unit))->Int->List Int->Bool->Int->(List (Int×List Int×Unit))->Option R)(k:E_105_0->Option R)(p0:List (Int×List Int×Unit))(p1:Int)(p2:List Int)(p3:Bool)(p4:Int)(p5:List (Int×List Int×Unit)):Option R:=
 bif decide (p4<(↑(length p0):Int))then bif !p3 then gd (inB p4 (length p0)) (bif decide ((getD p0 (toNat p4) Zd2).1>=p1)then gd (room (0+length p2) 4) (gd (room (length p5+1) 32) (gd (inB p4 (length p0)) (bif(getD p0 (toNat p4) Zd2).1 !=p1 then gd (inB p4 (length p0)) (gd (room (length (p5++[(p1,[]++p2,PUnit.unit)])+1) 32) (K p0 p1 p2 true (wrap i64 (p4+1)) (p5++[(p1,[]++p2,PUnit.unit)]++[getD p0 (toNat p4) Zd2])))else K p0 p1 p2 true (wrap i64 (p4+1)) (p5++[(p1,[]++p2,PUnit.unit)]))))else gd (inB p4 (length p0)) (bif(getD p0 (toNat p4) Zd2).1 !=p1 then gd (inB p4 (length p0)) (gd (room (length p5+1) 32) (K p0 p1 p2 p3 (wrap i64 (p4+1)) (p5++[getD p0 (toNat p4) Zd2])))else K p0 p1 p2 p3 (wrap i64 (p4+1)) p5))else gd (inB p4 (length p0)) (bif(getD p0 (toNat p4) Zd2).1 !=p1 then gd (inB p4 (length p0)) (gd (room (length p5+1) 32) (K p0 p1 p2 p3 (wrap i64 (p4+1)) (p5++[getD p0 (toNat p4) Zd2])))else K p0 p1 p2 p3 (wrap i64 (p4+1)) p5)else k (E_105_0.e0 p1 p2 p3 p5)
noncomputable def Sp.L_105_0:Nat->(List (Int×List Int×Unit))->Int->List Int->Bool->Int->(List (Int×List Int×Unit))->Option E_105_0
 |0,_,_,_,_,_,_=>none
 |m+1,p0,p1,p2,p3,p4,p5=>S_105_0 (L_105_0 m) some p0 p1 p2 p3 p4 p5
noncomputable def l_105_0(m:Nat)(a:T_105_0.E):Option E_105_0:=L_105_0 m a.1 a.2.1 a.2.2.1 a.2.2.2.1 a.2.2.2.2.1 a.2.2.2.2.2.1
noncomputable def O_105_0{R:Type}:Orc R:=orL T_105_0 (l_105_0 FU) Y_105_0
theorem OK_105_0{R:Type}:okF (R:=R) sm_105 0 (nf 105 0) O_105_0:=lp0 T_105_0 l_105_0 (fun R K k a=>S_105_0 (fun p0 p1 p2 p3 p4 p5=>K (p0,p1,p2,p3,p4,p5,())) k a.1 a.2.1 a.2.2.1 a.2.2.2.1 a.2.2.2.2.1 a.2.2.2.2.2.1) Y_105_0 (fun _ _ _=>by kernel_rfl) (fun _ _ _=>by
 unfold S_105_0
 repeat' first|apply gdN|apply condN|rfl) (ok0 _)
noncomputable def F_105(a0:(List (Int×((List Int)×Unit))))(a1:Int)(a2:(List Int)):Option ((List (Int×((List Int)×Unit)))×Unit) :=
 B_105_0 (L_105_0 4611686018427387904 a0 a1 a2 false 0 []) fun y4 y5 y6 y7=>bif !y6 then gd (room (0+length y5) 4) (gd (room (length y7+1) 32) (some (y7++[(y4,[]++y5,PUnit.unit)],PUnit.unit)))else some (y7,PUnit.unit)
noncomputable def Sp.p_105(a0:(List (Int×((List Int)×Unit))))(a1:Int)(a2:(List Int)):Bool:=(F_105 a0 a1 a2).isSome
noncomputable def Sp.v_105(a0:(List (Int×((List Int)×Unit))))(a1:Int)(a2:(List Int)):(List (Int×((List Int)×Unit)))×Unit:=(F_105 a0 a1 a2).getD (dfH R_105)
noncomputable def s_105:Summ:=shS A_105 R_105 (fun x=>p_105 x.1 x.2.1 x.2.2.1) (fun x=>v_105 x.1 x.2.1 x.2.2.1)
theorem pv_105(a0:(List (Int×((List Int)×Unit))))(a1:Int)(a2:(List Int)){y:(List (Int×((List Int)×Unit)))×Unit}(h:F_105 a0 a1 a2=some y):p_105 a0 a1 a2=true/\v_105 a0 a1 a2=y:=pvG h
theorem run_105(x:HDen A_105)(y:HDen R_105)(h:F_105 x.1 x.2.1 x.2.2.1=some y):rnF sm_105 1 105 A_105 R_105 x y:=runG noO_ok (os:=[O_105_0]) ⟨OK_105_0,trivial⟩ (Eq.trans (by kernel_rfl) h)
end
noncomputable section
abbrev A_134:List Ty:=[(.int .i64)]
abbrev R_134:List Ty:=[.bool]
noncomputable def sm_134:Nat->Option Summ:=smL []
noncomputable def F_134(a0:Int):Option (Bool×Unit) :=
 bif decide (a0>=0)then some (decide (a0<=254),PUnit.unit)else some (false,PUnit.unit)
noncomputable def Sp.p_134(a0:Int):Bool:=(F_134 a0).isSome
noncomputable def Sp.v_134(a0:Int):Bool×Unit:=(F_134 a0).getD (dfH R_134)
noncomputable def s_134:Summ:=shN A_134 R_134 (fun x=>p_134 x.1) (fun x=>v_134 x.1)
theorem pv_134(a0:Int){y:Bool×Unit}(h:F_134 a0=some y):p_134 a0=true/\v_134 a0=y:=pvG h
theorem run_134(x:HDen A_134)(y:HDen R_134)(h:F_134 x.1=some y):rnF sm_134 1 134 A_134 R_134 x y:=runG noO_ok (os:=[]) trivial (Eq.trans (by kernel_rfl) h)
end
noncomputable section
abbrev A_135:List Ty:=[(.slice (.int .u32))]
abbrev R_135:List Ty:=[(.int .i64)]
noncomputable def sm_135:Nat->Option Summ:=smL []
noncomputable def T_135_0:PS:=⟨30,[(0,.hv (.slice (.int .u32))),(3,.hv (.int .i64)),(4,.hv (.int .i64))],[],0⟩
inductive Sp.E_135_0 where
 |e0 (p1:Int)
noncomputable def Sp.B_135_0{R:Type}(r:Option E_135_0)(k0:Int->Option R):Option R:=match r with
 |none=>none
 |some (.e0 p1)=>k0 p1
noncomputable def Y_135_0{R:Type}(k:Ex->St->Option R):E_135_0->Option R
 | .e0 p1=>k (Ex.exit 0) (sx 30 [(3,CV.int i64 p1)] [])
noncomputable def Sp.S_135_0{R:Type}(K:List Int->Int->Int->Option R)(k:E_135_0->Option R)(p0:List Int)(p1 p2:Int):Option R:=
 bif decide (p2<(↑(length p0):Int))then gd (inB p2 (length p0)) (gd (inB p2 (length p0)) (K p0 (Int.tmod (wrap i64 (wrap i64 (wrap i64 (31*p1)+wrap i64 (Int.fdiv (getD p0 (toNat p2) 0) 65536))+wrap i64 (7*wrap i64 (Int.tmod (getD p0 (toNat p2) 0) 65536)))) 65536) (wrap i64 (p2+1))))else k (E_135_0.e0 p1)
noncomputable def Sp.L_135_0:Nat->List Int->Int->Int->Option E_135_0
 |0,_,_,_=>none
 |m+1,p0,p1,p2=>S_135_0 (L_135_0 m) some p0 p1 p2
noncomputable def l_135_0(m:Nat)(a:T_135_0.E):Option E_135_0:=L_135_0 m a.1 a.2.1 a.2.2.1
noncomputable def O_135_0{R:Type}:Orc R:=orL T_135_0 (l_135_0 FU) Y_135_0
theorem OK_135_0{R:Type}:okF (R:=R) sm_135 0 (nf 135 0) O_135_0:=lp0 T_135_0 l_135_0 (fun R K k a=>S_135_0 (fun p0 p1 p2=>K (p0,p1,p2,())) k a.1 a.2.1 a.2.2.1) Y_135_0 (fun _ _ _=>by kernel_rfl) (fun _ _ _=>by
 unfold S_135_0
 repeat' first|apply gdN|apply condN|rfl) (ok0 _)
noncomputable def F_135(a0:(List Int)):Option (Int×Unit) :=
 B_135_0 (L_135_0 4611686018427387904 a0 0 0) fun y1=>some (y1,PUnit.unit)
noncomputable def Sp.p_135(a0:(List Int)):Bool:=(F_135 a0).isSome
noncomputable def Sp.v_135(a0:(List Int)):Int×Unit:=(F_135 a0).getD (dfH R_135)
noncomputable def s_135:Summ:=shN A_135 R_135 (fun x=>p_135 x.1) (fun x=>v_135 x.1)
theorem pv_135(a0:(List Int)){y:Int×Unit}(h:F_135 a0=some y):p_135 a0=true/\v_135 a0=y:=pvG h
theorem run_135(x:HDen A_135)(y:HDen R_135)(h:F_135 x.1=some y):rnF sm_135 1 135 A_135 R_135 x y:=runG noO_ok (os:=[O_135_0]) ⟨OK_135_0,trivial⟩ (Eq.trans (by kernel_rfl) h)
end
noncomputable section
abbrev Zt99_0:Type:=List (Int×List Int×Unit)
abbrev Zy99_1:Ty:=(.pair (.pair (.slice (.int .u32)) (.pair (.slice (.int .i64)) (.pair (.int .i64) .unit))) (.pair (.int .i64) (.pair (.int .i64) .unit)))
abbrev Zt99_2:Type:=(List Int×List Int×Int×Unit)×Int×Int×Unit
abbrev Zy99_3:Ty:=(.slice (.pair (.int .i64) (.pair (.slice (.int .u32)) .unit)))
abbrev Zy99_4:Ty:=(.pair (.int .i64) (.pair (.slice (.int .u32)) .unit))
abbrev A_99:List Ty:=[(.pair (.pair (.slice (.int .u32)) (.pair (.slice (.int .i64)) (.pair (.int .i64) .unit))) (.pair (.int .i64) (.pair (.int .i64) .unit))),(.int .i64)]
abbrev R_99:List Ty:=[(.slice (.pair (.int .i64) (.pair (.slice (.int .u32)) .unit))),(.int .i64)]
noncomputable def sm_99:Nat->Option Summ:=smL [(101,s_101),(103,s_103),(105,s_105),(121,s_121),(122,s_122),(134,s_134),(135,s_135)]
noncomputable def T_99_0_1:PS:=⟨120,[(1,.hv (.int .i64)),(2,.kc (.ptr 0 [])),(6,.hv (.int .i64)),(7,.hv Zy99_3),(8,.hv (.int .i64))],[.mem (.hv Zy99_1)],0⟩
inductive Sp.E_99_0_1 where
 |e0 (p1:Int) (p2:Zt99_0)
 |e1 (p0 p1:Int) (p2:Zt99_0) (p3:Int) (p4:Zt99_2)
noncomputable def Sp.B_99_0_1{R:Type}(r:Option E_99_0_1)(k0:Int->Zt99_0->Option R)(k1:Int->Int->Zt99_0->Int->Zt99_2->Option R):Option R:=match r with
 |none=>none
 |some (.e0 p1 p2)=>k0 p1 p2
 |some (.e1 p0 p1 p2 p3 p4)=>k1 p0 p1 p2 p3 p4
noncomputable def Y_99_0_1{R:Type}(k:Ex->St->Option R):E_99_0_1->Option R
 | .e0 p1 p2=>k Ex.ret (sx 120 [(4,CV.pure (Ty.slice (Ty.pair (Ty.int i64) (Ty.pair (Ty.slice (Ty.int u32)) Ty.unit))) p2),(5,CV.int i64 p1)] [])
 | .e1 p0 p1 p2 p3 p4=>k (Ex.exit 0) (sx 120 [(1,CV.int i64 p0),(2,CV.ptr 0 []),(6,CV.int i64 p1),(7,CV.pure (Ty.slice (Ty.pair (Ty.int i64) (Ty.pair (Ty.slice (Ty.int u32)) Ty.unit))) p2),(8,CV.int i64 p3)] [Blk.mem (CV.pure (Ty.pair (Ty.pair (Ty.slice (Ty.int u32)) (Ty.pair (Ty.slice (Ty.int i64)) (Ty.pair (Ty.int i64) Ty.unit))) (Ty.pair (Ty.int i64) (Ty.pair (Ty.int i64) Ty.unit))) p4)])
noncomputable def Sp.S_99_0_1{R:Type}(K:Int->Int->(List (Int×List Int×Unit))->Int->((List Int×List Int×Int×Unit)×Int×Int×Unit)->Option R)(k:E_99_0_1->Option R)(p0 p1:Int)(p2:List (Int×List Int×Unit))(p3:Int)(p4:(List Int×List Int×Int×Unit)×Int×Int×Unit):Option R:=
 bif decide (p3<p1)then gd (p_122 p4 p0 p3) (bif(v_122 p4 p0 p3).1 !=4294967295 then gd (p_122 p4 p0 p3) (gd (p_121 ((v_122 p4 p0 p3).1)) (bif !(v_121 ((v_122 p4 p0 p3).1)).2.1 then k (E_99_0_1.e0 p1 p2)else gd (p_134 (wrap i64 (Int.tdiv ((v_121 ((v_122 p4 p0 p3).1)).1) 256))) (bif !(v_134 (wrap i64 (Int.tdiv ((v_121 ((v_122 p4 p0 p3).1)).1) 256))).1 then k (E_99_0_1.e0 p1 p2)else bif decide (Int.tmod ((v_121 ((v_122 p4 p0 p3).1)).1) (256:Int)>(24:Int))then k (E_99_0_1.e0 p1 p2)else bif decide (wrap i64 (wrap i64 (p3+Int.tmod ((v_121 ((v_122 p4 p0 p3).1)).1) 256)+2)>p1)then k (E_99_0_1.e0 p1 p2)else gd (p_103 p4 p0) (gd (sl3 (wrap i64 ((v_103 p4 p0).1+p3)) (wrap i64 (wrap i64 (wrap i64 ((v_103 p4 p0).1+p3)+Int.tmod ((v_121 ((v_122 p4 p0 p3).1)).1) 256)+1)) (↑(length (p4.1.1)):Int)) (gd (p_122 p4 p0 (wrap i64 (wrap i64 (p3+Int.tmod ((v_121 ((v_122 p4 p0 p3).1)).1) 256)+1))) (gd (p_121 ((v_122 p4 p0 (wrap i64 (wrap i64 (p3+Int.tmod ((v_121 ((v_122 p4 p0 p3).1)).1) 256)+1))).1)) (bif(v_121 ((v_122 p4 p0 (wrap i64 (wrap i64 (p3+Int.tmod ((v_121 ((v_122 p4 p0 p3).1)).1) 256)+1))).1)).2.1 then gd (p_135 (take (toNat (wrap i64 (wrap i64 (wrap i64 ((v_103 p4 p0).1+p3)+Int.tmod ((v_121 ((v_122 p4 p0 p3).1)).1) 256)+1))-toNat (wrap i64 ((v_103 p4 p0).1+p3))) (drop (toNat (wrap i64 ((v_103 p4 p0).1+p3))) (p4.1.1)))) (bif(v_121 ((v_122 p4 p0 (wrap i64 (wrap i64 (p3+Int.tmod ((v_121 ((v_122 p4 p0 p3).1)).1) 256)+1))).1)).1==(v_135 (take (toNat (wrap i64 (wrap i64 (wrap i64 ((v_103 p4 p0).1+p3)+Int.tmod ((v_121 ((v_122 p4 p0 p3).1)).1) 256)+1))-toNat (wrap i64 ((v_103 p4 p0).1+p3))) (drop (toNat (wrap i64 ((v_103 p4 p0).1+p3))) (p4.1.1)))).1 then gd (sl3 1 (↑(length (take (toNat (wrap i64 (wrap i64 (wrap i64 ((v_103 p4 p0).1+p3)+Int.tmod ((v_121 ((v_122 p4 p0 p3).1)).1) 256)+1))-toNat (wrap i64 ((v_103 p4 p0).1+p3))) (drop (toNat (wrap i64 ((v_103 p4 p0).1+p3))) (p4.1.1)))):Int) (↑(length (take (toNat (wrap i64 (wrap i64 (wrap i64 ((v_103 p4 p0).1+p3)+Int.tmod ((v_121 ((v_122 p4 p0 p3).1)).1) 256)+1))-toNat (wrap i64 ((v_103 p4 p0).1+p3))) (drop (toNat (wrap i64 ((v_103 p4 p0).1+p3))) (p4.1.1)))):Int)) (gd (p_105 p2 (wrap i64 (Int.tdiv ((v_121 ((v_122 p4 p0 p3).1)).1) 256)) (drop 1 (take (toNat (wrap i64 (wrap i64 (wrap i64 ((v_103 p4 p0).1+p3)+Int.tmod ((v_121 ((v_122 p4 p0 p3).1)).1) 256)+1))-toNat (wrap i64 ((v_103 p4 p0).1+p3))) (drop (toNat (wrap i64 ((v_103 p4 p0).1+p3))) (p4.1.1))))) (K p0 p1 ((v_105 p2 (wrap i64 (Int.tdiv ((v_121 ((v_122 p4 p0 p3).1)).1) 256)) (drop 1 (take (toNat (wrap i64 (wrap i64 (wrap i64 ((v_103 p4 p0).1+p3)+Int.tmod ((v_121 ((v_122 p4 p0 p3).1)).1) 256)+1))-toNat (wrap i64 ((v_103 p4 p0).1+p3))) (drop (toNat (wrap i64 ((v_103 p4 p0).1+p3))) (p4.1.1))))).1) (wrap i64 (wrap i64 (p3+Int.tmod ((v_121 ((v_122 p4 p0 p3).1)).1) 256)+2)) p4))else K p0 p1 p2 (wrap i64 (wrap i64 (p3+Int.tmod ((v_121 ((v_122 p4 p0 p3).1)).1) 256)+2)) p4)else K p0 p1 p2 (wrap i64 (wrap i64 (p3+Int.tmod ((v_121 ((v_122 p4 p0 p3).1)).1) 256)+2)) p4)))))))else k (E_99_0_1.e1 p0 p1 p2 p3 p4))else k (E_99_0_1.e1 p0 p1 p2 p3 p4)
noncomputable def Sp.L_99_0_1:Nat->Int->Int->(List (Int×List Int×Unit))->Int->((List Int×List Int×Int×Unit)×Int×Int×Unit)->Option E_99_0_1
 |0,_,_,_,_,_=>none
 |m+1,p0,p1,p2,p3,p4=>S_99_0_1 (L_99_0_1 m) some p0 p1 p2 p3 p4
noncomputable def l_99_0_1(m:Nat)(a:T_99_0_1.E):Option E_99_0_1:=L_99_0_1 m a.1 a.2.1 a.2.2.1 a.2.2.2.1 a.2.2.2.2.1
noncomputable def O_99_0_1{R:Type}:Orc R:=orL T_99_0_1 (l_99_0_1 FU) Y_99_0_1
theorem loop_99_0_1{R:Type}(k:Ex->St->Option R):∀m a,evLoopN (evCodeL sm_99 FU (ovr noO (evFn sm_99 fns FU 0)) (mkT (inner (nf 99 0)) []) (inner (nf 99 0))) (St.norm (lv (nf 99 0))) m (T_99_0_1.inst a) k=(l_99_0_1 m a).bind (Y_99_0_1 k):=lpN l_99_0_1 (fun R K k a=>S_99_0_1 (fun p0 p1 p2 p3 p4=>K (p0,p1,p2,p3,p4,())) k a.1 a.2.1 a.2.2.1 a.2.2.2.1 a.2.2.2.2.1) (fun _=>rfl) (fun _ _=>rfl) (fun K a=>by kernel_rfl) (fun K a=>by
 unfold S_99_0_1
 repeat' first|apply gdN|apply condN|rfl)
theorem OK_99_0_1{R:Type}:okF (R:=R) sm_99 0 (nf 99 0) O_99_0_1:=lp0 T_99_0_1 l_99_0_1 (fun R K k a=>S_99_0_1 (fun p0 p1 p2 p3 p4=>K (p0,p1,p2,p3,p4,())) k a.1 a.2.1 a.2.2.1 a.2.2.2.1 a.2.2.2.2.1) Y_99_0_1 (fun _ _ _=>by kernel_rfl) (fun _ _ _=>by
 unfold S_99_0_1
 repeat' first|apply gdN|apply condN|rfl) (ok0 _)
noncomputable def T_99_0:PS:=⟨120,[(1,.hv (.int .i64)),(2,.kc (.ptr 0 [])),(6,.hv (.int .i64)),(7,.kc (.whole 1)),(8,.hv (.int .i64))],[.mem (.hv Zy99_1),.vec 71 Zy99_4],0⟩
inductive Sp.E_99_0 where
 |e0 (p1:Int) (p4:Zt99_0)
 |e1 (p0 p1 p2:Int) (p3:Zt99_2) (p4:Zt99_0)
 |e2 (p1:Int) (p2:Zt99_0)
 |e3 (p0 p1:Int) (p2:Zt99_0) (p3:Int) (p4:Zt99_2)
noncomputable def Sp.B_99_0{R:Type}(r:Option E_99_0)(k0:Int->Zt99_0->Option R)(k1:Int->Int->Int->Zt99_2->Zt99_0->Option R)(k2:Int->Zt99_0->Option R)(k3:Int->Int->Zt99_0->Int->Zt99_2->Option R):Option R:=match r with
 |none=>none
 |some (.e0 p1 p4)=>k0 p1 p4
 |some (.e1 p0 p1 p2 p3 p4)=>k1 p0 p1 p2 p3 p4
 |some (.e2 p1 p2)=>k2 p1 p2
 |some (.e3 p0 p1 p2 p3 p4)=>k3 p0 p1 p2 p3 p4
noncomputable def Y_99_0{R:Type}(k:Ex->St->Option R):E_99_0->Option R
 | .e0 p1 p4=>k Ex.ret (sx 120 [(4,CV.whole 0),(5,CV.int i64 p1)] [Blk.vec 71 (Ty.pair (Ty.int i64) (Ty.pair (Ty.slice (Ty.int u32)) Ty.unit)) p4])
 | .e1 p0 p1 p2 p3 p4=>k (Ex.exit 0) (sx 120 [(1,CV.int i64 p0),(2,CV.ptr 0 []),(6,CV.int i64 p1),(7,CV.whole 1),(8,CV.int i64 p2)] [Blk.mem (CV.pure (Ty.pair (Ty.pair (Ty.slice (Ty.int u32)) (Ty.pair (Ty.slice (Ty.int i64)) (Ty.pair (Ty.int i64) Ty.unit))) (Ty.pair (Ty.int i64) (Ty.pair (Ty.int i64) Ty.unit))) p3),Blk.vec 71 (Ty.pair (Ty.int i64) (Ty.pair (Ty.slice (Ty.int u32)) Ty.unit)) p4])
 | .e2 p1 p2=>k Ex.ret (sx 120 [(4,CV.pure (Ty.slice (Ty.pair (Ty.int i64) (Ty.pair (Ty.slice (Ty.int u32)) Ty.unit))) p2),(5,CV.int i64 p1)] [])
 | .e3 p0 p1 p2 p3 p4=>k (Ex.exit 0) (sx 120 [(1,CV.int i64 p0),(2,CV.ptr 0 []),(6,CV.int i64 p1),(7,CV.pure (Ty.slice (Ty.pair (Ty.int i64) (Ty.pair (Ty.slice (Ty.int u32)) Ty.unit))) p2),(8,CV.int i64 p3)] [Blk.mem (CV.pure (Ty.pair (Ty.pair (Ty.slice (Ty.int u32)) (Ty.pair (Ty.slice (Ty.int i64)) (Ty.pair (Ty.int i64) Ty.unit))) (Ty.pair (Ty.int i64) (Ty.pair (Ty.int i64) Ty.unit))) p4)])
noncomputable def Sp.S_99_0{R:Type}(K:Int->Int->Int->((List Int×List Int×Int×Unit)×Int×Int×Unit)->(List (Int×List Int×Unit))->Option R)(KB:Int->Int->(List (Int×List Int×Unit))->Int->((List Int×List Int×Int×Unit)×Int×Int×Unit)->Option R)(k:E_99_0->Option R)(p0 p1 p2:Int)(p3:(List Int×List Int×Int×Unit)×Int×Int×Unit)(p4:List (Int×List Int×Unit)):Option R:=
 bif decide (p2<p1)then gd (p_122 p3 p0 p2) (bif(v_122 p3 p0 p2).1 !=4294967295 then gd (p_122 p3 p0 p2) (gd (p_121 ((v_122 p3 p0 p2).1)) (bif !(v_121 ((v_122 p3 p0 p2).1)).2.1 then k (E_99_0.e0 p1 p4)else gd (p_134 (wrap i64 (Int.tdiv ((v_121 ((v_122 p3 p0 p2).1)).1) 256))) (bif !(v_134 (wrap i64 (Int.tdiv ((v_121 ((v_122 p3 p0 p2).1)).1) 256))).1 then k (E_99_0.e0 p1 p4)else bif decide (Int.tmod ((v_121 ((v_122 p3 p0 p2).1)).1) (256:Int)>(24:Int))then k (E_99_0.e0 p1 p4)else bif decide (wrap i64 (wrap i64 (p2+Int.tmod ((v_121 ((v_122 p3 p0 p2).1)).1) 256)+2)>p1)then k (E_99_0.e0 p1 p4)else gd (p_103 p3 p0) (gd (sl3 (wrap i64 ((v_103 p3 p0).1+p2)) (wrap i64 (wrap i64 (wrap i64 ((v_103 p3 p0).1+p2)+Int.tmod ((v_121 ((v_122 p3 p0 p2).1)).1) 256)+1)) (↑(length (p3.1.1)):Int)) (gd (p_122 p3 p0 (wrap i64 (wrap i64 (p2+Int.tmod ((v_121 ((v_122 p3 p0 p2).1)).1) 256)+1))) (gd (p_121 ((v_122 p3 p0 (wrap i64 (wrap i64 (p2+Int.tmod ((v_121 ((v_122 p3 p0 p2).1)).1) 256)+1))).1)) (bif(v_121 ((v_122 p3 p0 (wrap i64 (wrap i64 (p2+Int.tmod ((v_121 ((v_122 p3 p0 p2).1)).1) 256)+1))).1)).2.1 then gd (p_135 (take (toNat (wrap i64 (wrap i64 (wrap i64 ((v_103 p3 p0).1+p2)+Int.tmod ((v_121 ((v_122 p3 p0 p2).1)).1) 256)+1))-toNat (wrap i64 ((v_103 p3 p0).1+p2))) (drop (toNat (wrap i64 ((v_103 p3 p0).1+p2))) (p3.1.1)))) (bif(v_121 ((v_122 p3 p0 (wrap i64 (wrap i64 (p2+Int.tmod ((v_121 ((v_122 p3 p0 p2).1)).1) 256)+1))).1)).1==(v_135 (take (toNat (wrap i64 (wrap i64 (wrap i64 ((v_103 p3 p0).1+p2)+Int.tmod ((v_121 ((v_122 p3 p0 p2).1)).1) 256)+1))-toNat (wrap i64 ((v_103 p3 p0).1+p2))) (drop (toNat (wrap i64 ((v_103 p3 p0).1+p2))) (p3.1.1)))).1 then gd (sl3 1 (↑(length (take (toNat (wrap i64 (wrap i64 (wrap i64 ((v_103 p3 p0).1+p2)+Int.tmod ((v_121 ((v_122 p3 p0 p2).1)).1) 256)+1))-toNat (wrap i64 ((v_103 p3 p0).1+p2))) (drop (toNat (wrap i64 ((v_103 p3 p0).1+p2))) (p3.1.1)))):Int) (↑(length (take (toNat (wrap i64 (wrap i64 (wrap i64 ((v_103 p3 p0).1+p2)+Int.tmod ((v_121 ((v_122 p3 p0 p2).1)).1) 256)+1))-toNat (wrap i64 ((v_103 p3 p0).1+p2))) (drop (toNat (wrap i64 ((v_103 p3 p0).1+p2))) (p3.1.1)))):Int)) (gd (p_105 p4 (wrap i64 (Int.tdiv ((v_121 ((v_122 p3 p0 p2).1)).1) 256)) (drop 1 (take (toNat (wrap i64 (wrap i64 (wrap i64 ((v_103 p3 p0).1+p2)+Int.tmod ((v_121 ((v_122 p3 p0 p2).1)).1) 256)+1))-toNat (wrap i64 ((v_103 p3 p0).1+p2))) (drop (toNat (wrap i64 ((v_103 p3 p0).1+p2))) (p3.1.1))))) (KB p0 p1 ((v_105 p4 (wrap i64 (Int.tdiv ((v_121 ((v_122 p3 p0 p2).1)).1) 256)) (drop 1 (take (toNat (wrap i64 (wrap i64 (wrap i64 ((v_103 p3 p0).1+p2)+Int.tmod ((v_121 ((v_122 p3 p0 p2).1)).1) 256)+1))-toNat (wrap i64 ((v_103 p3 p0).1+p2))) (drop (toNat (wrap i64 ((v_103 p3 p0).1+p2))) (p3.1.1))))).1) (wrap i64 (wrap i64 (p2+Int.tmod ((v_121 ((v_122 p3 p0 p2).1)).1) 256)+2)) p3))else K p0 p1 (wrap i64 (wrap i64 (p2+Int.tmod ((v_121 ((v_122 p3 p0 p2).1)).1) 256)+2)) p3 p4)else K p0 p1 (wrap i64 (wrap i64 (p2+Int.tmod ((v_121 ((v_122 p3 p0 p2).1)).1) 256)+2)) p3 p4)))))))else k (E_99_0.e1 p0 p1 p2 p3 p4))else k (E_99_0.e1 p0 p1 p2 p3 p4)
noncomputable def C_99_0:E_99_0_1->E_99_0
 | .e0 p1 p2=> .e2 p1 p2
 | .e1 p0 p1 p2 p3 p4=> .e3 p0 p1 p2 p3 p4
theorem BC_99_0(r:Option E_99_0_1):B_99_0_1 r (fun p1 p2=>some (E_99_0.e2 p1 p2)) (fun p0 p1 p2 p3 p4=>some (E_99_0.e3 p0 p1 p2 p3 p4))=r.bind fun e=>some (C_99_0 e):=by
 cases r with
 |none=>rfl
 |some e=>cases e<;>rfl
noncomputable def Sp.L_99_0:Nat->Int->Int->Int->((List Int×List Int×Int×Unit)×Int×Int×Unit)->(List (Int×List Int×Unit))->Option E_99_0
 |0,_,_,_,_,_=>none
 |m+1,p0,p1,p2,p3,p4=>S_99_0 (L_99_0 m) (fun q0 q1 q2 q3 q4=>B_99_0_1 (L_99_0_1 m q0 q1 q2 q3 q4) (fun p1 p2=>some (E_99_0.e2 p1 p2)) (fun p0 p1 p2 p3 p4=>some (E_99_0.e3 p0 p1 p2 p3 p4))) some p0 p1 p2 p3 p4
noncomputable def l_99_0(m:Nat)(a:T_99_0.E):Option E_99_0:=L_99_0 m a.1 a.2.1 a.2.2.1 a.2.2.2.1 a.2.2.2.2.1
noncomputable def O_99_0{R:Type}:Orc R:=orL T_99_0 (l_99_0 FU) Y_99_0 O_99_0_1
theorem OK_99_0{R:Type}:okF (R:=R) sm_99 0 (nf 99 0) O_99_0:=lp2 noO_ok (os:=[]) trivial T_99_0 T_99_0_1 l_99_0 l_99_0_1 (fun R K KB k a=>S_99_0 (fun p0 p1 p2 p3 p4=>K (p0,p1,p2,p3,p4,())) (fun q0 q1 q2 q3 q4=>KB (q0,q1,q2,q3,q4,())) k a.1 a.2.1 a.2.2.1 a.2.2.2.1 a.2.2.2.2.1) Y_99_0 Y_99_0_1 C_99_0 (fun _=>rfl) (fun m a=>by
 unfold l_99_0
 rw[L_99_0]
 simp only[BC_99_0]
 rfl) (fun k e=>by cases e<;>rfl) (fun k=>loop_99_0_1 k) (fun k K a=>by kernel_rfl) (fun Y K KB a=>by
 unfold S_99_0
 repeat' first|apply gdN|apply condN|rfl) OK_99_0_1
noncomputable def T_99_2:PS:=⟨120,[(1,.hv (.int .i64)),(2,.kc (.ptr 0 [])),(6,.hv (.int .i64)),(7,.kc (.whole 1)),(8,.hv (.int .i64)),(16,.hv (.int .i64))],[.mem (.hv Zy99_1),.vec 71 Zy99_4],0⟩
inductive Sp.E_99_2 where
 |e0 (p1:Int) (p5:Zt99_0)
 |e1 (p2:Int) (p5:Zt99_0)
noncomputable def Sp.B_99_2{R:Type}(r:Option E_99_2)(k0 k1:Int->Zt99_0->Option R):Option R:=match r with
 |none=>none
 |some (.e0 p1 p5)=>k0 p1 p5
 |some (.e1 p2 p5)=>k1 p2 p5
theorem Bn_99_2{A R:Type}{r:Option E_99_2}{f:A->Option R}{k0:Int->Zt99_0->Option A}{k1:Int->Zt99_0->Option A}{l0:Int->Zt99_0->Option R}{l1:Int->Zt99_0->Option R}(h0:∀p1 p5,(k0 p1 p5).bind f=l0 p1 p5)(h1:∀p2 p5,(k1 p2 p5).bind f=l1 p2 p5):(B_99_2 r k0 k1).bind f=B_99_2 r l0 l1:=by
 cases r with
 |none=>rfl
 |some e=>cases e<;>first|apply h0|apply h1
noncomputable def Y_99_2{R:Type}(k:Ex->St->Option R):E_99_2->Option R
 | .e0 p1 p5=>k Ex.ret (sx 120 [(4,CV.whole 0),(5,CV.int i64 p1)] [Blk.vec 71 (Ty.pair (Ty.int i64) (Ty.pair (Ty.slice (Ty.int u32)) Ty.unit)) p5])
 | .e1 p2 p5=>k (Ex.exit 2) (sx 120 [(7,CV.whole 0),(8,CV.int i64 p2)] [Blk.vec 71 (Ty.pair (Ty.int i64) (Ty.pair (Ty.slice (Ty.int u32)) Ty.unit)) p5])
noncomputable def Sp.S_99_2{R:Type}(K:Int->Int->Int->Int->((List Int×List Int×Int×Unit)×Int×Int×Unit)->(List (Int×List Int×Unit))->Option R)(k:E_99_2->Option R)(p0 p1 p2 p3:Int)(p4:(List Int×List Int×Int×Unit)×Int×Int×Unit)(p5:List (Int×List Int×Unit)):Option R:=
 bif decide (p3<p1)then gd (p_122 p4 p0 p3) (bif(v_122 p4 p0 p3).1 !=4294967295 then k (E_99_2.e0 p1 p5)else K p0 p1 p2 (wrap i64 (p3+1)) p4 p5)else k (E_99_2.e1 p2 p5)
noncomputable def Sp.L_99_2:Nat->Int->Int->Int->Int->((List Int×List Int×Int×Unit)×Int×Int×Unit)->(List (Int×List Int×Unit))->Option E_99_2
 |0,_,_,_,_,_,_=>none
 |m+1,p0,p1,p2,p3,p4,p5=>S_99_2 (L_99_2 m) some p0 p1 p2 p3 p4 p5
noncomputable def l_99_2(m:Nat)(a:T_99_2.E):Option E_99_2:=L_99_2 m a.1 a.2.1 a.2.2.1 a.2.2.2.1 a.2.2.2.2.1 a.2.2.2.2.2.1
noncomputable def O_99_2{R:Type}:Orc R:=orL T_99_2 (l_99_2 FU) Y_99_2
theorem OK_99_2{R:Type}:okF (R:=R) sm_99 0 (ni (nf 99 1) 0) O_99_2:=lp0 T_99_2 l_99_2 (fun R K k a=>S_99_2 (fun p0 p1 p2 p3 p4 p5=>K (p0,p1,p2,p3,p4,p5,())) k a.1 a.2.1 a.2.2.1 a.2.2.2.1 a.2.2.2.2.1 a.2.2.2.2.2.1) Y_99_2 (fun _ _ _=>by kernel_rfl) (fun _ _ _=>by
 unfold S_99_2
 repeat' first|apply gdN|apply condN|rfl) (ok0 _)
noncomputable def T_99_2_1:PS:=⟨120,[(1,.hv (.int .i64)),(2,.kc (.ptr 0 [])),(6,.hv (.int .i64)),(7,.hv Zy99_3),(8,.hv (.int .i64)),(16,.hv (.int .i64))],[.mem (.hv Zy99_1)],0⟩
inductive Sp.E_99_2_1 where
 |e0 (p1:Int) (p2:Zt99_0)
 |e1 (p2:Zt99_0) (p3:Int)
noncomputable def Sp.B_99_2_1{R:Type}(r:Option E_99_2_1)(k0:Int->Zt99_0->Option R)(k1:Zt99_0->Int->Option R):Option R:=match r with
 |none=>none
 |some (.e0 p1 p2)=>k0 p1 p2
 |some (.e1 p2 p3)=>k1 p2 p3
theorem Bn_99_2_1{A R:Type}{r:Option E_99_2_1}{f:A->Option R}{k0:Int->Zt99_0->Option A}{k1:Zt99_0->Int->Option A}{l0:Int->Zt99_0->Option R}{l1:Zt99_0->Int->Option R}(h0:∀p1 p2,(k0 p1 p2).bind f=l0 p1 p2)(h1:∀p2 p3,(k1 p2 p3).bind f=l1 p2 p3):(B_99_2_1 r k0 k1).bind f=B_99_2_1 r l0 l1:=by
 cases r with
 |none=>rfl
 |some e=>cases e<;>first|apply h0|apply h1
noncomputable def Y_99_2_1{R:Type}(k:Ex->St->Option R):E_99_2_1->Option R
 | .e0 p1 p2=>k Ex.ret (sx 120 [(4,CV.pure (Ty.slice (Ty.pair (Ty.int i64) (Ty.pair (Ty.slice (Ty.int u32)) Ty.unit))) p2),(5,CV.int i64 p1)] [])
 | .e1 p2 p3=>k (Ex.exit 2) (sx 120 [(7,CV.pure (Ty.slice (Ty.pair (Ty.int i64) (Ty.pair (Ty.slice (Ty.int u32)) Ty.unit))) p2),(8,CV.int i64 p3)] [])
noncomputable def Sp.S_99_2_1{R:Type}(K:Int->Int->(List (Int×List Int×Unit))->Int->Int->((List Int×List Int×Int×Unit)×Int×Int×Unit)->Option R)(k:E_99_2_1->Option R)(p0 p1:Int)(p2:List (Int×List Int×Unit))(p3 p4:Int)(p5:(List Int×List Int×Int×Unit)×Int×Int×Unit):Option R:=
 bif decide (p4<p1)then gd (p_122 p5 p0 p4) (bif(v_122 p5 p0 p4).1 !=4294967295 then k (E_99_2_1.e0 p1 p2)else K p0 p1 p2 p3 (wrap i64 (p4+1)) p5)else k (E_99_2_1.e1 p2 p3)
noncomputable def Sp.L_99_2_1:Nat->Int->Int->(List (Int×List Int×Unit))->Int->Int->((List Int×List Int×Int×Unit)×Int×Int×Unit)->Option E_99_2_1
 |0,_,_,_,_,_,_=>none
 |m+1,p0,p1,p2,p3,p4,p5=>S_99_2_1 (L_99_2_1 m) some p0 p1 p2 p3 p4 p5
noncomputable def l_99_2_1(m:Nat)(a:T_99_2_1.E):Option E_99_2_1:=L_99_2_1 m a.1 a.2.1 a.2.2.1 a.2.2.2.1 a.2.2.2.2.1 a.2.2.2.2.2.1
noncomputable def O_99_2_1{R:Type}:Orc R:=orL T_99_2_1 (l_99_2_1 FU) Y_99_2_1 O_99_2
theorem OK_99_2_1{R:Type}:okF (R:=R) sm_99 0 (ni (nf 99 1) 0) O_99_2_1:=lp0 T_99_2_1 l_99_2_1 (fun R K k a=>S_99_2_1 (fun p0 p1 p2 p3 p4 p5=>K (p0,p1,p2,p3,p4,p5,())) k a.1 a.2.1 a.2.2.1 a.2.2.2.1 a.2.2.2.2.1 a.2.2.2.2.2.1) Y_99_2_1 (fun _ _ _=>by kernel_rfl) (fun _ _ _=>by
 unfold S_99_2_1
 repeat' first|apply gdN|apply condN|rfl) OK_99_2
noncomputable def T_99_1:PS:=⟨120,[(1,.hv (.int .i64)),(2,.kc (.ptr 0 [])),(6,.hv (.int .i64)),(7,.kc (.whole 1)),(8,.hv (.int .i64))],[.mem (.hv Zy99_1),.vec 71 Zy99_4],0⟩
inductive Sp.E_99_1 where
 |e0 (y4:Int) (y5:Zt99_0)
noncomputable def Sp.B_99_1{R:Type}(r:Option E_99_1)(k0:Int->Zt99_0->Option R):Option R:=match r with
 |none=>none
 |some (.e0 y4 y5)=>k0 y4 y5
noncomputable def Y_99_1{R:Type}(k:Ex->St->Option R):E_99_1->Option R
 | .e0 y4 y5=>k Ex.ret (sx 120 [(4,CV.whole 0),(5,CV.int i64 y4)] [Blk.vec 71 (Ty.pair (Ty.int i64) (Ty.pair (Ty.slice (Ty.int u32)) Ty.unit)) y5])
noncomputable def Sp.S_99_1{R:Type}(k:E_99_1->Option R)(p0 p1 p2:Int)(p3:(List Int×List Int×Int×Unit)×Int×Int×Unit)(p4:List (Int×List Int×Unit)):Option R:=
 B_99_2 (L_99_2 4611686018427387904 p0 p1 p2 p2 p3 p4) (fun y4 y5=>k (E_99_1.e0 y4 y5)) fun y6 y7=>k (E_99_1.e0 y6 y7)
noncomputable def Sp.J_99_1(p0 p1 p2:Int)(p3:(List Int×List Int×Int×Unit)×Int×Int×Unit)(p4:List (Int×List Int×Unit)):Option E_99_1:=S_99_1 some p0 p1 p2 p3 p4
noncomputable def O_99_1{R:Type}:Orc R:=orL T_99_1 (fun a=>J_99_1 a.1 a.2.1 a.2.2.1 a.2.2.2.1 a.2.2.2.2.1) Y_99_1
theorem OK_99_1{R:Type}:okF (R:=R) sm_99 0 (nf 99 1) O_99_1:=jp noO_ok (os:=[O_99_2_1]) ⟨OK_99_2_1,trivial⟩ T_99_1 (fun R k a=>S_99_1 k a.1 a.2.1 a.2.2.1 a.2.2.2.1 a.2.2.2.2.1) Y_99_1 (fun k a=>by kernel_rfl) (fun Y a=>by
 unfold S_99_1
 repeat' first|apply gdN|apply condN|(apply Bn_99_2<;>intros)|rfl) (ok0 _)
noncomputable def T_99_1_1:PS:=⟨120,[(1,.hv (.int .i64)),(2,.kc (.ptr 0 [])),(6,.hv (.int .i64)),(7,.hv Zy99_3),(8,.hv (.int .i64))],[.mem (.hv Zy99_1)],0⟩
inductive Sp.E_99_1_1 where
 |e0 (y4:Int) (y5:Zt99_0)
 |e1 (y6:Zt99_0) (y7:Int)
noncomputable def Sp.B_99_1_1{R:Type}(r:Option E_99_1_1)(k0:Int->Zt99_0->Option R)(k1:Zt99_0->Int->Option R):Option R:=match r with
 |none=>none
 |some (.e0 y4 y5)=>k0 y4 y5
 |some (.e1 y6 y7)=>k1 y6 y7
noncomputable def Y_99_1_1{R:Type}(k:Ex->St->Option R):E_99_1_1->Option R
 | .e0 y4 y5=>k Ex.ret (sx 120 [(4,CV.pure (Ty.slice (Ty.pair (Ty.int i64) (Ty.pair (Ty.slice (Ty.int u32)) Ty.unit))) y5),(5,CV.int i64 y4)] [])
 | .e1 y6 y7=>k Ex.ret (sx 120 [(4,CV.pure (Ty.slice (Ty.pair (Ty.int i64) (Ty.pair (Ty.slice (Ty.int u32)) Ty.unit))) y6),(5,CV.int i64 y7)] [])
noncomputable def Sp.S_99_1_1{R:Type}(k:E_99_1_1->Option R)(p0 p1:Int)(p2:List (Int×List Int×Unit))(p3:Int)(p4:(List Int×List Int×Int×Unit)×Int×Int×Unit):Option R:=
 B_99_2_1 (L_99_2_1 4611686018427387904 p0 p1 p2 p3 p3 p4) (fun y4 y5=>k (E_99_1_1.e0 y4 y5)) fun y6 y7=>k (E_99_1_1.e1 y6 y7)
noncomputable def Sp.J_99_1_1(p0 p1:Int)(p2:List (Int×List Int×Unit))(p3:Int)(p4:(List Int×List Int×Int×Unit)×Int×Int×Unit):Option E_99_1_1:=S_99_1_1 some p0 p1 p2 p3 p4
noncomputable def O_99_1_1{R:Type}:Orc R:=orL T_99_1_1 (fun a=>J_99_1_1 a.1 a.2.1 a.2.2.1 a.2.2.2.1 a.2.2.2.2.1) Y_99_1_1 O_99_1
theorem OK_99_1_1{R:Type}:okF (R:=R) sm_99 0 (nf 99 1) O_99_1_1:=jp noO_ok (os:=[O_99_2_1]) ⟨OK_99_2_1,trivial⟩ T_99_1_1 (fun R k a=>S_99_1_1 k a.1 a.2.1 a.2.2.1 a.2.2.2.1 a.2.2.2.2.1) Y_99_1_1 (fun k a=>by kernel_rfl) (fun Y a=>by
 unfold S_99_1_1
 repeat' first|apply gdN|apply condN|(apply Bn_99_2_1<;>intros)|rfl) OK_99_1
noncomputable def F_99(a0:(((List Int)×((List Int)×(Int×Unit)))×(Int×(Int×Unit))))(a1:Int):Option ((List (Int×((List Int)×Unit)))×Int×Unit) :=
 gd (p_101 a0) (B_99_0 (L_99_0 4611686018427387904 a1 ((v_101 a0).1) 1 a0 []) (fun y20 y21=>some (y21,y20,PUnit.unit)) (fun y22 y23 y24 y25 y26=>B_99_1 (J_99_1 y22 y23 y24 y25 y26) fun y27 y28=>some (y28,y27,PUnit.unit)) (fun y29 y30=>some (y30,y29,PUnit.unit)) fun y31 y32 y33 y34 y35=>B_99_1_1 (J_99_1_1 y31 y32 y33 y34 y35) (fun y36 y37=>some (y37,y36,PUnit.unit)) fun y38 y39=>some (y38,y39,PUnit.unit))
noncomputable def Sp.p_99(a0:(((List Int)×((List Int)×(Int×Unit)))×(Int×(Int×Unit))))(a1:Int):Bool:=(F_99 a0 a1).isSome
noncomputable def Sp.v_99(a0:(((List Int)×((List Int)×(Int×Unit)))×(Int×(Int×Unit))))(a1:Int):(List (Int×((List Int)×Unit)))×Int×Unit:=(F_99 a0 a1).getD (dfH R_99)
noncomputable def s_99:Summ:=shS A_99 R_99 (fun x=>p_99 x.1 x.2.1) (fun x=>v_99 x.1 x.2.1)
theorem pv_99(a0:(((List Int)×((List Int)×(Int×Unit)))×(Int×(Int×Unit))))(a1:Int){y:(List (Int×((List Int)×Unit)))×Int×Unit}(h:F_99 a0 a1=some y):p_99 a0 a1=true/\v_99 a0 a1=y:=pvG h
theorem run_99(x:HDen A_99)(y:HDen R_99)(h:F_99 x.1 x.2.1=some y):rnF sm_99 1 99 A_99 R_99 x y:=runG noO_ok (os:=[O_99_0,O_99_1_1]) ⟨OK_99_0,OK_99_1_1,trivial⟩ (Eq.trans (by kernel_rfl) h)
end
noncomputable section
abbrev A_87:List Ty:=[(.pair (.pair (.slice (.int .u32)) (.pair (.slice (.int .i64)) (.pair (.int .i64) .unit))) (.pair (.int .i64) (.pair (.int .i64) .unit)))]
abbrev R_87:List Ty:=[(.slice (.pair (.int .i64) (.pair (.slice (.int .u32)) .unit)))]
noncomputable def sm_87:Nat->Option Summ:=smL [(50,s_50),(99,s_99)]
noncomputable def F_87(a0:(((List Int)×((List Int)×(Int×Unit)))×(Int×(Int×Unit)))):Option ((List (Int×((List Int)×Unit)))×Unit) :=
 gd (p_50 a0) (gd (p_99 a0 ((v_50 a0).1)) (some ((v_99 a0 ((v_50 a0).1)).1,PUnit.unit)))
noncomputable def Sp.p_87(a0:(((List Int)×((List Int)×(Int×Unit)))×(Int×(Int×Unit)))):Bool:=(F_87 a0).isSome
noncomputable def Sp.v_87(a0:(((List Int)×((List Int)×(Int×Unit)))×(Int×(Int×Unit)))):(List (Int×((List Int)×Unit)))×Unit:=(F_87 a0).getD (dfH R_87)
noncomputable def s_87:Summ:=shS A_87 R_87 (fun x=>p_87 x.1) (fun x=>v_87 x.1)
theorem pv_87(a0:(((List Int)×((List Int)×(Int×Unit)))×(Int×(Int×Unit)))){y:(List (Int×((List Int)×Unit)))×Unit}(h:F_87 a0=some y):p_87 a0=true/\v_87 a0=y:=pvG h
theorem run_87(x:HDen A_87)(y:HDen R_87)(h:F_87 x.1=some y):rnF sm_87 1 87 A_87 R_87 x y:=runG noO_ok (os:=[]) trivial (Eq.trans (by kernel_rfl) h)
end
noncomputable section
abbrev A_51:List Ty:=[(.pair (.pair (.slice (.int .u32)) (.pair (.slice (.int .i64)) (.pair (.int .i64) .unit))) (.pair (.int .i64) (.pair (.int .i64) .unit))),(.int .i64)]
abbrev R_51:List Ty:=[(.slice (.int .u32)),.bool]
noncomputable def sm_51:Nat->Option Summ:=smL [(87,s_87)]
noncomputable def T_51_0:PS:=⟨28,[(1,.hv (.int .i64)),(6,.hv (.slice (.pair (.int .i64) (.pair (.slice (.int .u32)) .unit)))),(7,.hv (.int .i64))],[],0⟩
inductive Sp.E_51_0 where
 |e0 (p1:List (Int×List Int×Unit)) (p2:Int)
 |e1
noncomputable def Sp.B_51_0{R:Type}(r:Option E_51_0)(k0:(List (Int×List Int×Unit))->Int->Option R)(k1:Option R):Option R:=match r with
 |none=>none
 |some (.e0 p1 p2)=>k0 p1 p2
 |some (.e1)=>k1
noncomputable def Y_51_0{R:Type}(k:Ex->St->Option R):E_51_0->Option R
 | .e0 p1 p2=>k Ex.ret (sx 28 [(4,CV.pure (Ty.slice (Ty.int u32)) (((getD p1 (toNat p2) Zd2).2.1):(List Int))),(5,CV.bool true)] [])
 | .e1=>k (Ex.exit 0) (sx 28 [] [])
noncomputable def Sp.S_51_0{R:Type}(K:Int->(List (Int×List Int×Unit))->Int->Option R)(k:E_51_0->Option R)(p0:Int)(p1:List (Int×List Int×Unit))(p2:Int):Option R:=
 bif decide (p2<(↑(length p1):Int))then gd (inB p2 (length p1)) (bif(getD p1 (toNat p2) Zd2).1==p0 then gd (inB p2 (length p1)) (k (E_51_0.e0 p1 p2))else K p0 p1 (wrap i64 (p2+1)))else k (E_51_0.e1)
noncomputable def Sp.L_51_0:Nat->Int->(List (Int×List Int×Unit))->Int->Option E_51_0
 |0,_,_,_=>none
 |m+1,p0,p1,p2=>S_51_0 (L_51_0 m) some p0 p1 p2
noncomputable def l_51_0(m:Nat)(a:T_51_0.E):Option E_51_0:=L_51_0 m a.1 a.2.1 a.2.2.1
noncomputable def O_51_0{R:Type}:Orc R:=orL T_51_0 (l_51_0 FU) Y_51_0
theorem OK_51_0{R:Type}:okF (R:=R) sm_51 0 (nf 51 0) O_51_0:=lp0 T_51_0 l_51_0 (fun R K k a=>S_51_0 (fun p0 p1 p2=>K (p0,p1,p2,())) k a.1 a.2.1 a.2.2.1) Y_51_0 (fun _ _ _=>by kernel_rfl) (fun _ _ _=>by
 unfold S_51_0
 repeat' first|apply gdN|apply condN|rfl) (ok0 _)
noncomputable def F_51(a0:(((List Int)×((List Int)×(Int×Unit)))×(Int×(Int×Unit))))(a1:Int):Option ((List Int)×Bool×Unit) :=
 gd (p_87 a0) (B_51_0 (L_51_0 4611686018427387904 a1 ((v_87 a0).1) 0) (fun y2 y3=>some ((getD y2 (toNat y3) Zd2).2.1,true,PUnit.unit)) (some ([],false,PUnit.unit)))
noncomputable def Sp.p_51(a0:(((List Int)×((List Int)×(Int×Unit)))×(Int×(Int×Unit))))(a1:Int):Bool:=(F_51 a0 a1).isSome
noncomputable def Sp.v_51(a0:(((List Int)×((List Int)×(Int×Unit)))×(Int×(Int×Unit))))(a1:Int):(List Int)×Bool×Unit:=(F_51 a0 a1).getD (dfH R_51)
noncomputable def s_51:Summ:=shS A_51 R_51 (fun x=>p_51 x.1 x.2.1) (fun x=>v_51 x.1 x.2.1)
theorem pv_51(a0:(((List Int)×((List Int)×(Int×Unit)))×(Int×(Int×Unit))))(a1:Int){y:(List Int)×Bool×Unit}(h:F_51 a0 a1=some y):p_51 a0 a1=true/\v_51 a0 a1=y:=pvG h
theorem run_51(x:HDen A_51)(y:HDen R_51)(h:F_51 x.1 x.2.1=some y):rnF sm_51 1 51 A_51 R_51 x y:=runG noO_ok (os:=[O_51_0]) ⟨OK_51_0,trivial⟩ (Eq.trans (by kernel_rfl) h)
end
noncomputable section
abbrev A_53:List Ty:=[(.pair (.int .i64) (.pair (.int .i64) (.pair (.int .i64) (.pair (.int .i64) (.pair (.int .i64) (.pair (.slice (.int .i64)) (.pair (.int .i64) .unit)))))))]
abbrev R_53:List Ty:=[.bool]
noncomputable def sm_53:Nat->Option Summ:=smL []
noncomputable def F_53(a0:(Int×(Int×(Int×(Int×(Int×((List Int)×(Int×Unit)))))))):Option (Bool×Unit) :=
 some (Sp.andI i64 (a0.1) (6:Int)!=(0:Int),PUnit.unit)
noncomputable def Sp.p_53(a0:(Int×(Int×(Int×(Int×(Int×((List Int)×(Int×Unit)))))))):Bool:=(F_53 a0).isSome
noncomputable def Sp.v_53(a0:(Int×(Int×(Int×(Int×(Int×((List Int)×(Int×Unit)))))))):Bool×Unit:=(F_53 a0).getD (dfH R_53)
noncomputable def s_53:Summ:=shN A_53 R_53 (fun x=>p_53 x.1) (fun x=>v_53 x.1)
theorem pv_53(a0:(Int×(Int×(Int×(Int×(Int×((List Int)×(Int×Unit)))))))){y:Bool×Unit}(h:F_53 a0=some y):p_53 a0=true/\v_53 a0=y:=pvG h
theorem run_53(x:HDen A_53)(y:HDen R_53)(h:F_53 x.1=some y):rnF sm_53 1 53 A_53 R_53 x y:=runG noO_ok (os:=[]) trivial (Eq.trans (by kernel_rfl) h)
end
noncomputable section
abbrev A_106:List Ty:=[(.pair (.int .i64) (.pair (.int .i64) (.pair (.int .i64) (.pair (.int .i64) (.pair (.int .i64) (.pair (.slice (.int .i64)) (.pair (.int .i64) .unit)))))))]
abbrev R_106:List Ty:=[(.slice (.int .u32))]
noncomputable def sm_106:Nat->Option Summ:=smL []
noncomputable def T_106_0:PS:=⟨53,[(1,.kc (.ptr 0 [])),(3,.kc (.whole 1)),(4,.hv (.int .i64))],[.mem (.hv (.pair (.int .i64) (.pair (.int .i64) (.pair (.int .i64) (.pair (.int .i64) (.pair (.int .i64) (.pair (.slice (.int .i64)) (.pair (.int .i64) .unit)))))))),.vec 51 (.int .u32)],0⟩
inductive Sp.E_106_0 where
 |e0 (p2:List Int)
noncomputable def Sp.B_106_0{R:Type}(r:Option E_106_0)(k0:List Int->Option R):Option R:=match r with
 |none=>none
 |some (.e0 p2)=>k0 p2
noncomputable def Y_106_0{R:Type}(k:Ex->St->Option R):E_106_0->Option R
 | .e0 p2=>k (Ex.exit 0) (sx 53 [(3,CV.whole 0)] [Blk.vec 51 (Ty.int u32) p2])
noncomputable def Sp.S_106_0{R:Type}(K:Int->(Int×Int×Int×Int×Int×List Int×Int×Unit)->List Int->Option R)(k:E_106_0->Option R)(p0:Int)(p1:Int×Int×Int×Int×Int×List Int×Int×Unit)(p2:List Int):Option R:=
 bif decide (p0<(↑(length (p1.2.2.2.2.2.1)):Int))then gd (inB p0 (length (p1.2.2.2.2.2.1))) (gd (room (length p2+2) 4) (K (wrap i64 (p0+1)) p1 (p2++[wrap u32 (Int.fdiv (wrap i64 (getD (p1.2.2.2.2.2.1) (toNat p0) (0:Int)+(1099511627776:Int))) 4294967296),wrap u32 (Int.tmod (wrap i64 (getD (p1.2.2.2.2.2.1) (toNat p0) (0:Int)+(1099511627776:Int))) 4294967296)])))else k (E_106_0.e0 p2)
noncomputable def Sp.L_106_0:Nat->Int->(Int×Int×Int×Int×Int×List Int×Int×Unit)->List Int->Option E_106_0
 |0,_,_,_=>none
 |m+1,p0,p1,p2=>S_106_0 (L_106_0 m) some p0 p1 p2
noncomputable def l_106_0(m:Nat)(a:T_106_0.E):Option E_106_0:=L_106_0 m a.1 a.2.1 a.2.2.1
noncomputable def O_106_0{R:Type}:Orc R:=orL T_106_0 (l_106_0 FU) Y_106_0
theorem OK_106_0{R:Type}:okF (R:=R) sm_106 0 (nf 106 0) O_106_0:=lp0 T_106_0 l_106_0 (fun R K k a=>S_106_0 (fun p0 p1 p2=>K (p0,p1,p2,())) k a.1 a.2.1 a.2.2.1) Y_106_0 (fun _ _ _=>by kernel_rfl) (fun _ _ _=>by
 unfold S_106_0
 repeat' first|apply gdN|apply condN|rfl) (ok0 _)
noncomputable def F_106(a0:(Int×(Int×(Int×(Int×(Int×((List Int)×(Int×Unit)))))))):Option ((List Int)×Unit) :=
 B_106_0 (L_106_0 4611686018427387904 0 a0 [wrap u32 (wrap i64 (wrap i64 (wrap i64 (Sp.andI i64 (a0.1) 22+wrap i64 (a0.2.2.1*256))+wrap i64 (a0.2.2.2.1*65536))+wrap i64 (a0.2.2.2.2.1*16777216))),wrap u32 (a0.2.2.2.2.2.2.1),wrap u32 (↑(length (a0.2.2.2.2.2.1)):Int)]) fun y1=>some (y1,PUnit.unit)
noncomputable def Sp.p_106(a0:(Int×(Int×(Int×(Int×(Int×((List Int)×(Int×Unit)))))))):Bool:=(F_106 a0).isSome
noncomputable def Sp.v_106(a0:(Int×(Int×(Int×(Int×(Int×((List Int)×(Int×Unit)))))))):(List Int)×Unit:=(F_106 a0).getD (dfH R_106)
noncomputable def s_106:Summ:=shS A_106 R_106 (fun x=>p_106 x.1) (fun x=>v_106 x.1)
theorem pv_106(a0:(Int×(Int×(Int×(Int×(Int×((List Int)×(Int×Unit)))))))){y:(List Int)×Unit}(h:F_106 a0=some y):p_106 a0=true/\v_106 a0=y:=pvG h
theorem run_106(x:HDen A_106)(y:HDen R_106)(h:F_106 x.1=some y):rnF sm_106 1 106 A_106 R_106 x y:=runG noO_ok (os:=[O_106_0]) ⟨OK_106_0,trivial⟩ (Eq.trans (by kernel_rfl) h)
end
noncomputable section
abbrev A_66:List Ty:=[(.pair (.slice (.pair (.int .i64) (.pair (.int .i64) (.pair (.int .i64) (.pair (.int .i64) (.pair (.int .i64) (.pair (.int .i64) (.pair .bool (.pair (.int .i64) .unit))))))))) (.pair (.slice (.pair (.int .i64) (.pair (.int .i64) (.pair (.int .i64) (.pair (.int .i64) (.pair (.int .i64) (.pair (.slice (.int .i64)) (.pair (.int .i64) .unit)))))))) (.pair (.int .i64) (.pair .bool .unit)))),(.int .i64)]
abbrev R_66:List Ty:=[(.slice (.int .u32))]
noncomputable def sm_66:Nat->Option Summ:=smL [(53,s_53),(106,s_106)]
noncomputable def F_66(a0:((List (Int×(Int×(Int×(Int×(Int×(Int×(Bool×(Int×Unit)))))))))×((List (Int×(Int×(Int×(Int×(Int×((List Int)×(Int×Unit))))))))×(Int×(Bool×Unit)))))(a1:Int):Option ((List Int)×Unit) :=
 bif a1==254 then some ([wrap u32 (a0.2.2.1)],PUnit.unit)else gd (inB a1 (length (a0.2.1))) (gd (p_53 (getD (a0.2.1) (toNat a1) Zd0)) (bif !(v_53 (getD (a0.2.1) (toNat a1) Zd0)).1 then some ([],PUnit.unit)else gd (inB a1 (length (a0.1))) (gd (inB a1 (length (a0.2.1))) (gd (p_106 (getD (a0.2.1) (toNat a1) Zd0)) (gd (room (1+length ((v_106 (getD (a0.2.1) (toNat a1) Zd0)).1)) 4) (some ([wrap u32 ((getD (a0.1) (toNat a1) Zd1).1)]++(v_106 (getD (a0.2.1) (toNat a1) Zd0)).1,PUnit.unit)))))))
noncomputable def Sp.p_66(a0:((List (Int×(Int×(Int×(Int×(Int×(Int×(Bool×(Int×Unit)))))))))×((List (Int×(Int×(Int×(Int×(Int×((List Int)×(Int×Unit))))))))×(Int×(Bool×Unit)))))(a1:Int):Bool:=(F_66 a0 a1).isSome
noncomputable def Sp.v_66(a0:((List (Int×(Int×(Int×(Int×(Int×(Int×(Bool×(Int×Unit)))))))))×((List (Int×(Int×(Int×(Int×(Int×((List Int)×(Int×Unit))))))))×(Int×(Bool×Unit)))))(a1:Int):(List Int)×Unit:=(F_66 a0 a1).getD (dfH R_66)
noncomputable def s_66:Summ:=shS A_66 R_66 (fun x=>p_66 x.1 x.2.1) (fun x=>v_66 x.1 x.2.1)
theorem pv_66(a0:((List (Int×(Int×(Int×(Int×(Int×(Int×(Bool×(Int×Unit)))))))))×((List (Int×(Int×(Int×(Int×(Int×((List Int)×(Int×Unit))))))))×(Int×(Bool×Unit)))))(a1:Int){y:(List Int)×Unit}(h:F_66 a0 a1=some y):p_66 a0 a1=true/\v_66 a0 a1=y:=pvG h
theorem run_66(x:HDen A_66)(y:HDen R_66)(h:F_66 x.1 x.2.1=some y):rnF sm_66 1 66 A_66 R_66 x y:=runG noO_ok (os:=[]) trivial (Eq.trans (by kernel_rfl) h)
end
noncomputable section
abbrev A_64:List Ty:=[(.pair (.pair (.slice (.int .u32)) (.pair (.slice (.int .i64)) (.pair (.int .i64) .unit))) (.pair (.int .i64) (.pair (.int .i64) .unit))),(.pair (.slice (.pair (.int .i64) (.pair (.int .i64) (.pair (.int .i64) (.pair (.int .i64) (.pair (.int .i64) (.pair (.int .i64) (.pair .bool (.pair (.int .i64) .unit))))))))) (.pair (.slice (.pair (.int .i64) (.pair (.int .i64) (.pair (.int .i64) (.pair (.int .i64) (.pair (.int .i64) (.pair (.slice (.int .i64)) (.pair (.int .i64) .unit)))))))) (.pair (.int .i64) (.pair .bool .unit)))),(.int .i64)]
abbrev R_64:List Ty:=[.bool]
noncomputable def sm_64:Nat->Option Summ:=smL [(51,s_51),(63,s_63),(66,s_66)]
noncomputable def F_64(a0:(((List Int)×((List Int)×(Int×Unit)))×(Int×(Int×Unit))))(a1:((List (Int×(Int×(Int×(Int×(Int×(Int×(Bool×(Int×Unit)))))))))×((List (Int×(Int×(Int×(Int×(Int×((List Int)×(Int×Unit))))))))×(Int×(Bool×Unit)))))(a2:Int):Option (Bool×Unit) :=
 gd (p_51 a0 a2) (gd (p_66 a1 a2) (bif !(v_51 a0 a2).2.1 then bif(↑(length ((v_66 a1 a2).1)):Int)==0 then some (true,PUnit.unit)else bif a2==254 then some (a1.2.2.1==0,PUnit.unit)else some (false,PUnit.unit)else gd (p_63 ((v_51 a0 a2).1) ((v_66 a1 a2).1)) (some ((v_63 ((v_51 a0 a2).1) ((v_66 a1 a2).1)).1,PUnit.unit))))
noncomputable def Sp.p_64(a0:(((List Int)×((List Int)×(Int×Unit)))×(Int×(Int×Unit))))(a1:((List (Int×(Int×(Int×(Int×(Int×(Int×(Bool×(Int×Unit)))))))))×((List (Int×(Int×(Int×(Int×(Int×((List Int)×(Int×Unit))))))))×(Int×(Bool×Unit)))))(a2:Int):Bool:=(F_64 a0 a1 a2).isSome
noncomputable def Sp.v_64(a0:(((List Int)×((List Int)×(Int×Unit)))×(Int×(Int×Unit))))(a1:((List (Int×(Int×(Int×(Int×(Int×(Int×(Bool×(Int×Unit)))))))))×((List (Int×(Int×(Int×(Int×(Int×((List Int)×(Int×Unit))))))))×(Int×(Bool×Unit)))))(a2:Int):Bool×Unit:=(F_64 a0 a1 a2).getD (dfH R_64)
noncomputable def s_64:Summ:=shN A_64 R_64 (fun x=>p_64 x.1 x.2.1 x.2.2.1) (fun x=>v_64 x.1 x.2.1 x.2.2.1)
theorem pv_64(a0:(((List Int)×((List Int)×(Int×Unit)))×(Int×(Int×Unit))))(a1:((List (Int×(Int×(Int×(Int×(Int×(Int×(Bool×(Int×Unit)))))))))×((List (Int×(Int×(Int×(Int×(Int×((List Int)×(Int×Unit))))))))×(Int×(Bool×Unit)))))(a2:Int){y:Bool×Unit}(h:F_64 a0 a1 a2=some y):p_64 a0 a1 a2=true/\v_64 a0 a1 a2=y:=pvG h
theorem run_64(x:HDen A_64)(y:HDen R_64)(h:F_64 x.1 x.2.1 x.2.2.1=some y):rnF sm_64 1 64 A_64 R_64 x y:=runG noO_ok (os:=[]) trivial (Eq.trans (by kernel_rfl) h)
end
noncomputable section
abbrev A_100:List Ty:=[(.int .i64),(.slice (.int .u32))]
abbrev R_100:List Ty:=[(.slice (.int .u32))]
noncomputable def sm_100:Nat->Option Summ:=smL [(135,s_135),(136,s_136)]
noncomputable def F_100(a0:Int)(a1:(List Int)):Option ((List Int)×Unit) :=
 gd (p_136 (wrap i64 (wrap i64 (256*a0)+(↑(length a1):Int)))) (gd (room (1+length a1) 4) (gd (p_135 ([(v_136 (wrap i64 (wrap i64 (256*a0)+(↑(length a1):Int)))).1]++a1)) (gd (p_136 ((v_135 ([(v_136 (wrap i64 (wrap i64 (256*a0)+(↑(length a1):Int)))).1]++a1)).1)) (gd (room (length ([(v_136 (wrap i64 (wrap i64 (256*a0)+(↑(length a1):Int)))).1]++a1)+1) 4) (some ([(v_136 (wrap i64 (wrap i64 (256*a0)+(↑(length a1):Int)))).1]++a1++[(v_136 ((v_135 ([(v_136 (wrap i64 (wrap i64 (256*a0)+(↑(length a1):Int)))).1]++a1)).1)).1],PUnit.unit))))))
noncomputable def Sp.p_100(a0:Int)(a1:(List Int)):Bool:=(F_100 a0 a1).isSome
noncomputable def Sp.v_100(a0:Int)(a1:(List Int)):(List Int)×Unit:=(F_100 a0 a1).getD (dfH R_100)
noncomputable def s_100:Summ:=shS A_100 R_100 (fun x=>p_100 x.1 x.2.1) (fun x=>v_100 x.1 x.2.1)
theorem pv_100(a0:Int)(a1:(List Int)){y:(List Int)×Unit}(h:F_100 a0 a1=some y):p_100 a0 a1=true/\v_100 a0 a1=y:=pvG h
theorem run_100(x:HDen A_100)(y:HDen R_100)(h:F_100 x.1 x.2.1=some y):rnF sm_100 1 100 A_100 R_100 x y:=runG noO_ok (os:=[]) trivial (Eq.trans (by kernel_rfl) h)
end
noncomputable section
abbrev A_102:List Ty:=[(.int .i64),(.slice (.int .u32))]
abbrev R_102:List Ty:=[(.slice (.pair .bool (.pair (.int .i64) (.pair (.int .u32) .unit))))]
noncomputable def sm_102:Nat->Option Summ:=smL []
noncomputable def T_102_0:PS:=⟨25,[(0,.hv (.int .i64)),(1,.hv (.slice (.int .u32))),(5,.kc (.whole 0)),(6,.hv (.int .i64))],[.vec 140 (.pair .bool (.pair (.int .i64) (.pair (.int .u32) .unit)))],0⟩
inductive Sp.E_102_0 where
 |e0 (p3:List (Bool×Int×Int×Unit))
noncomputable def Sp.B_102_0{R:Type}(r:Option E_102_0)(k0:(List (Bool×Int×Int×Unit))->Option R):Option R:=match r with
 |none=>none
 |some (.e0 p3)=>k0 p3
noncomputable def Y_102_0{R:Type}(k:Ex->St->Option R):E_102_0->Option R
 | .e0 p3=>k (Ex.exit 0) (sx 25 [(5,CV.whole 0)] [Blk.vec 140 (Ty.pair Ty.bool (Ty.pair (Ty.int i64) (Ty.pair (Ty.int u32) Ty.unit))) p3])
noncomputable def Sp.S_102_0{R:Type}(K:Int->List Int->Int->(List (Bool×Int×Int×Unit))->Option R)(k:E_102_0->Option R)(p0:Int)(p1:List Int)(p2:Int)(p3:List (Bool×Int×Int×Unit)):Option R:=
 bif decide (p2<(↑(length p1):Int))then gd (inB p2 (length p1)) (gd (room (length p3+1) 24) (K p0 p1 (wrap i64 (p2+1)) (p3++[(false,wrap i64 (p0+p2),getD p1 (toNat p2) 0,PUnit.unit)])))else k (E_102_0.e0 p3)
noncomputable def Sp.L_102_0:Nat->Int->List Int->Int->(List (Bool×Int×Int×Unit))->Option E_102_0
 |0,_,_,_,_=>none
 |m+1,p0,p1,p2,p3=>S_102_0 (L_102_0 m) some p0 p1 p2 p3
noncomputable def l_102_0(m:Nat)(a:T_102_0.E):Option E_102_0:=L_102_0 m a.1 a.2.1 a.2.2.1 a.2.2.2.1
noncomputable def O_102_0{R:Type}:Orc R:=orL T_102_0 (l_102_0 FU) Y_102_0
theorem OK_102_0{R:Type}:okF (R:=R) sm_102 0 (nf 102 0) O_102_0:=lp0 T_102_0 l_102_0 (fun R K k a=>S_102_0 (fun p0 p1 p2 p3=>K (p0,p1,p2,p3,())) k a.1 a.2.1 a.2.2.1 a.2.2.2.1) Y_102_0 (fun _ _ _=>by kernel_rfl) (fun _ _ _=>by
 unfold S_102_0
 repeat' first|apply gdN|apply condN|rfl) (ok0 _)
noncomputable def F_102(a0:Int)(a1:(List Int)):Option ((List (Bool×(Int×(Int×Unit))))×Unit) :=
 B_102_0 (L_102_0 4611686018427387904 a0 a1 0 []) fun y1=>some (y1,PUnit.unit)
noncomputable def Sp.p_102(a0:Int)(a1:(List Int)):Bool:=(F_102 a0 a1).isSome
noncomputable def Sp.v_102(a0:Int)(a1:(List Int)):(List (Bool×(Int×(Int×Unit))))×Unit:=(F_102 a0 a1).getD (dfH R_102)
noncomputable def s_102:Summ:=shS A_102 R_102 (fun x=>p_102 x.1 x.2.1) (fun x=>v_102 x.1 x.2.1)
theorem pv_102(a0:Int)(a1:(List Int)){y:(List (Bool×(Int×(Int×Unit))))×Unit}(h:F_102 a0 a1=some y):p_102 a0 a1=true/\v_102 a0 a1=y:=pvG h
theorem run_102(x:HDen A_102)(y:HDen R_102)(h:F_102 x.1 x.2.1=some y):rnF sm_102 1 102 A_102 R_102 x y:=runG noO_ok (os:=[O_102_0]) ⟨OK_102_0,trivial⟩ (Eq.trans (by kernel_rfl) h)
end
noncomputable section
abbrev A_137:List Ty:=[(.pair (.slice (.int .u32)) (.pair (.slice (.int .i64)) (.pair (.int .i64) .unit))),(.int .i64),(.int .i64)]
abbrev R_137:List Ty:=[.bool]
noncomputable def sm_137:Nat->Option Summ:=smL []
noncomputable def T_137_0:PS:=⟨23,[(1,.hv (.int .i64)),(2,.hv (.int .i64)),(3,.kc (.ptr 0 [])),(7,.hv (.int .i64))],[.mem (.hv (.pair (.slice (.int .u32)) (.pair (.slice (.int .i64)) (.pair (.int .i64) .unit))))],0⟩
inductive Sp.E_137_0 where
 |e0
 |e1
noncomputable def Sp.B_137_0{R:Type}(r:Option E_137_0)(k0 k1:Option R):Option R:=match r with
 |none=>none
 |some (.e0)=>k0
 |some (.e1)=>k1
noncomputable def Y_137_0{R:Type}(k:Ex->St->Option R):E_137_0->Option R
 | .e0=>k Ex.ret (sx 23 [(6,CV.bool true)] [])
 | .e1=>k (Ex.exit 0) (sx 23 [] [])
noncomputable def Sp.S_137_0{R:Type}(K:Int->Int->Int->(List Int×List Int×Int×Unit)->Option R)(k:E_137_0->Option R)(p0 p1 p2:Int)(p3:List Int×List Int×Int×Unit):Option R:=
 bif decide (p2<p1)then gd (inB (wrap i64 (p0+p2)) (length (p3.2.1))) (bif getD (p3.2.1) (toNat (wrap i64 (p0+p2))) 0==p3.2.2.1 then k (E_137_0.e0)else K p0 p1 (wrap i64 (p2+1)) p3)else k (E_137_0.e1)
noncomputable def Sp.L_137_0:Nat->Int->Int->Int->(List Int×List Int×Int×Unit)->Option E_137_0
 |0,_,_,_,_=>none
 |m+1,p0,p1,p2,p3=>S_137_0 (L_137_0 m) some p0 p1 p2 p3
noncomputable def l_137_0(m:Nat)(a:T_137_0.E):Option E_137_0:=L_137_0 m a.1 a.2.1 a.2.2.1 a.2.2.2.1
noncomputable def O_137_0{R:Type}:Orc R:=orL T_137_0 (l_137_0 FU) Y_137_0
theorem OK_137_0{R:Type}:okF (R:=R) sm_137 0 (nf 137 0) O_137_0:=lp0 T_137_0 l_137_0 (fun R K k a=>S_137_0 (fun p0 p1 p2 p3=>K (p0,p1,p2,p3,())) k a.1 a.2.1 a.2.2.1 a.2.2.2.1) Y_137_0 (fun _ _ _=>by kernel_rfl) (fun _ _ _=>by
 unfold S_137_0
 repeat' first|apply gdN|apply condN|rfl) (ok0 _)
noncomputable def F_137(a0:((List Int)×((List Int)×(Int×Unit))))(a1 a2:Int):Option (Bool×Unit) :=
 B_137_0 (L_137_0 4611686018427387904 a1 a2 0 a0) (some (true,PUnit.unit)) (some (false,PUnit.unit))
noncomputable def Sp.p_137(a0:((List Int)×((List Int)×(Int×Unit))))(a1 a2:Int):Bool:=(F_137 a0 a1 a2).isSome
noncomputable def Sp.v_137(a0:((List Int)×((List Int)×(Int×Unit))))(a1 a2:Int):Bool×Unit:=(F_137 a0 a1 a2).getD (dfH R_137)
noncomputable def s_137:Summ:=shN A_137 R_137 (fun x=>p_137 x.1 x.2.1 x.2.2.1) (fun x=>v_137 x.1 x.2.1 x.2.2.1)
theorem pv_137(a0:((List Int)×((List Int)×(Int×Unit))))(a1 a2:Int){y:Bool×Unit}(h:F_137 a0 a1 a2=some y):p_137 a0 a1 a2=true/\v_137 a0 a1 a2=y:=pvG h
theorem run_137(x:HDen A_137)(y:HDen R_137)(h:F_137 x.1 x.2.1 x.2.2.1=some y):rnF sm_137 1 137 A_137 R_137 x y:=runG noO_ok (os:=[O_137_0]) ⟨OK_137_0,trivial⟩ (Eq.trans (by kernel_rfl) h)
end
noncomputable section
abbrev A_138:List Ty:=[(.int .i64),(.int .i64)]
abbrev R_138:List Ty:=[(.slice (.pair .bool (.pair (.int .i64) (.pair (.int .u32) .unit))))]
noncomputable def sm_138:Nat->Option Summ:=smL []
noncomputable def T_138_0:PS:=⟨20,[(0,.hv (.int .i64)),(1,.hv (.int .i64)),(5,.kc (.whole 0)),(6,.hv (.int .i64))],[.vec 140 (.pair .bool (.pair (.int .i64) (.pair (.int .u32) .unit)))],0⟩
inductive Sp.E_138_0 where
 |e0 (p3:List (Bool×Int×Int×Unit))
noncomputable def Sp.B_138_0{R:Type}(r:Option E_138_0)(k0:(List (Bool×Int×Int×Unit))->Option R):Option R:=match r with
 |none=>none
 |some (.e0 p3)=>k0 p3
noncomputable def Y_138_0{R:Type}(k:Ex->St->Option R):E_138_0->Option R
 | .e0 p3=>k (Ex.exit 0) (sx 20 [(5,CV.whole 0)] [Blk.vec 140 (Ty.pair Ty.bool (Ty.pair (Ty.int i64) (Ty.pair (Ty.int u32) Ty.unit))) p3])
noncomputable def Sp.S_138_0{R:Type}(K:Int->Int->Int->(List (Bool×Int×Int×Unit))->Option R)(k:E_138_0->Option R)(p0 p1 p2:Int)(p3:List (Bool×Int×Int×Unit)):Option R:=
 bif decide (p2<p1)then gd (room (length p3+1) 24) (K p0 p1 (wrap i64 (p2+1)) (p3++[(true,wrap i64 (p0+p2),0,PUnit.unit)]))else k (E_138_0.e0 p3)
noncomputable def Sp.L_138_0:Nat->Int->Int->Int->(List (Bool×Int×Int×Unit))->Option E_138_0
 |0,_,_,_,_=>none
 |m+1,p0,p1,p2,p3=>S_138_0 (L_138_0 m) some p0 p1 p2 p3
noncomputable def l_138_0(m:Nat)(a:T_138_0.E):Option E_138_0:=L_138_0 m a.1 a.2.1 a.2.2.1 a.2.2.2.1
noncomputable def O_138_0{R:Type}:Orc R:=orL T_138_0 (l_138_0 FU) Y_138_0
theorem OK_138_0{R:Type}:okF (R:=R) sm_138 0 (nf 138 0) O_138_0:=lp0 T_138_0 l_138_0 (fun R K k a=>S_138_0 (fun p0 p1 p2 p3=>K (p0,p1,p2,p3,())) k a.1 a.2.1 a.2.2.1 a.2.2.2.1) Y_138_0 (fun _ _ _=>by kernel_rfl) (fun _ _ _=>by
 unfold S_138_0
 repeat' first|apply gdN|apply condN|rfl) (ok0 _)
noncomputable def F_138(a0 a1:Int):Option ((List (Bool×(Int×(Int×Unit))))×Unit) :=
 B_138_0 (L_138_0 4611686018427387904 a0 a1 0 []) fun y1=>some (y1,PUnit.unit)
noncomputable def Sp.p_138(a0 a1:Int):Bool:=(F_138 a0 a1).isSome
noncomputable def Sp.v_138(a0 a1:Int):(List (Bool×(Int×(Int×Unit))))×Unit:=(F_138 a0 a1).getD (dfH R_138)
noncomputable def s_138:Summ:=ownS A_138 140 [] (.slice (.pair .bool (.pair (.int .i64) (.pair (.int .u32) .unit)))) [] (fun x=>p_138 x.1 x.2.1) (fun x=>v_138 x.1 x.2.1)
theorem pv_138(a0 a1:Int){y:(List (Bool×(Int×(Int×Unit))))×Unit}(h:F_138 a0 a1=some y):p_138 a0 a1=true/\v_138 a0 a1=y:=pvG h
theorem run_138(x:HDen A_138)(y:HDen R_138)(h:F_138 x.1 x.2.1=some y):evFn sm_138 fns FU 1 138 (ofH A_138 x) [] (ownK 140 [] (.slice (.pair .bool (.pair (.int .i64) (.pair (.int .u32) .unit)))) [])=some y:=runG noO_ok (os:=[O_138_0]) ⟨OK_138_0,trivial⟩ (Eq.trans (by kernel_rfl) h)
end
noncomputable section
abbrev Zt104_0:Type:=(List Int×List Int×Int×Unit)×Int×Int×Unit
abbrev Zy104_1:Ty:=(.pair (.pair (.slice (.int .u32)) (.pair (.slice (.int .i64)) (.pair (.int .i64) .unit))) (.pair (.int .i64) (.pair (.int .i64) .unit)))
abbrev Zy104_2:Ty:=(.slice (.pair (.int .i64) (.pair (.slice (.int .u32)) .unit)))
abbrev Zt104_3:Type:=List (Bool×Int×Int×Unit)
abbrev Zt104_4:Type:=List (Int×List Int×Unit)
abbrev A_104:List Ty:=[(.pair (.pair (.slice (.int .u32)) (.pair (.slice (.int .i64)) (.pair (.int .i64) .unit))) (.pair (.int .i64) (.pair (.int .i64) .unit))),(.slice (.pair (.int .i64) (.pair (.slice (.int .u32)) .unit)))]
abbrev R_104:List Ty:=[(.slice (.pair .bool (.pair (.int .i64) (.pair (.int .u32) .unit)))),(.int .i64)]
noncomputable def sm_104:Nat->Option Summ:=smL [(50,s_50),(86,s_86),(100,s_100),(101,s_101),(102,s_102),(103,s_103),(136,s_136),(137,s_137),(138,s_138)]
noncomputable def T_104_0:PS:=⟨105,[(1,.hv Zy104_2),(2,.kc (.ptr 0 [])),(6,.hv (.int .i64)),(7,.hv (.int .i64))],[.mem (.hv Zy104_1)],0⟩
inductive Sp.E_104_0 where
 |e0 (p0:Zt104_4) (p1:Int) (p3:Zt104_0)
noncomputable def Sp.B_104_0{R:Type}(r:Option E_104_0)(k0:Zt104_4->Int->Zt104_0->Option R):Option R:=match r with
 |none=>none
 |some (.e0 p0 p1 p3)=>k0 p0 p1 p3
noncomputable def Y_104_0{R:Type}(k:Ex->St->Option R):E_104_0->Option R
 | .e0 p0 p1 p3=>k (Ex.exit 0) (sx 105 [(1,CV.pure (Ty.slice (Ty.pair (Ty.int i64) (Ty.pair (Ty.slice (Ty.int u32)) Ty.unit))) p0),(2,CV.ptr 0 []),(6,CV.int i64 p1)] [Blk.mem (CV.pure (Ty.pair (Ty.pair (Ty.slice (Ty.int u32)) (Ty.pair (Ty.slice (Ty.int i64)) (Ty.pair (Ty.int i64) Ty.unit))) (Ty.pair (Ty.int i64) (Ty.pair (Ty.int i64) Ty.unit))) p3)])
noncomputable def Sp.S_104_0{R:Type}(K:(List (Int×List Int×Unit))->Int->Int->((List Int×List Int×Int×Unit)×Int×Int×Unit)->Option R)(k:E_104_0->Option R)(p0:List (Int×List Int×Unit))(p1 p2:Int)(p3:(List Int×List Int×Int×Unit)×Int×Int×Unit):Option R:=
 bif decide (p2<(↑(length p0):Int))then gd (inB p2 (length p0)) (K p0 (wrap i64 (wrap i64 (p1+(↑(length ((getD p0 (toNat p2) Zd2).2.1)):Int))+2)) (wrap i64 (p2+1)) p3)else k (E_104_0.e0 p0 p1 p3)
noncomputable def Sp.L_104_0:Nat->(List (Int×List Int×Unit))->Int->Int->((List Int×List Int×Int×Unit)×Int×Int×Unit)->Option E_104_0
 |0,_,_,_,_=>none
 |m+1,p0,p1,p2,p3=>S_104_0 (L_104_0 m) some p0 p1 p2 p3
noncomputable def l_104_0(m:Nat)(a:T_104_0.E):Option E_104_0:=L_104_0 m a.1 a.2.1 a.2.2.1 a.2.2.2.1
noncomputable def O_104_0{R:Type}:Orc R:=orL T_104_0 (l_104_0 FU) Y_104_0
theorem OK_104_0{R:Type}:okF (R:=R) sm_104 0 (nf 104 0) O_104_0:=lp0 T_104_0 l_104_0 (fun R K k a=>S_104_0 (fun p0 p1 p2 p3=>K (p0,p1,p2,p3,())) k a.1 a.2.1 a.2.2.1 a.2.2.2.1) Y_104_0 (fun _ _ _=>by kernel_rfl) (fun _ _ _=>by
 unfold S_104_0
 repeat' first|apply gdN|apply condN|rfl) (ok0 _)
noncomputable def T_104_1:PS:=⟨105,[(1,.hv Zy104_2),(2,.kc (.ptr 0 [])),(8,.hv (.int .i64)),(10,.hv (.int .i64)),(11,.kc (.whole 1)),(12,.hv (.int .i64)),(13,.hv (.int .i64))],[.mem (.hv Zy104_1),.vec 140 (.pair .bool (.pair (.int .i64) (.pair (.int .u32) .unit)))],0⟩
inductive Sp.E_104_1 where
 |e0 (p1 p2:Int) (p5:Zt104_0) (p6:Zt104_3)
noncomputable def Sp.B_104_1{R:Type}(r:Option E_104_1)(k0:Int->Int->Zt104_0->Zt104_3->Option R):Option R:=match r with
 |none=>none
 |some (.e0 p1 p2 p5 p6)=>k0 p1 p2 p5 p6
noncomputable def Y_104_1{R:Type}(k:Ex->St->Option R):E_104_1->Option R
 | .e0 p1 p2 p5 p6=>k (Ex.exit 2) (sx 105 [(2,CV.ptr 0 []),(8,CV.int i64 p1),(10,CV.int i64 p2),(11,CV.whole 1)] [Blk.mem (CV.pure (Ty.pair (Ty.pair (Ty.slice (Ty.int u32)) (Ty.pair (Ty.slice (Ty.int i64)) (Ty.pair (Ty.int i64) Ty.unit))) (Ty.pair (Ty.int i64) (Ty.pair (Ty.int i64) Ty.unit))) p5),Blk.vec 140 (Ty.pair Ty.bool (Ty.pair (Ty.int i64) (Ty.pair (Ty.int u32) Ty.unit))) p6])
noncomputable def Sp.S_104_1{R:Type}(K:(List (Int×List Int×Unit))->Int->Int->Int->Int->((List Int×List Int×Int×Unit)×Int×Int×Unit)->(List (Bool×Int×Int×Unit))->Option R)(k:E_104_1->Option R)(p0:List (Int×List Int×Unit))(p1 p2 p3 p4:Int)(p5:(List Int×List Int×Int×Unit)×Int×Int×Unit)(p6:List (Bool×Int×Int×Unit)):Option R:=
 bif decide (p4<(↑(length p0):Int))then gd (inB p4 (length p0)) (gd (inB p4 (length p0)) (gd (p_100 ((getD p0 (toNat p4) Zd2).1) ((getD p0 (toNat p4) Zd2).2.1)) (gd (p_102 p3 ((v_100 ((getD p0 (toNat p4) Zd2).1) ((getD p0 (toNat p4) Zd2).2.1)).1)) (gd (room (length p6+length ((v_102 p3 ((v_100 ((getD p0 (toNat p4) Zd2).1) ((getD p0 (toNat p4) Zd2).2.1)).1)).1)) 24) (K p0 p1 p2 (wrap i64 (p3+(↑(length ((v_100 ((getD p0 (toNat p4) Zd2).1) ((getD p0 (toNat p4) Zd2).2.1)).1)):Int))) (wrap i64 (p4+1)) p5 (p6++(v_102 p3 ((v_100 ((getD p0 (toNat p4) Zd2).1) ((getD p0 (toNat p4) Zd2).2.1)).1)).1))))))else k (E_104_1.e0 p1 p2 p5 p6)
noncomputable def Sp.L_104_1:Nat->(List (Int×List Int×Unit))->Int->Int->Int->Int->((List Int×List Int×Int×Unit)×Int×Int×Unit)->(List (Bool×Int×Int×Unit))->Option E_104_1
 |0,_,_,_,_,_,_,_=>none
 |m+1,p0,p1,p2,p3,p4,p5,p6=>S_104_1 (L_104_1 m) some p0 p1 p2 p3 p4 p5 p6
noncomputable def l_104_1(m:Nat)(a:T_104_1.E):Option E_104_1:=L_104_1 m a.1 a.2.1 a.2.2.1 a.2.2.2.1 a.2.2.2.2.1 a.2.2.2.2.2.1 a.2.2.2.2.2.2.1
noncomputable def O_104_1{R:Type}:Orc R:=orL T_104_1 (l_104_1 FU) Y_104_1
theorem OK_104_1{R:Type}:okF (R:=R) sm_104 0 (nf 104 1) O_104_1:=lp0 T_104_1 l_104_1 (fun R K k a=>S_104_1 (fun p0 p1 p2 p3 p4 p5 p6=>K (p0,p1,p2,p3,p4,p5,p6,())) k a.1 a.2.1 a.2.2.1 a.2.2.2.1 a.2.2.2.2.1 a.2.2.2.2.2.1 a.2.2.2.2.2.2.1) Y_104_1 (fun _ _ _=>by kernel_rfl) (fun _ _ _=>by
 unfold S_104_1
 repeat' first|apply gdN|apply condN|rfl) (ok0 _)
noncomputable def F_104(a0:(((List Int)×((List Int)×(Int×Unit)))×(Int×(Int×Unit))))(a1:(List (Int×((List Int)×Unit)))):Option ((List (Bool×(Int×(Int×Unit))))×Int×Unit) :=
 B_104_0 (L_104_0 4611686018427387904 a1 1 0 a0) fun y7 y8 y9=>gd (p_101 y9) (bif decide (y8>(v_101 y9).1)then some ([],5,PUnit.unit)else gd (p_50 y9) (gd (p_86 y9 (wrap i64 (1-wrap i64 (1-(v_50 y9).1)))) (gd (p_137 (y9.1) (wrap i64 (y9.2.1+wrap i64 (Int.tdiv (wrap i64 (wrap i64 (1-(v_50 y9).1)*y9.2.2.1)) 2))) (wrap i64 (Int.tdiv (y9.2.2.1) 2))) (bif(v_137 (y9.1) (wrap i64 (y9.2.1+wrap i64 (Int.tdiv (wrap i64 (wrap i64 (1-(v_50 y9).1)*y9.2.2.1)) 2))) (wrap i64 (Int.tdiv (y9.2.2.1) 2))).1 then some ([],19,PUnit.unit)else bif(v_86 y9 (wrap i64 (1-wrap i64 (1-(v_50 y9).1)))).1==65535 then some ([],19,PUnit.unit)else gd (p_138 (wrap i64 (y9.2.1+wrap i64 (Int.tdiv (wrap i64 (wrap i64 (1-(v_50 y9).1)*y9.2.2.1)) 2))) (wrap i64 (Int.tdiv (y9.2.2.1) 2))) (gd (p_103 y9 (wrap i64 (1-(v_50 y9).1))) (B_104_1 (L_104_1 4611686018427387904 y7 (wrap i64 (1-(v_50 y9).1)) ((v_86 y9 (wrap i64 (1-wrap i64 (1-(v_50 y9).1)))).1) (wrap i64 ((v_103 y9 (wrap i64 (1-(v_50 y9).1))).1+1)) 0 y9 ((v_138 (wrap i64 (y9.2.1+wrap i64 (Int.tdiv (wrap i64 (wrap i64 (1-(v_50 y9).1)*y9.2.2.1)) 2))) (wrap i64 (Int.tdiv (y9.2.2.1) 2))).1)) fun y10 y11 y12 y13=>gd (p_103 y12 y10) (gd (p_136 (wrap i64 (y11+1))) (gd (room (length y13+1) 24) (some (y13++[(false,(v_103 y12 y10).1,(v_136 (wrap i64 (y11+1))).1,PUnit.unit)],0,PUnit.unit))))))))))
noncomputable def Sp.p_104(a0:(((List Int)×((List Int)×(Int×Unit)))×(Int×(Int×Unit))))(a1:(List (Int×((List Int)×Unit)))):Bool:=(F_104 a0 a1).isSome
noncomputable def Sp.v_104(a0:(((List Int)×((List Int)×(Int×Unit)))×(Int×(Int×Unit))))(a1:(List (Int×((List Int)×Unit)))):(List (Bool×(Int×(Int×Unit))))×Int×Unit:=(F_104 a0 a1).getD (dfH R_104)
noncomputable def s_104:Summ:=shS A_104 R_104 (fun x=>p_104 x.1 x.2.1) (fun x=>v_104 x.1 x.2.1)
theorem pv_104(a0:(((List Int)×((List Int)×(Int×Unit)))×(Int×(Int×Unit))))(a1:(List (Int×((List Int)×Unit)))){y:(List (Bool×(Int×(Int×Unit))))×Int×Unit}(h:F_104 a0 a1=some y):p_104 a0 a1=true/\v_104 a0 a1=y:=pvG h
theorem run_104(x:HDen A_104)(y:HDen R_104)(h:F_104 x.1 x.2.1=some y):rnF sm_104 1 104 A_104 R_104 x y:=runG noO_ok (os:=[O_104_0,O_104_1]) ⟨OK_104_0,OK_104_1,trivial⟩ (Eq.trans (by kernel_rfl) h)
end
noncomputable section
abbrev A_65:List Ty:=[(.pair (.pair (.slice (.int .u32)) (.pair (.slice (.int .i64)) (.pair (.int .i64) .unit))) (.pair (.int .i64) (.pair (.int .i64) .unit))),(.int .i64),(.slice (.int .u32))]
abbrev R_65:List Ty:=[(.slice (.pair .bool (.pair (.int .i64) (.pair (.int .u32) .unit)))),(.int .i64)]
noncomputable def sm_65:Nat->Option Summ:=smL [(50,s_50),(99,s_99),(100,s_100),(101,s_101),(102,s_102),(103,s_103),(104,s_104),(105,s_105)]
noncomputable def F_65(a0:(((List Int)×((List Int)×(Int×Unit)))×(Int×(Int×Unit))))(a1:Int)(a2:(List Int)):Option ((List (Bool×(Int×(Int×Unit))))×Int×Unit) :=
 gd (p_50 a0) (gd (p_99 a0 ((v_50 a0).1)) (gd (p_100 a1 a2) (gd (p_101 a0) (bif decide (wrap i64 ((v_99 a0 ((v_50 a0).1)).2.1+(↑(length ((v_100 a1 a2).1)):Int))<=(v_101 a0).1)then gd (p_50 a0) (gd (p_103 a0 ((v_50 a0).1)) (gd (p_102 (wrap i64 ((v_103 a0 ((v_50 a0).1)).1+(v_99 a0 ((v_50 a0).1)).2.1)) ((v_100 a1 a2).1)) (some ((v_102 (wrap i64 ((v_103 a0 ((v_50 a0).1)).1+(v_99 a0 ((v_50 a0).1)).2.1)) ((v_100 a1 a2).1)).1,0,PUnit.unit))))else gd (p_105 ((v_99 a0 ((v_50 a0).1)).1) a1 a2) (gd (p_104 a0 ((v_105 ((v_99 a0 ((v_50 a0).1)).1) a1 a2).1)) (some ((v_104 a0 ((v_105 ((v_99 a0 ((v_50 a0).1)).1) a1 a2).1)).1,(v_104 a0 ((v_105 ((v_99 a0 ((v_50 a0).1)).1) a1 a2).1)).2.1,PUnit.unit)))))))
noncomputable def Sp.p_65(a0:(((List Int)×((List Int)×(Int×Unit)))×(Int×(Int×Unit))))(a1:Int)(a2:(List Int)):Bool:=(F_65 a0 a1 a2).isSome
noncomputable def Sp.v_65(a0:(((List Int)×((List Int)×(Int×Unit)))×(Int×(Int×Unit))))(a1:Int)(a2:(List Int)):(List (Bool×(Int×(Int×Unit))))×Int×Unit:=(F_65 a0 a1 a2).getD (dfH R_65)
noncomputable def s_65:Summ:=shS A_65 R_65 (fun x=>p_65 x.1 x.2.1 x.2.2.1) (fun x=>v_65 x.1 x.2.1 x.2.2.1)
theorem pv_65(a0:(((List Int)×((List Int)×(Int×Unit)))×(Int×(Int×Unit))))(a1:Int)(a2:(List Int)){y:(List (Bool×(Int×(Int×Unit))))×Int×Unit}(h:F_65 a0 a1 a2=some y):p_65 a0 a1 a2=true/\v_65 a0 a1 a2=y:=pvG h
theorem run_65(x:HDen A_65)(y:HDen R_65)(h:F_65 x.1 x.2.1 x.2.2.1=some y):rnF sm_65 1 65 A_65 R_65 x y:=runG noO_ok (os:=[]) trivial (Eq.trans (by kernel_rfl) h)
end
end Go.Ev
