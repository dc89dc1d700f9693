/- Helpers: functions of the program as Lean functions, and what they compute. No condition. -/
import Derived.Test.YtaaagikcbnbncaaG5P1
set_option maxRecDepth 10000
set_option linter.unusedVariables false
set_option linter.unusedSimpArgs false
open Go.IntKind (wrap i64 i32 i16 i8 u64 u32 u16 u8)
open List (getD length take drop replicate)
open Int (toNat)
open Go.Ev.Sp
namespace Go.Ev
open Go
set_option maxRecDepth 100000
set_option maxHeartbeats 4000000
set_option linter.unusedVariables false
noncomputable section
abbrev Zt27_0:Type:=((List Int×List Int×Int×Unit)×List Int×Unit)×(Int×Int×Unit)×Int×Unit
abbrev Zt27_1:Type:=Int×Int×List Int×(Int×List (List Int)×List (List Int)×Unit)×Unit
abbrev Zt27_2:Type:=(List Int×List Int×Int×Unit)×List Int×Unit
abbrev Zy27_3:Ty:=(.pair (.int .i64) (.pair (.int .i64) (.pair (.arr 32 (.int .u8)) (.pair (.pair (.int .i64) (.pair (.slice (.arr 32 (.int .u8))) (.pair (.slice (.arr 32 (.int .u8))) .unit))) .unit))))
abbrev Zt27_4:Type:=List (List Int)
abbrev Zy27_5:Ty:=(.pair (.pair (.slice (.int .u32)) (.pair (.slice (.int .i64)) (.pair (.int .i64) .unit))) (.pair (.arr 32 (.int .u8)) .unit))
abbrev Zt27_6:Type:=List Int×Unit
abbrev Zy27_7:Ty:=(.pair (.pair (.pair (.slice (.int .u32)) (.pair (.slice (.int .i64)) (.pair (.int .i64) .unit))) (.pair (.arr 32 (.int .u8)) .unit)) (.pair (.pair (.int .i64) (.pair (.int .u32) .unit)) (.pair (.int .i64) .unit)))
abbrev Zt27_8:Type:=(Int×Int×Unit)×Int×Unit
abbrev Zt27_9:Type:=Int×Int×Unit
abbrev Zt27_10:Type:=Int×(Int×(Int×((Int×(Int×((List Int)×((Int×((List (List Int))×((List (List Int))×Unit)))×Unit))))×Unit)))
abbrev Zy27_11:Ty:=(.pair (.int .i64) (.pair (.int .u32) .unit))
abbrev Zy27_12:Ty:=(.pair (.arr 32 (.int .u8)) .unit)
abbrev Zt27_13:Type:=(((List Int)×((List Int)×(Int×Unit)))×((List Int)×Unit))
abbrev Zt27_14:Type:=(Int×(Int×(Int×((Int×(Int×((List Int)×((Int×((List (List Int))×((List (List Int))×Unit)))×Unit))))×Unit))))
abbrev Zy27_15:Ty:=(.pair (.pair (.int .i64) (.pair (.int .u32) .unit)) (.pair (.int .i64) .unit))
abbrev Zt27_16:Type:=(Int×(Int×Unit))
abbrev A_27:List Ty:=[(.pair (.int .i64) (.pair (.int .i64) (.pair (.int .i64) (.pair (.pair (.int .i64) (.pair (.int .i64) (.pair (.arr 32 (.int .u8)) (.pair (.pair (.int .i64) (.pair (.slice (.arr 32 (.int .u8))) (.pair (.slice (.arr 32 (.int .u8))) .unit))) .unit)))) .unit)))),(.pair (.pair (.slice (.int .u32)) (.pair (.slice (.int .i64)) (.pair (.int .i64) .unit))) (.pair (.arr 32 (.int .u8)) .unit)),(.pair (.int .i64) (.pair (.int .i64) (.pair (.arr 32 (.int .u8)) (.pair (.pair (.int .i64) (.pair (.slice (.arr 32 (.int .u8))) (.pair (.slice (.arr 32 (.int .u8))) .unit))) .unit)))),(.pair (.int .i64) (.pair (.int .u32) .unit))]
abbrev R_27:List Ty:=[(.pair (.int .i64) (.pair (.int .i64) (.pair (.int .i64) (.pair (.pair (.int .i64) (.pair (.int .i64) (.pair (.arr 32 (.int .u8)) (.pair (.pair (.int .i64) (.pair (.slice (.arr 32 (.int .u8))) (.pair (.slice (.arr 32 (.int .u8))) .unit))) .unit)))) .unit)))),(.pair (.pair (.slice (.int .u32)) (.pair (.slice (.int .i64)) (.pair (.int .i64) .unit))) (.pair (.arr 32 (.int .u8)) .unit)),(.pair (.int .i64) (.pair (.int .u32) .unit)),(.int .i64)]
noncomputable def sm_27:Nat->Option Summ:=smL [(13,s_13),(25,s_25),(33,s_33),(34,s_34),(37,s_37),(38,s_38),(41,s_41),(44,s_44),(54,s_54),(61,s_61),(62,s_62),(63,s_63),(65,s_65),(75,s_75),(76,s_76),(91,s_91)]
noncomputable def T_27_43_0_1:PS:=⟨49,[(0,.kc (.ptr 9 [])),(1,.hv (.int .i64)),(8,.hv (.slice (.int .u32))),(9,.hv (.int .i64)),(10,.hv (.int .i64))],[.mem (.hv Zy27_5),.mem (.hv Zy27_3),.mem (.pr (.hv (.int .i64)) (.pr (.hv (.int .i64)) (.pr (.hv (.int .i64)) (.pr (.pr (.hv (.int .i64)) (.pr (.hv (.int .i64)) (.pr (.hv (.arr 32 (.int .u8))) (.pr (.pr (.hv (.int .i64)) (.kc (.pair (.whole 3) (.pair (.whole 4) (.pure .unit PUnit.unit))))) (.kc (.pure .unit PUnit.unit)))))) (.kc (.pure .unit PUnit.unit)))))),.vec 23 (.arr 32 (.int .u8)),.vec 23 (.arr 32 (.int .u8)),.mem (.pr (.pr (.kc (.whole 6)) (.pr (.kc (.whole 7)) (.hv (.pair (.int .i64) .unit)))) (.hv Zy27_12)),.vec 42 (.int .u32),.vec 3 (.int .i64),.mem (.hv Zy27_11),.mem (.hv Zy27_7),.fvec 42 (.int .u32),.fvec 3 (.int .i64),.fresh,.fresh],14⟩
inductive Sp.E_27_43_0_1 where
 |e0 (p4:Zt27_2) (p5:Zt27_1) (p6 p7 p8 p9 p10:Int) (p11:List Int) (p12:Int) (p13 p14:Zt27_4) (p15:Int×Unit) (p16:Zt27_6) (p17 p18:List Int) (p19:Zt27_9) (p20:Zt27_0) (p21 p22:List Int)
noncomputable def Sp.B_27_43_0_1{R:Type}(r:Option E_27_43_0_1)(k0:Zt27_2->Zt27_1->Int->Int->Int->Int->Int->List Int->Int->Zt27_4->Zt27_4->(Int×Unit)->Zt27_6->List Int->List Int->Zt27_9->Zt27_0->List Int->List Int->Option R):Option R:=match r with
 |none=>none
 |some (.e0 p4 p5 p6 p7 p8 p9 p10 p11 p12 p13 p14 p15 p16 p17 p18 p19 p20 p21 p22)=>k0 p4 p5 p6 p7 p8 p9 p10 p11 p12 p13 p14 p15 p16 p17 p18 p19 p20 p21 p22
noncomputable def Y_27_43_0_1{R:Type}(k:Ex->St->Option R):E_27_43_0_1->Option R
 | .e0 p4 p5 p6 p7 p8 p9 p10 p11 p12 p13 p14 p15 p16 p17 p18 p19 p20 p21 p22=>k (Ex.exit 0) (sx 49 [] [Blk.mem (CV.pure (Ty.pair (Ty.pair (Ty.slice (Ty.int u32)) (Ty.pair (Ty.slice (Ty.int i64)) (Ty.pair (Ty.int i64) Ty.unit))) (Ty.pair (Ty.arr 32 (Ty.int u8)) Ty.unit)) p4),Blk.mem (CV.pure (Ty.pair (Ty.int i64) (Ty.pair (Ty.int i64) (Ty.pair (Ty.arr 32 (Ty.int u8)) (Ty.pair (Ty.pair (Ty.int i64) (Ty.pair (Ty.slice (Ty.arr 32 (Ty.int u8))) (Ty.pair (Ty.slice (Ty.arr 32 (Ty.int u8))) Ty.unit))) Ty.unit)))) p5),Blk.mem (CV.pair (CV.int i64 p6) (CV.pair (CV.int i64 p7) (CV.pair (CV.int i64 p8) (CV.pair (CV.pair (CV.int i64 p9) (CV.pair (CV.int i64 p10) (CV.pair (CV.pure (Ty.arr 32 (Ty.int u8)) p11) (CV.pair (CV.pair (CV.int i64 p12) (CV.pair (CV.whole 3) (CV.pair (CV.whole 4) (CV.pure Ty.unit PUnit.unit)))) (CV.pure Ty.unit PUnit.unit))))) (CV.pure Ty.unit PUnit.unit))))),Blk.vec 23 (Ty.arr 32 (Ty.int u8)) p13,Blk.vec 23 (Ty.arr 32 (Ty.int u8)) p14,Blk.mem (CV.pair (CV.pair (CV.whole 6) (CV.pair (CV.whole 7) (CV.pure (Ty.pair (Ty.int i64) Ty.unit) p15))) (CV.pure (Ty.pair (Ty.arr 32 (Ty.int u8)) Ty.unit) p16)),Blk.vec 42 (Ty.int u32) p17,Blk.vec 3 (Ty.int i64) p18,Blk.mem (CV.pure (Ty.pair (Ty.int i64) (Ty.pair (Ty.int u32) Ty.unit)) p19),Blk.mem (CV.pure (Ty.pair (Ty.pair (Ty.pair (Ty.slice (Ty.int u32)) (Ty.pair (Ty.slice (Ty.int i64)) (Ty.pair (Ty.int i64) Ty.unit))) (Ty.pair (Ty.arr 32 (Ty.int u8)) Ty.unit)) (Ty.pair (Ty.pair (Ty.int i64) (Ty.pair (Ty.int u32) Ty.unit)) (Ty.pair (Ty.int i64) Ty.unit))) p20),Blk.fvec 42 (Ty.int u32) p21,Blk.fvec 3 (Ty.int i64) p22,Blk.fresh,Blk.fresh] 14)
noncomputable def Sp.S_27_43_0_1{R:Type}(K:Int->List Int->Int->Int->((List Int×List Int×Int×Unit)×List Int×Unit)->(Int×Int×List Int×(Int×List (List Int)×List (List Int)×Unit)×Unit)->Int->Int->Int->Int->Int->List Int->Int->List (List Int)->List (List Int)->(Int×Unit)->(List Int×Unit)->List Int->List Int->(Int×Int×Unit)->(((List Int×List Int×Int×Unit)×List Int×Unit)×(Int×Int×Unit)×Int×Unit)->List Int->List Int->Option R)(k:E_27_43_0_1->Option R)(p0:Int)(p1:List Int)(p2 p3:Int)(p4:(List Int×List Int×Int×Unit)×List Int×Unit)(p5:Int×Int×List Int×(Int×List (List Int)×List (List Int)×Unit)×Unit)(p6 p7 p8 p9 p10:Int)(p11:List Int)(p12:Int)(p13 p14:List (List Int))(p15:Int×Unit)(p16:List Int×Unit)(p17 p18:List Int)(p19:Int×Int×Unit)(p20:((List Int×List Int×Int×Unit)×List Int×Unit)×(Int×Int×Unit)×Int×Unit)(p21 p22:List Int):Option R:=
 bif decide (p3<p2)then gd (inB p3 (length p1)) (bif p20.2.2.1==0 then gd (p_76 (p20.1.1) (wrap i64 (p0+p3)) (getD p1 (toNat p3) 0) (p20.2.1)) (K p0 p1 p2 (wrap i64 (p3+1)) p4 p5 p6 p7 p8 p9 p10 p11 p12 p13 p14 p15 p16 p17 p18 p19 (((v_76 (p20.1.1) (wrap i64 (p0+p3)) (getD p1 (toNat p3) 0) (p20.2.1)).1,p20.1.2),(v_76 (p20.1.1) (wrap i64 (p0+p3)) (getD p1 (toNat p3) 0) (p20.2.1)).2.1,(v_76 (p20.1.1) (wrap i64 (p0+p3)) (getD p1 (toNat p3) 0) (p20.2.1)).2.2.1,p20.2.2.2) p21 p22)else K p0 p1 p2 (wrap i64 (p3+1)) p4 p5 p6 p7 p8 p9 p10 p11 p12 p13 p14 p15 p16 p17 p18 p19 p20 p21 p22)else k (E_27_43_0_1.e0 p4 p5 p6 p7 p8 p9 p10 p11 p12 p13 p14 p15 p16 p17 p18 p19 p20 p21 p22)
noncomputable def Sp.L_27_43_0_1:Nat->Int->List Int->Int->Int->((List Int×List Int×Int×Unit)×List Int×Unit)->(Int×Int×List Int×(Int×List (List Int)×List (List Int)×Unit)×Unit)->Int->Int->Int->Int->Int->List Int->Int->List (List Int)->List (List Int)->(Int×Unit)->(List Int×Unit)->List Int->List Int->(Int×Int×Unit)->(((List Int×List Int×Int×Unit)×List Int×Unit)×(Int×Int×Unit)×Int×Unit)->List Int->List Int->Option E_27_43_0_1
 |0,_,_,_,_,_,_,_,_,_,_,_,_,_,_,_,_,_,_,_,_,_,_,_=>none
 |m+1,p0,p1,p2,p3,p4,p5,p6,p7,p8,p9,p10,p11,p12,p13,p14,p15,p16,p17,p18,p19,p20,p21,p22=>S_27_43_0_1 (L_27_43_0_1 m) some p0 p1 p2 p3 p4 p5 p6 p7 p8 p9 p10 p11 p12 p13 p14 p15 p16 p17 p18 p19 p20 p21 p22
noncomputable def l_27_43_0_1(m:Nat)(a:T_27_43_0_1.E):Option E_27_43_0_1:=L_27_43_0_1 m a.1 a.2.1 a.2.2.1 a.2.2.2.1 a.2.2.2.2.1 a.2.2.2.2.2.1 a.2.2.2.2.2.2.1 a.2.2.2.2.2.2.2.1 a.2.2.2.2.2.2.2.2.1 a.2.2.2.2.2.2.2.2.2.1 a.2.2.2.2.2.2.2.2.2.2.1 a.2.2.2.2.2.2.2.2.2.2.2.1 a.2.2.2.2.2.2.2.2.2.2.2.2.1 a.2.2.2.2.2.2.2.2.2.2.2.2.2.1 a.2.2.2.2.2.2.2.2.2.2.2.2.2.2.1 a.2.2.2.2.2.2.2.2.2.2.2.2.2.2.2.1 a.2.2.2.2.2.2.2.2.2.2.2.2.2.2.2.2.1 a.2.2.2.2.2.2.2.2.2.2.2.2.2.2.2.2.2.1 a.2.2.2.2.2.2.2.2.2.2.2.2.2.2.2.2.2.2.1 a.2.2.2.2.2.2.2.2.2.2.2.2.2.2.2.2.2.2.2.1 a.2.2.2.2.2.2.2.2.2.2.2.2.2.2.2.2.2.2.2.2.1 a.2.2.2.2.2.2.2.2.2.2.2.2.2.2.2.2.2.2.2.2.2.1 a.2.2.2.2.2.2.2.2.2.2.2.2.2.2.2.2.2.2.2.2.2.2.1
noncomputable def O_27_43_0_1{R:Type}:Orc R:=orL T_27_43_0_1 (l_27_43_0_1 FU) Y_27_43_0_1
theorem loop_27_43_0_1{R:Type}(k:Ex->St->Option R):∀m a,evLoopN (evCodeL sm_27 FU (ovr noO (evFn sm_27 fns FU 0)) (mkT (inner (nf 43 0)) []) (inner (nf 43 0))) (St.norm (lv (nf 43 0))) m (T_27_43_0_1.inst a) k=(l_27_43_0_1 m a).bind (Y_27_43_0_1 k):=lpN l_27_43_0_1 (fun R K k a=>S_27_43_0_1 (fun p0 p1 p2 p3 p4 p5 p6 p7 p8 p9 p10 p11 p12 p13 p14 p15 p16 p17 p18 p19 p20 p21 p22=>K (p0,p1,p2,p3,p4,p5,p6,p7,p8,p9,p10,p11,p12,p13,p14,p15,p16,p17,p18,p19,p20,p21,p22,())) k a.1 a.2.1 a.2.2.1 a.2.2.2.1 a.2.2.2.2.1 a.2.2.2.2.2.1 a.2.2.2.2.2.2.1 a.2.2.2.2.2.2.2.1 a.2.2.2.2.2.2.2.2.1 a.2.2.2.2.2.2.2.2.2.1 a.2.2.2.2.2.2.2.2.2.2.1 a.2.2.2.2.2.2.2.2.2.2.2.1 a.2.2.2.2.2.2.2.2.2.2.2.2.1 a.2.2.2.2.2.2.2.2.2.2.2.2.2.1 a.2.2.2.2.2.2.2.2.2.2.2.2.2.2.1 a.2.2.2.2.2.2.2.2.2.2.2.2.2.2.2.1 a.2.2.2.2.2.2.2.2.2.2.2.2.2.2.2.2.1 a.2.2.2.2.2.2.2.2.2.2.2.2.2.2.2.2.2.1 a.2.2.2.2.2.2.2.2.2.2.2.2.2.2.2.2.2.2.1 a.2.2.2.2.2.2.2.2.2.2.2.2.2.2.2.2.2.2.2.1 a.2.2.2.2.2.2.2.2.2.2.2.2.2.2.2.2.2.2.2.2.1 a.2.2.2.2.2.2.2.2.2.2.2.2.2.2.2.2.2.2.2.2.2.1 a.2.2.2.2.2.2.2.2.2.2.2.2.2.2.2.2.2.2.2.2.2.2.1) (fun _=>rfl) (fun _ _=>rfl) (fun K a=>by kernel_rfl) (fun K a=>by
 unfold S_27_43_0_1
 repeat' first|apply gdN|apply condN|rfl)
theorem OK_27_43_0_1{R:Type}:okF (R:=R) sm_27 0 (nf 43 0) O_27_43_0_1:=lp0 T_27_43_0_1 l_27_43_0_1 (fun R K k a=>S_27_43_0_1 (fun p0 p1 p2 p3 p4 p5 p6 p7 p8 p9 p10 p11 p12 p13 p14 p15 p16 p17 p18 p19 p20 p21 p22=>K (p0,p1,p2,p3,p4,p5,p6,p7,p8,p9,p10,p11,p12,p13,p14,p15,p16,p17,p18,p19,p20,p21,p22,())) k a.1 a.2.1 a.2.2.1 a.2.2.2.1 a.2.2.2.2.1 a.2.2.2.2.2.1 a.2.2.2.2.2.2.1 a.2.2.2.2.2.2.2.1 a.2.2.2.2.2.2.2.2.1 a.2.2.2.2.2.2.2.2.2.1 a.2.2.2.2.2.2.2.2.2.2.1 a.2.2.2.2.2.2.2.2.2.2.2.1 a.2.2.2.2.2.2.2.2.2.2.2.2.1 a.2.2.2.2.2.2.2.2.2.2.2.2.2.1 a.2.2.2.2.2.2.2.2.2.2.2.2.2.2.1 a.2.2.2.2.2.2.2.2.2.2.2.2.2.2.2.1 a.2.2.2.2.2.2.2.2.2.2.2.2.2.2.2.2.1 a.2.2.2.2.2.2.2.2.2.2.2.2.2.2.2.2.2.1 a.2.2.2.2.2.2.2.2.2.2.2.2.2.2.2.2.2.2.1 a.2.2.2.2.2.2.2.2.2.2.2.2.2.2.2.2.2.2.2.1 a.2.2.2.2.2.2.2.2.2.2.2.2.2.2.2.2.2.2.2.2.1 a.2.2.2.2.2.2.2.2.2.2.2.2.2.2.2.2.2.2.2.2.2.1 a.2.2.2.2.2.2.2.2.2.2.2.2.2.2.2.2.2.2.2.2.2.2.1) Y_27_43_0_1 (fun _ _ _=>by kernel_rfl) (fun _ _ _=>by
 unfold S_27_43_0_1
 repeat' first|apply gdN|apply condN|rfl) (ok0 _)
noncomputable def T_27_43_0_0:PS:=⟨49,[(0,.kc (.ptr 9 [])),(1,.hv (.int .i64)),(8,.hv (.slice (.int .u32))),(9,.hv (.int .i64)),(10,.hv (.int .i64))],[.mem (.hv Zy27_5),.mem (.hv Zy27_3),.mem (.pr (.hv (.int .i64)) (.pr (.hv (.int .i64)) (.pr (.hv (.int .i64)) (.pr (.pr (.hv (.int .i64)) (.pr (.hv (.int .i64)) (.pr (.hv (.arr 32 (.int .u8))) (.pr (.pr (.hv (.int .i64)) (.kc (.pair (.whole 3) (.pair (.whole 4) (.pure .unit PUnit.unit))))) (.kc (.pure .unit PUnit.unit)))))) (.kc (.pure .unit PUnit.unit)))))),.vec 23 (.arr 32 (.int .u8)),.vec 23 (.arr 32 (.int .u8)),.mem (.pr (.pr (.kc (.whole 6)) (.pr (.kc (.whole 7)) (.hv (.pair (.int .i64) .unit)))) (.hv Zy27_12)),.vec 42 (.int .u32),.vec 3 (.int .i64),.mem (.hv Zy27_11),.mem (.pr (.pr (.pr (.kc (.whole 10)) (.pr (.kc (.whole 11)) (.hv (.pair (.int .i64) .unit)))) (.hv Zy27_12)) (.hv Zy27_15)),.vec 42 (.int .u32),.vec 3 (.int .i64),.fresh,.fresh],14⟩
inductive Sp.E_27_43_0_0 where
 |e0 (p4:Zt27_2) (p5:Zt27_1) (p6 p7 p8 p9 p10:Int) (p11:List Int) (p12:Int) (p13 p14:Zt27_4) (p15:Int×Unit) (p16:Zt27_6) (p17 p18:List Int) (p19:Zt27_9) (p20:Int×Unit) (p21:Zt27_6) (p22:Zt27_8) (p23 p24:List Int)
 |e1 (p4:Zt27_2) (p5:Zt27_1) (p6 p7 p8 p9 p10:Int) (p11:List Int) (p12:Int) (p13 p14:Zt27_4) (p15:Int×Unit) (p16:Zt27_6) (p17 p18:List Int) (p19:Zt27_9) (p20:Zt27_0) (p21 p22:List Int)
noncomputable def Sp.B_27_43_0_0{R:Type}(r:Option E_27_43_0_0)(k0:Zt27_2->Zt27_1->Int->Int->Int->Int->Int->List Int->Int->Zt27_4->Zt27_4->(Int×Unit)->Zt27_6->List Int->List Int->Zt27_9->(Int×Unit)->Zt27_6->Zt27_8->List Int->List Int->Option R)(k1:Zt27_2->Zt27_1->Int->Int->Int->Int->Int->List Int->Int->Zt27_4->Zt27_4->(Int×Unit)->Zt27_6->List Int->List Int->Zt27_9->Zt27_0->List Int->List Int->Option R):Option R:=match r with
 |none=>none
 |some (.e0 p4 p5 p6 p7 p8 p9 p10 p11 p12 p13 p14 p15 p16 p17 p18 p19 p20 p21 p22 p23 p24)=>k0 p4 p5 p6 p7 p8 p9 p10 p11 p12 p13 p14 p15 p16 p17 p18 p19 p20 p21 p22 p23 p24
 |some (.e1 p4 p5 p6 p7 p8 p9 p10 p11 p12 p13 p14 p15 p16 p17 p18 p19 p20 p21 p22)=>k1 p4 p5 p6 p7 p8 p9 p10 p11 p12 p13 p14 p15 p16 p17 p18 p19 p20 p21 p22
theorem Bn_27_43_0_0{A R:Type}{r:Option E_27_43_0_0}{f:A->Option R}{k0:Zt27_2->Zt27_1->Int->Int->Int->Int->Int->List Int->Int->Zt27_4->Zt27_4->(Int×Unit)->Zt27_6->List Int->List Int->Zt27_9->(Int×Unit)->Zt27_6->Zt27_8->List Int->List Int->Option A}{k1:Zt27_2->Zt27_1->Int->Int->Int->Int->Int->List Int->Int->Zt27_4->Zt27_4->(Int×Unit)->Zt27_6->List Int->List Int->Zt27_9->Zt27_0->List Int->List Int->Option A}{l0:Zt27_2->Zt27_1->Int->Int->Int->Int->Int->List Int->Int->Zt27_4->Zt27_4->(Int×Unit)->Zt27_6->List Int->List Int->Zt27_9->(Int×Unit)->Zt27_6->Zt27_8->List Int->List Int->Option R}{l1:Zt27_2->Zt27_1->Int->Int->Int->Int->Int->List Int->Int->Zt27_4->Zt27_4->(Int×Unit)->Zt27_6->List Int->List Int->Zt27_9->Zt27_0->List Int->List Int->Option R}(h0:∀p4 p5 p6 p7 p8 p9 p10 p11 p12 p13 p14 p15 p16 p17 p18 p19 p20 p21 p22 p23 p24,(k0 p4 p5 p6 p7 p8 p9 p10 p11 p12 p13 p14 p15 p16 p17 p18 p19 p20 p21 p22 p23 p24).bind f=l0 p4 p5 p6 p7 p8 p9 p10 p11 p12 p13 p14 p15 p16 p17 p18 p19 p20 p21 p22 p23 p24)(h1:∀p4 p5 p6 p7 p8 p9 p10 p11 p12 p13 p14 p15 p16 p17 p18 p19 p20 p21 p22,(k1 p4 p5 p6 p7 p8 p9 p10 p11 p12 p13 p14 p15 p16 p17 p18 p19 p20 p21 p22).bind f=l1 p4 p5 p6 p7 p8 p9 p10 p11 p12 p13 p14 p15 p16 p17 p18 p19 p20 p21 p22):(B_27_43_0_0 r k0 k1).bind f=B_27_43_0_0 r l0 l1:=by
 cases r with
 |none=>rfl
 |some e=>cases e<;>first|apply h0|apply h1
noncomputable def Y_27_43_0_0{R:Type}(k:Ex->St->Option R):E_27_43_0_0->Option R
 | .e0 p4 p5 p6 p7 p8 p9 p10 p11 p12 p13 p14 p15 p16 p17 p18 p19 p20 p21 p22 p23 p24=>k (Ex.exit 0) (sx 49 [] [Blk.mem (CV.pure (Ty.pair (Ty.pair (Ty.slice (Ty.int u32)) (Ty.pair (Ty.slice (Ty.int i64)) (Ty.pair (Ty.int i64) Ty.unit))) (Ty.pair (Ty.arr 32 (Ty.int u8)) Ty.unit)) p4),Blk.mem (CV.pure (Ty.pair (Ty.int i64) (Ty.pair (Ty.int i64) (Ty.pair (Ty.arr 32 (Ty.int u8)) (Ty.pair (Ty.pair (Ty.int i64) (Ty.pair (Ty.slice (Ty.arr 32 (Ty.int u8))) (Ty.pair (Ty.slice (Ty.arr 32 (Ty.int u8))) Ty.unit))) Ty.unit)))) p5),Blk.mem (CV.pair (CV.int i64 p6) (CV.pair (CV.int i64 p7) (CV.pair (CV.int i64 p8) (CV.pair (CV.pair (CV.int i64 p9) (CV.pair (CV.int i64 p10) (CV.pair (CV.pure (Ty.arr 32 (Ty.int u8)) p11) (CV.pair (CV.pair (CV.int i64 p12) (CV.pair (CV.whole 3) (CV.pair (CV.whole 4) (CV.pure Ty.unit PUnit.unit)))) (CV.pure Ty.unit PUnit.unit))))) (CV.pure Ty.unit PUnit.unit))))),Blk.vec 23 (Ty.arr 32 (Ty.int u8)) p13,Blk.vec 23 (Ty.arr 32 (Ty.int u8)) p14,Blk.mem (CV.pair (CV.pair (CV.whole 6) (CV.pair (CV.whole 7) (CV.pure (Ty.pair (Ty.int i64) Ty.unit) p15))) (CV.pure (Ty.pair (Ty.arr 32 (Ty.int u8)) Ty.unit) p16)),Blk.vec 42 (Ty.int u32) p17,Blk.vec 3 (Ty.int i64) p18,Blk.mem (CV.pure (Ty.pair (Ty.int i64) (Ty.pair (Ty.int u32) Ty.unit)) p19),Blk.mem (CV.pair (CV.pair (CV.pair (CV.whole 10) (CV.pair (CV.whole 11) (CV.pure (Ty.pair (Ty.int i64) Ty.unit) p20))) (CV.pure (Ty.pair (Ty.arr 32 (Ty.int u8)) Ty.unit) p21)) (CV.pure (Ty.pair (Ty.pair (Ty.int i64) (Ty.pair (Ty.int u32) Ty.unit)) (Ty.pair (Ty.int i64) Ty.unit)) p22)),Blk.vec 42 (Ty.int u32) p23,Blk.vec 3 (Ty.int i64) p24,Blk.fresh,Blk.fresh] 14)
 | .e1 p4 p5 p6 p7 p8 p9 p10 p11 p12 p13 p14 p15 p16 p17 p18 p19 p20 p21 p22=>k (Ex.exit 0) (sx 49 [] [Blk.mem (CV.pure (Ty.pair (Ty.pair (Ty.slice (Ty.int u32)) (Ty.pair (Ty.slice (Ty.int i64)) (Ty.pair (Ty.int i64) Ty.unit))) (Ty.pair (Ty.arr 32 (Ty.int u8)) Ty.unit)) p4),Blk.mem (CV.pure (Ty.pair (Ty.int i64) (Ty.pair (Ty.int i64) (Ty.pair (Ty.arr 32 (Ty.int u8)) (Ty.pair (Ty.pair (Ty.int i64) (Ty.pair (Ty.slice (Ty.arr 32 (Ty.int u8))) (Ty.pair (Ty.slice (Ty.arr 32 (Ty.int u8))) Ty.unit))) Ty.unit)))) p5),Blk.mem (CV.pair (CV.int i64 p6) (CV.pair (CV.int i64 p7) (CV.pair (CV.int i64 p8) (CV.pair (CV.pair (CV.int i64 p9) (CV.pair (CV.int i64 p10) (CV.pair (CV.pure (Ty.arr 32 (Ty.int u8)) p11) (CV.pair (CV.pair (CV.int i64 p12) (CV.pair (CV.whole 3) (CV.pair (CV.whole 4) (CV.pure Ty.unit PUnit.unit)))) (CV.pure Ty.unit PUnit.unit))))) (CV.pure Ty.unit PUnit.unit))))),Blk.vec 23 (Ty.arr 32 (Ty.int u8)) p13,Blk.vec 23 (Ty.arr 32 (Ty.int u8)) p14,Blk.mem (CV.pair (CV.pair (CV.whole 6) (CV.pair (CV.whole 7) (CV.pure (Ty.pair (Ty.int i64) Ty.unit) p15))) (CV.pure (Ty.pair (Ty.arr 32 (Ty.int u8)) Ty.unit) p16)),Blk.vec 42 (Ty.int u32) p17,Blk.vec 3 (Ty.int i64) p18,Blk.mem (CV.pure (Ty.pair (Ty.int i64) (Ty.pair (Ty.int u32) Ty.unit)) p19),Blk.mem (CV.pure (Ty.pair (Ty.pair (Ty.pair (Ty.slice (Ty.int u32)) (Ty.pair (Ty.slice (Ty.int i64)) (Ty.pair (Ty.int i64) Ty.unit))) (Ty.pair (Ty.arr 32 (Ty.int u8)) Ty.unit)) (Ty.pair (Ty.pair (Ty.int i64) (Ty.pair (Ty.int u32) Ty.unit)) (Ty.pair (Ty.int i64) Ty.unit))) p20),Blk.fvec 42 (Ty.int u32) p21,Blk.fvec 3 (Ty.int i64) p22,Blk.fresh,Blk.fresh] 14)
noncomputable def Sp.S_27_43_0_0{R:Type}(K:Int->List Int->Int->Int->((List Int×List Int×Int×Unit)×List Int×Unit)->(Int×Int×List Int×(Int×List (List Int)×List (List Int)×Unit)×Unit)->Int->Int->Int->Int->Int->List Int->Int->List (List Int)->List (List Int)->(Int×Unit)->(List Int×Unit)->List Int->List Int->(Int×Int×Unit)->(Int×Unit)->(List Int×Unit)->((Int×Int×Unit)×Int×Unit)->List Int->List Int->Option R)(KB:Int->List Int->Int->Int->((List Int×List Int×Int×Unit)×List Int×Unit)->(Int×Int×List Int×(Int×List (List Int)×List (List Int)×Unit)×Unit)->Int->Int->Int->Int->Int->List Int->Int->List (List Int)->List (List Int)->(Int×Unit)->(List Int×Unit)->List Int->List Int->(Int×Int×Unit)->(((List Int×List Int×Int×Unit)×List Int×Unit)×(Int×Int×Unit)×Int×Unit)->List Int->List Int->Option R)(k:E_27_43_0_0->Option R)(p0:Int)(p1:List Int)(p2 p3:Int)(p4:(List Int×List Int×Int×Unit)×List Int×Unit)(p5:Int×Int×List Int×(Int×List (List Int)×List (List Int)×Unit)×Unit)(p6 p7 p8 p9 p10:Int)(p11:List Int)(p12:Int)(p13 p14:List (List Int))(p15:Int×Unit)(p16:List Int×Unit)(p17 p18:List Int)(p19:Int×Int×Unit)(p20:Int×Unit)(p21:List Int×Unit)(p22:(Int×Int×Unit)×Int×Unit)(p23 p24:List Int):Option R:=
 bif decide (p3<p2)then gd (inB p3 (length p1)) (bif p22.2.1==0 then gd (p_76 (p23,p24,p20) (wrap i64 (p0+p3)) (getD p1 (toNat p3) 0) (p22.1)) (KB p0 p1 p2 (wrap i64 (p3+1)) p4 p5 p6 p7 p8 p9 p10 p11 p12 p13 p14 p15 p16 p17 p18 p19 (((v_76 (p23,p24,p20) (wrap i64 (p0+p3)) (getD p1 (toNat p3) 0) (p22.1)).1,p21),(v_76 (p23,p24,p20) (wrap i64 (p0+p3)) (getD p1 (toNat p3) 0) (p22.1)).2.1,(v_76 (p23,p24,p20) (wrap i64 (p0+p3)) (getD p1 (toNat p3) 0) (p22.1)).2.2.1,p22.2.2) p23 p24)else K p0 p1 p2 (wrap i64 (p3+1)) p4 p5 p6 p7 p8 p9 p10 p11 p12 p13 p14 p15 p16 p17 p18 p19 p20 p21 p22 p23 p24)else k (E_27_43_0_0.e0 p4 p5 p6 p7 p8 p9 p10 p11 p12 p13 p14 p15 p16 p17 p18 p19 p20 p21 p22 p23 p24)
noncomputable def C_27_43_0_0:E_27_43_0_1->E_27_43_0_0
 | .e0 p4 p5 p6 p7 p8 p9 p10 p11 p12 p13 p14 p15 p16 p17 p18 p19 p20 p21 p22=> .e1 p4 p5 p6 p7 p8 p9 p10 p11 p12 p13 p14 p15 p16 p17 p18 p19 p20 p21 p22
theorem BC_27_43_0_0(r:Option E_27_43_0_1):B_27_43_0_1 r (fun p4 p5 p6 p7 p8 p9 p10 p11 p12 p13 p14 p15 p16 p17 p18 p19 p20 p21 p22=>some (E_27_43_0_0.e1 p4 p5 p6 p7 p8 p9 p10 p11 p12 p13 p14 p15 p16 p17 p18 p19 p20 p21 p22))=r.bind fun e=>some (C_27_43_0_0 e):=by
 cases r with
 |none=>rfl
 |some e=>cases e<;>rfl
noncomputable def Sp.L_27_43_0_0:Nat->Int->List Int->Int->Int->((List Int×List Int×Int×Unit)×List Int×Unit)->(Int×Int×List Int×(Int×List (List Int)×List (List Int)×Unit)×Unit)->Int->Int->Int->Int->Int->List Int->Int->List (List Int)->List (List Int)->(Int×Unit)->(List Int×Unit)->List Int->List Int->(Int×Int×Unit)->(Int×Unit)->(List Int×Unit)->((Int×Int×Unit)×Int×Unit)->List Int->List Int->Option E_27_43_0_0
 |0,_,_,_,_,_,_,_,_,_,_,_,_,_,_,_,_,_,_,_,_,_,_,_,_,_=>none
 |m+1,p0,p1,p2,p3,p4,p5,p6,p7,p8,p9,p10,p11,p12,p13,p14,p15,p16,p17,p18,p19,p20,p21,p22,p23,p24=>S_27_43_0_0 (L_27_43_0_0 m) (fun q0 q1 q2 q3 q4 q5 q6 q7 q8 q9 q10 q11 q12 q13 q14 q15 q16 q17 q18 q19 q20 q21 q22=>B_27_43_0_1 (L_27_43_0_1 m q0 q1 q2 q3 q4 q5 q6 q7 q8 q9 q10 q11 q12 q13 q14 q15 q16 q17 q18 q19 q20 q21 q22) (fun p4 p5 p6 p7 p8 p9 p10 p11 p12 p13 p14 p15 p16 p17 p18 p19 p20 p21 p22=>some (E_27_43_0_0.e1 p4 p5 p6 p7 p8 p9 p10 p11 p12 p13 p14 p15 p16 p17 p18 p19 p20 p21 p22))) some p0 p1 p2 p3 p4 p5 p6 p7 p8 p9 p10 p11 p12 p13 p14 p15 p16 p17 p18 p19 p20 p21 p22 p23 p24
noncomputable def l_27_43_0_0(m:Nat)(a:T_27_43_0_0.E):Option E_27_43_0_0:=L_27_43_0_0 m a.1 a.2.1 a.2.2.1 a.2.2.2.1 a.2.2.2.2.1 a.2.2.2.2.2.1 a.2.2.2.2.2.2.1 a.2.2.2.2.2.2.2.1 a.2.2.2.2.2.2.2.2.1 a.2.2.2.2.2.2.2.2.2.1 a.2.2.2.2.2.2.2.2.2.2.1 a.2.2.2.2.2.2.2.2.2.2.2.1 a.2.2.2.2.2.2.2.2.2.2.2.2.1 a.2.2.2.2.2.2.2.2.2.2.2.2.2.1 a.2.2.2.2.2.2.2.2.2.2.2.2.2.2.1 a.2.2.2.2.2.2.2.2.2.2.2.2.2.2.2.1 a.2.2.2.2.2.2.2.2.2.2.2.2.2.2.2.2.1 a.2.2.2.2.2.2.2.2.2.2.2.2.2.2.2.2.2.1 a.2.2.2.2.2.2.2.2.2.2.2.2.2.2.2.2.2.2.1 a.2.2.2.2.2.2.2.2.2.2.2.2.2.2.2.2.2.2.2.1 a.2.2.2.2.2.2.2.2.2.2.2.2.2.2.2.2.2.2.2.2.1 a.2.2.2.2.2.2.2.2.2.2.2.2.2.2.2.2.2.2.2.2.2.1 a.2.2.2.2.2.2.2.2.2.2.2.2.2.2.2.2.2.2.2.2.2.2.1 a.2.2.2.2.2.2.2.2.2.2.2.2.2.2.2.2.2.2.2.2.2.2.2.1 a.2.2.2.2.2.2.2.2.2.2.2.2.2.2.2.2.2.2.2.2.2.2.2.2.1
noncomputable def O_27_43_0_0{R:Type}:Orc R:=orL T_27_43_0_0 (l_27_43_0_0 FU) Y_27_43_0_0 O_27_43_0_1
theorem OK_27_43_0_0{R:Type}:okF (R:=R) sm_27 0 (nf 43 0) O_27_43_0_0:=lp2 noO_ok (os:=[]) trivial T_27_43_0_0 T_27_43_0_1 l_27_43_0_0 l_27_43_0_1 (fun R K KB k a=>S_27_43_0_0 (fun p0 p1 p2 p3 p4 p5 p6 p7 p8 p9 p10 p11 p12 p13 p14 p15 p16 p17 p18 p19 p20 p21 p22 p23 p24=>K (p0,p1,p2,p3,p4,p5,p6,p7,p8,p9,p10,p11,p12,p13,p14,p15,p16,p17,p18,p19,p20,p21,p22,p23,p24,())) (fun q0 q1 q2 q3 q4 q5 q6 q7 q8 q9 q10 q11 q12 q13 q14 q15 q16 q17 q18 q19 q20 q21 q22=>KB (q0,q1,q2,q3,q4,q5,q6,q7,q8,q9,q10,q11,q12,q13,q14,q15,q16,q17,q18,q19,q20,q21,q22,())) k a.1 a.2.1 a.2.2.1 a.2.2.2.1 a.2.2.2.2.1 a.2.2.2.2.2.1 a.2.2.2.2.2.2.1 a.2.2.2.2.2.2.2.1 a.2.2.2.2.2.2.2.2.1 a.2.2.2.2.2.2.2.2.2.1 a.2.2.2.2.2.2.2.2.2.2.1 a.2.2.2.2.2.2.2.2.2.2.2.1 a.2.2.2.2.2.2.2.2.2.2.2.2.1 a.2.2.2.2.2.2.2.2.2.2.2.2.2.1 a.2.2.2.2.2.2.2.2.2.2.2.2.2.2.1 a.2.2.2.2.2.2.2.2.2.2.2.2.2.2.2.1 a.2.2.2.2.2.2.2.2.2.2.2.2.2.2.2.2.1 a.2.2.2.2.2.2.2.2.2.2.2.2.2.2.2.2.2.1 a.2.2.2.2.2.2.2.2.2.2.2.2.2.2.2.2.2.2.1 a.2.2.2.2.2.2.2.2.2.2.2.2.2.2.2.2.2.2.2.1 a.2.2.2.2.2.2.2.2.2.2.2.2.2.2.2.2.2.2.2.2.1 a.2.2.2.2.2.2.2.2.2.2.2.2.2.2.2.2.2.2.2.2.2.1 a.2.2.2.2.2.2.2.2.2.2.2.2.2.2.2.2.2.2.2.2.2.2.1 a.2.2.2.2.2.2.2.2.2.2.2.2.2.2.2.2.2.2.2.2.2.2.2.1 a.2.2.2.2.2.2.2.2.2.2.2.2.2.2.2.2.2.2.2.2.2.2.2.2.1) Y_27_43_0_0 Y_27_43_0_1 C_27_43_0_0 (fun _=>rfl) (fun m a=>by
 unfold l_27_43_0_0
 rw[L_27_43_0_0]
 simp only[BC_27_43_0_0]
 rfl) (fun k e=>by cases e<;>rfl) (fun k=>loop_27_43_0_1 k) (fun k K a=>by kernel_rfl) (fun Y K KB a=>by
 unfold S_27_43_0_0
 repeat' first|apply gdN|apply condN|rfl) OK_27_43_0_1
noncomputable def T_27_43_0_2:PS:=⟨49,[(0,.kc (.ptr 9 [])),(1,.hv (.int .i64)),(8,.hv (.slice (.int .u32))),(9,.hv (.int .i64)),(10,.hv (.int .i64))],[.mem (.hv Zy27_5),.mem (.hv Zy27_3),.mem (.pr (.hv (.int .i64)) (.pr (.hv (.int .i64)) (.pr (.hv (.int .i64)) (.pr (.pr (.hv (.int .i64)) (.pr (.hv (.int .i64)) (.pr (.hv (.arr 32 (.int .u8))) (.pr (.pr (.hv (.int .i64)) (.kc (.pair (.whole 3) (.pair (.whole 4) (.pure .unit PUnit.unit))))) (.kc (.pure .unit PUnit.unit)))))) (.kc (.pure .unit PUnit.unit)))))),.vec 23 (.arr 32 (.int .u8)),.vec 23 (.arr 32 (.int .u8)),.mem (.pr (.pr (.kc (.whole 6)) (.pr (.kc (.whole 7)) (.hv (.pair (.int .i64) .unit)))) (.hv Zy27_12)),.vec 42 (.int .u32),.vec 3 (.int .i64),.mem (.hv Zy27_11),.mem (.hv Zy27_7),.fresh,.fresh],12⟩
inductive Sp.E_27_43_0_2 where
 |e0 (p4:Zt27_2) (p5:Zt27_1) (p6 p7 p8 p9 p10:Int) (p11:List Int) (p12:Int) (p13 p14:Zt27_4) (p15:Int×Unit) (p16:Zt27_6) (p17 p18:List Int) (p19:Zt27_9) (p20:Zt27_0)
noncomputable def Sp.B_27_43_0_2{R:Type}(r:Option E_27_43_0_2)(k0:Zt27_2->Zt27_1->Int->Int->Int->Int->Int->List Int->Int->Zt27_4->Zt27_4->(Int×Unit)->Zt27_6->List Int->List Int->Zt27_9->Zt27_0->Option R):Option R:=match r with
 |none=>none
 |some (.e0 p4 p5 p6 p7 p8 p9 p10 p11 p12 p13 p14 p15 p16 p17 p18 p19 p20)=>k0 p4 p5 p6 p7 p8 p9 p10 p11 p12 p13 p14 p15 p16 p17 p18 p19 p20
theorem Bn_27_43_0_2{A R:Type}{r:Option E_27_43_0_2}{f:A->Option R}{k0:Zt27_2->Zt27_1->Int->Int->Int->Int->Int->List Int->Int->Zt27_4->Zt27_4->(Int×Unit)->Zt27_6->List Int->List Int->Zt27_9->Zt27_0->Option A}{l0:Zt27_2->Zt27_1->Int->Int->Int->Int->Int->List Int->Int->Zt27_4->Zt27_4->(Int×Unit)->Zt27_6->List Int->List Int->Zt27_9->Zt27_0->Option R}(h0:∀p4 p5 p6 p7 p8 p9 p10 p11 p12 p13 p14 p15 p16 p17 p18 p19 p20,(k0 p4 p5 p6 p7 p8 p9 p10 p11 p12 p13 p14 p15 p16 p17 p18 p19 p20).bind f=l0 p4 p5 p6 p7 p8 p9 p10 p11 p12 p13 p14 p15 p16 p17 p18 p19 p20):(B_27_43_0_2 r k0).bind f=B_27_43_0_2 r l0:=by
 cases r with
 |none=>rfl
 |some e=>cases e<;>first|apply h0
noncomputable def Y_27_43_0_2{R:Type}(k:Ex->St->Option R):E_27_43_0_2->Option R
 | .e0 p4 p5 p6 p7 p8 p9 p10 p11 p12 p13 p14 p15 p16 p17 p18 p19 p20=>k (Ex.exit 0) (sx 49 [] [Blk.mem (CV.pure (Ty.pair (Ty.pair (Ty.slice (Ty.int u32)) (Ty.pair (Ty.slice (Ty.int i64)) (Ty.pair (Ty.int i64) Ty.unit))) (Ty.pair (Ty.arr 32 (Ty.int u8)) Ty.unit)) p4),Blk.mem (CV.pure (Ty.pair (Ty.int i64) (Ty.pair (Ty.int i64) (Ty.pair (Ty.arr 32 (Ty.int u8)) (Ty.pair (Ty.pair (Ty.int i64) (Ty.pair (Ty.slice (Ty.arr 32 (Ty.int u8))) (Ty.pair (Ty.slice (Ty.arr 32 (Ty.int u8))) Ty.unit))) Ty.unit)))) p5),Blk.mem (CV.pair (CV.int i64 p6) (CV.pair (CV.int i64 p7) (CV.pair (CV.int i64 p8) (CV.pair (CV.pair (CV.int i64 p9) (CV.pair (CV.int i64 p10) (CV.pair (CV.pure (Ty.arr 32 (Ty.int u8)) p11) (CV.pair (CV.pair (CV.int i64 p12) (CV.pair (CV.whole 3) (CV.pair (CV.whole 4) (CV.pure Ty.unit PUnit.unit)))) (CV.pure Ty.unit PUnit.unit))))) (CV.pure Ty.unit PUnit.unit))))),Blk.vec 23 (Ty.arr 32 (Ty.int u8)) p13,Blk.vec 23 (Ty.arr 32 (Ty.int u8)) p14,Blk.mem (CV.pair (CV.pair (CV.whole 6) (CV.pair (CV.whole 7) (CV.pure (Ty.pair (Ty.int i64) Ty.unit) p15))) (CV.pure (Ty.pair (Ty.arr 32 (Ty.int u8)) Ty.unit) p16)),Blk.vec 42 (Ty.int u32) p17,Blk.vec 3 (Ty.int i64) p18,Blk.mem (CV.pure (Ty.pair (Ty.int i64) (Ty.pair (Ty.int u32) Ty.unit)) p19),Blk.mem (CV.pure (Ty.pair (Ty.pair (Ty.pair (Ty.slice (Ty.int u32)) (Ty.pair (Ty.slice (Ty.int i64)) (Ty.pair (Ty.int i64) Ty.unit))) (Ty.pair (Ty.arr 32 (Ty.int u8)) Ty.unit)) (Ty.pair (Ty.pair (Ty.int i64) (Ty.pair (Ty.int u32) Ty.unit)) (Ty.pair (Ty.int i64) Ty.unit))) p20),Blk.fresh,Blk.fresh] 12)
noncomputable def Sp.S_27_43_0_2{R:Type}(K:Int->List Int->Int->Int->((List Int×List Int×Int×Unit)×List Int×Unit)->(Int×Int×List Int×(Int×List (List Int)×List (List Int)×Unit)×Unit)->Int->Int->Int->Int->Int->List Int->Int->List (List Int)->List (List Int)->(Int×Unit)->(List Int×Unit)->List Int->List Int->(Int×Int×Unit)->(((List Int×List Int×Int×Unit)×List Int×Unit)×(Int×Int×Unit)×Int×Unit)->Option R)(k:E_27_43_0_2->Option R)(p0:Int)(p1:List Int)(p2 p3:Int)(p4:(List Int×List Int×Int×Unit)×List Int×Unit)(p5:Int×Int×List Int×(Int×List (List Int)×List (List Int)×Unit)×Unit)(p6 p7 p8 p9 p10:Int)(p11:List Int)(p12:Int)(p13 p14:List (List Int))(p15:Int×Unit)(p16:List Int×Unit)(p17 p18:List Int)(p19:Int×Int×Unit)(p20:((List Int×List Int×Int×Unit)×List Int×Unit)×(Int×Int×Unit)×Int×Unit):Option R:=
 bif decide (p3<p2)then gd (inB p3 (length p1)) (bif p20.2.2.1==0 then gd (p_76 (p20.1.1) (wrap i64 (p0+p3)) (getD p1 (toNat p3) 0) (p20.2.1)) (K p0 p1 p2 (wrap i64 (p3+1)) p4 p5 p6 p7 p8 p9 p10 p11 p12 p13 p14 p15 p16 p17 p18 p19 (((v_76 (p20.1.1) (wrap i64 (p0+p3)) (getD p1 (toNat p3) 0) (p20.2.1)).1,p20.1.2),(v_76 (p20.1.1) (wrap i64 (p0+p3)) (getD p1 (toNat p3) 0) (p20.2.1)).2.1,(v_76 (p20.1.1) (wrap i64 (p0+p3)) (getD p1 (toNat p3) 0) (p20.2.1)).2.2.1,p20.2.2.2))else K p0 p1 p2 (wrap i64 (p3+1)) p4 p5 p6 p7 p8 p9 p10 p11 p12 p13 p14 p15 p16 p17 p18 p19 p20)else k (E_27_43_0_2.e0 p4 p5 p6 p7 p8 p9 p10 p11 p12 p13 p14 p15 p16 p17 p18 p19 p20)
noncomputable def Sp.L_27_43_0_2:Nat->Int->List Int->Int->Int->((List Int×List Int×Int×Unit)×List Int×Unit)->(Int×Int×List Int×(Int×List (List Int)×List (List Int)×Unit)×Unit)->Int->Int->Int->Int->Int->List Int->Int->List (List Int)->List (List Int)->(Int×Unit)->(List Int×Unit)->List Int->List Int->(Int×Int×Unit)->(((List Int×List Int×Int×Unit)×List Int×Unit)×(Int×Int×Unit)×Int×Unit)->Option E_27_43_0_2
 |0,_,_,_,_,_,_,_,_,_,_,_,_,_,_,_,_,_,_,_,_,_=>none
 |m+1,p0,p1,p2,p3,p4,p5,p6,p7,p8,p9,p10,p11,p12,p13,p14,p15,p16,p17,p18,p19,p20=>S_27_43_0_2 (L_27_43_0_2 m) some p0 p1 p2 p3 p4 p5 p6 p7 p8 p9 p10 p11 p12 p13 p14 p15 p16 p17 p18 p19 p20
noncomputable def l_27_43_0_2(m:Nat)(a:T_27_43_0_2.E):Option E_27_43_0_2:=L_27_43_0_2 m a.1 a.2.1 a.2.2.1 a.2.2.2.1 a.2.2.2.2.1 a.2.2.2.2.2.1 a.2.2.2.2.2.2.1 a.2.2.2.2.2.2.2.1 a.2.2.2.2.2.2.2.2.1 a.2.2.2.2.2.2.2.2.2.1 a.2.2.2.2.2.2.2.2.2.2.1 a.2.2.2.2.2.2.2.2.2.2.2.1 a.2.2.2.2.2.2.2.2.2.2.2.2.1 a.2.2.2.2.2.2.2.2.2.2.2.2.2.1 a.2.2.2.2.2.2.2.2.2.2.2.2.2.2.1 a.2.2.2.2.2.2.2.2.2.2.2.2.2.2.2.1 a.2.2.2.2.2.2.2.2.2.2.2.2.2.2.2.2.1 a.2.2.2.2.2.2.2.2.2.2.2.2.2.2.2.2.2.1 a.2.2.2.2.2.2.2.2.2.2.2.2.2.2.2.2.2.2.1 a.2.2.2.2.2.2.2.2.2.2.2.2.2.2.2.2.2.2.2.1 a.2.2.2.2.2.2.2.2.2.2.2.2.2.2.2.2.2.2.2.2.1
noncomputable def O_27_43_0_2{R:Type}:Orc R:=orL T_27_43_0_2 (l_27_43_0_2 FU) Y_27_43_0_2 O_27_43_0_0
theorem OK_27_43_0_2{R:Type}:okF (R:=R) sm_27 0 (nf 43 0) O_27_43_0_2:=lp0 T_27_43_0_2 l_27_43_0_2 (fun R K k a=>S_27_43_0_2 (fun p0 p1 p2 p3 p4 p5 p6 p7 p8 p9 p10 p11 p12 p13 p14 p15 p16 p17 p18 p19 p20=>K (p0,p1,p2,p3,p4,p5,p6,p7,p8,p9,p10,p11,p12,p13,p14,p15,p16,p17,p18,p19,p20,())) k a.1 a.2.1 a.2.2.1 a.2.2.2.1 a.2.2.2.2.1 a.2.2.2.2.2.1 a.2.2.2.2.2.2.1 a.2.2.2.2.2.2.2.1 a.2.2.2.2.2.2.2.2.1 a.2.2.2.2.2.2.2.2.2.1 a.2.2.2.2.2.2.2.2.2.2.1 a.2.2.2.2.2.2.2.2.2.2.2.1 a.2.2.2.2.2.2.2.2.2.2.2.2.1 a.2.2.2.2.2.2.2.2.2.2.2.2.2.1 a.2.2.2.2.2.2.2.2.2.2.2.2.2.2.1 a.2.2.2.2.2.2.2.2.2.2.2.2.2.2.2.1 a.2.2.2.2.2.2.2.2.2.2.2.2.2.2.2.2.1 a.2.2.2.2.2.2.2.2.2.2.2.2.2.2.2.2.2.1 a.2.2.2.2.2.2.2.2.2.2.2.2.2.2.2.2.2.2.1 a.2.2.2.2.2.2.2.2.2.2.2.2.2.2.2.2.2.2.2.1 a.2.2.2.2.2.2.2.2.2.2.2.2.2.2.2.2.2.2.2.2.1) Y_27_43_0_2 (fun _ _ _=>by kernel_rfl) (fun _ _ _=>by
 unfold S_27_43_0_2
 repeat' first|apply gdN|apply condN|rfl) OK_27_43_0_0
noncomputable def g_27_43{R:Type}:List CV->List Blk->(CV->List Blk->Option R)->Option R:=evFnL sm_27 FU (ovr noO (evFn sm_27 fns FU 0)) (mkT (fB fns 43) [O_27_43_0_2]) (fO fns 43)
theorem g_27_43_ok{R:Type}(args:List CV)(hp:List Blk)(k:CV->List Blk->Option R)(r:R)(h:g_27_43 args hp k=some r):evFn sm_27 fns FU 1 43 args hp k=some r:=runG noO_ok (os:=[O_27_43_0_2]) ⟨OK_27_43_0_2,trivial⟩ h
noncomputable def ov_27_27{R:Type}:Nat->Option (List CV->List Blk->(CV->List Blk->Option R)->Option R):=fun f'=>bif Nat.beq f' 43 then some g_27_43 else none
theorem ov_27_27_ok{R:Type}:OvrOK (R:=R) ov_27_27 (evFn sm_27 fns FU 1):=by
 intro f' g h args hp k r hg
 dsimp only[ov_27_27]at h
 by_cases h43:f'=43
 ·subst h43
  injection h with h
  subst h
  exact evFn_le 0 (g_27_43_ok _ _ _ _ hg)
 rw[nbeq_ne h43,cond_false]at h
 cases h
noncomputable def T_27_1_1:PS:=⟨145,[(5,.kc (.ptr 0 [])),(6,.kc (.ptr 1 [])),(8,.kc (.ptr 2 [])),(9,.kc (.ptr 5 [])),(10,.kc (.ptr 8 [])),(12,.hv (.int .i64)),(15,.hv (.int .i64)),(16,.kc (.ptr 9 [])),(115,.hv (.int .i64)),(116,.hv (.int .i64))],[.mem (.hv Zy27_5),.mem (.hv Zy27_3),.mem (.pr (.hv (.int .i64)) (.pr (.hv (.int .i64)) (.pr (.hv (.int .i64)) (.pr (.pr (.hv (.int .i64)) (.pr (.hv (.int .i64)) (.pr (.hv (.arr 32 (.int .u8))) (.pr (.pr (.hv (.int .i64)) (.kc (.pair (.whole 3) (.pair (.whole 4) (.pure .unit PUnit.unit))))) (.kc (.pure .unit PUnit.unit)))))) (.kc (.pure .unit PUnit.unit)))))),.vec 23 (.arr 32 (.int .u8)),.vec 23 (.arr 32 (.int .u8)),.mem (.pr (.pr (.kc (.whole 6)) (.pr (.kc (.whole 7)) (.hv (.pair (.int .i64) .unit)))) (.hv Zy27_12)),.vec 42 (.int .u32),.vec 3 (.int .i64),.mem (.hv Zy27_11),.mem (.hv Zy27_7)],0⟩
inductive Sp.E_27_1_1 where
 |e0 (p0:Int) (p4:Zt27_2) (p5:Zt27_1) (p6 p7 p8 p9 p10:Int) (p11:List Int) (p12:Int) (p13 p14:Zt27_4) (p15:Int×Unit) (p16:Zt27_6) (p17 p18:List Int) (p19:Zt27_9) (p20:Zt27_0)
noncomputable def Sp.B_27_1_1{R:Type}(r:Option E_27_1_1)(k0:Int->Zt27_2->Zt27_1->Int->Int->Int->Int->Int->List Int->Int->Zt27_4->Zt27_4->(Int×Unit)->Zt27_6->List Int->List Int->Zt27_9->Zt27_0->Option R):Option R:=match r with
 |none=>none
 |some (.e0 p0 p4 p5 p6 p7 p8 p9 p10 p11 p12 p13 p14 p15 p16 p17 p18 p19 p20)=>k0 p0 p4 p5 p6 p7 p8 p9 p10 p11 p12 p13 p14 p15 p16 p17 p18 p19 p20
noncomputable def Y_27_1_1{R:Type}(k:Ex->St->Option R):E_27_1_1->Option R
 | .e0 p0 p4 p5 p6 p7 p8 p9 p10 p11 p12 p13 p14 p15 p16 p17 p18 p19 p20=>k (Ex.exit 1) (sx 145 [(5,CV.ptr 0 []),(6,CV.ptr 1 []),(8,CV.ptr 2 []),(9,CV.ptr 5 []),(10,CV.ptr 8 []),(12,CV.int i64 p0),(16,CV.ptr 9 [])] [Blk.mem (CV.pure (Ty.pair (Ty.pair (Ty.slice (Ty.int u32)) (Ty.pair (Ty.slice (Ty.int i64)) (Ty.pair (Ty.int i64) Ty.unit))) (Ty.pair (Ty.arr 32 (Ty.int u8)) Ty.unit)) p4),Blk.mem (CV.pure (Ty.pair (Ty.int i64) (Ty.pair (Ty.int i64) (Ty.pair (Ty.arr 32 (Ty.int u8)) (Ty.pair (Ty.pair (Ty.int i64) (Ty.pair (Ty.slice (Ty.arr 32 (Ty.int u8))) (Ty.pair (Ty.slice (Ty.arr 32 (Ty.int u8))) Ty.unit))) Ty.unit)))) p5),Blk.mem (CV.pair (CV.int i64 p6) (CV.pair (CV.int i64 p7) (CV.pair (CV.int i64 p8) (CV.pair (CV.pair (CV.int i64 p9) (CV.pair (CV.int i64 p10) (CV.pair (CV.pure (Ty.arr 32 (Ty.int u8)) p11) (CV.pair (CV.pair (CV.int i64 p12) (CV.pair (CV.whole 3) (CV.pair (CV.whole 4) (CV.pure Ty.unit PUnit.unit)))) (CV.pure Ty.unit PUnit.unit))))) (CV.pure Ty.unit PUnit.unit))))),Blk.vec 23 (Ty.arr 32 (Ty.int u8)) p13,Blk.vec 23 (Ty.arr 32 (Ty.int u8)) p14,Blk.mem (CV.pair (CV.pair (CV.whole 6) (CV.pair (CV.whole 7) (CV.pure (Ty.pair (Ty.int i64) Ty.unit) p15))) (CV.pure (Ty.pair (Ty.arr 32 (Ty.int u8)) Ty.unit) p16)),Blk.vec 42 (Ty.int u32) p17,Blk.vec 3 (Ty.int i64) p18,Blk.mem (CV.pure (Ty.pair (Ty.int i64) (Ty.pair (Ty.int u32) Ty.unit)) p19),Blk.mem (CV.pure (Ty.pair (Ty.pair (Ty.pair (Ty.slice (Ty.int u32)) (Ty.pair (Ty.slice (Ty.int i64)) (Ty.pair (Ty.int i64) Ty.unit))) (Ty.pair (Ty.arr 32 (Ty.int u8)) Ty.unit)) (Ty.pair (Ty.pair (Ty.int i64) (Ty.pair (Ty.int u32) Ty.unit)) (Ty.pair (Ty.int i64) Ty.unit))) p20)])
noncomputable def Sp.S_27_1_1{R:Type}(K:Int->Int->Int->Int->((List Int×List Int×Int×Unit)×List Int×Unit)->(Int×Int×List Int×(Int×List (List Int)×List (List Int)×Unit)×Unit)->Int->Int->Int->Int->Int->List Int->Int->List (List Int)->List (List Int)->(Int×Unit)->(List Int×Unit)->List Int->List Int->(Int×Int×Unit)->(((List Int×List Int×Int×Unit)×List Int×Unit)×(Int×Int×Unit)×Int×Unit)->Option R)(k:E_27_1_1->Option R)(p0 p1 p2 p3:Int)(p4:(List Int×List Int×Int×Unit)×List Int×Unit)(p5:Int×Int×List Int×(Int×List (List Int)×List (List Int)×Unit)×Unit)(p6 p7 p8 p9 p10:Int)(p11:List Int)(p12:Int)(p13 p14:List (List Int))(p15:Int×Unit)(p16:List Int×Unit)(p17 p18:List Int)(p19:Int×Int×Unit)(p20:((List Int×List Int×Int×Unit)×List Int×Unit)×(Int×Int×Unit)×Int×Unit):Option R:=
 bif decide (p3<p2)then bif p20.2.2.1==0 then gd (p_91 (p20.1.1) (wrap i64 (wrap i64 (p0*p1)+p3)) (p20.2.1)) (K p0 p1 p2 (wrap i64 (p3+1)) p4 p5 p6 p7 p8 p9 p10 p11 p12 p13 p14 p15 p16 p17 p18 p19 (((v_91 (p20.1.1) (wrap i64 (wrap i64 (p0*p1)+p3)) (p20.2.1)).1,p20.1.2),(v_91 (p20.1.1) (wrap i64 (wrap i64 (p0*p1)+p3)) (p20.2.1)).2.1,(v_91 (p20.1.1) (wrap i64 (wrap i64 (p0*p1)+p3)) (p20.2.1)).2.2.1,p20.2.2.2))else K p0 p1 p2 (wrap i64 (p3+1)) p4 p5 p6 p7 p8 p9 p10 p11 p12 p13 p14 p15 p16 p17 p18 p19 p20 else k (E_27_1_1.e0 p0 p4 p5 p6 p7 p8 p9 p10 p11 p12 p13 p14 p15 p16 p17 p18 p19 p20)
noncomputable def Sp.L_27_1_1:Nat->Int->Int->Int->Int->((List Int×List Int×Int×Unit)×List Int×Unit)->(Int×Int×List Int×(Int×List (List Int)×List (List Int)×Unit)×Unit)->Int->Int->Int->Int->Int->List Int->Int->List (List Int)->List (List Int)->(Int×Unit)->(List Int×Unit)->List Int->List Int->(Int×Int×Unit)->(((List Int×List Int×Int×Unit)×List Int×Unit)×(Int×Int×Unit)×Int×Unit)->Option E_27_1_1
 |0,_,_,_,_,_,_,_,_,_,_,_,_,_,_,_,_,_,_,_,_,_=>none
 |m+1,p0,p1,p2,p3,p4,p5,p6,p7,p8,p9,p10,p11,p12,p13,p14,p15,p16,p17,p18,p19,p20=>S_27_1_1 (L_27_1_1 m) some p0 p1 p2 p3 p4 p5 p6 p7 p8 p9 p10 p11 p12 p13 p14 p15 p16 p17 p18 p19 p20
noncomputable def l_27_1_1(m:Nat)(a:T_27_1_1.E):Option E_27_1_1:=L_27_1_1 m a.1 a.2.1 a.2.2.1 a.2.2.2.1 a.2.2.2.2.1 a.2.2.2.2.2.1 a.2.2.2.2.2.2.1 a.2.2.2.2.2.2.2.1 a.2.2.2.2.2.2.2.2.1 a.2.2.2.2.2.2.2.2.2.1 a.2.2.2.2.2.2.2.2.2.2.1 a.2.2.2.2.2.2.2.2.2.2.2.1 a.2.2.2.2.2.2.2.2.2.2.2.2.1 a.2.2.2.2.2.2.2.2.2.2.2.2.2.1 a.2.2.2.2.2.2.2.2.2.2.2.2.2.2.1 a.2.2.2.2.2.2.2.2.2.2.2.2.2.2.2.1 a.2.2.2.2.2.2.2.2.2.2.2.2.2.2.2.2.1 a.2.2.2.2.2.2.2.2.2.2.2.2.2.2.2.2.2.1 a.2.2.2.2.2.2.2.2.2.2.2.2.2.2.2.2.2.2.1 a.2.2.2.2.2.2.2.2.2.2.2.2.2.2.2.2.2.2.2.1 a.2.2.2.2.2.2.2.2.2.2.2.2.2.2.2.2.2.2.2.2.1
noncomputable def O_27_1_1{R:Type}:Orc R:=orL T_27_1_1 (l_27_1_1 FU) Y_27_1_1
theorem loop_27_1_1{R:Type}(k:Ex->St->Option R):∀m a,evLoopN (evCodeL sm_27 FU (ovr ov_27_27 (evFn sm_27 fns FU 1)) (mkT (inner (ni (nf 27 0) 0)) []) (inner (ni (nf 27 0) 0))) (St.norm (lv (ni (nf 27 0) 0))) m (T_27_1_1.inst a) k=(l_27_1_1 m a).bind (Y_27_1_1 k):=lpN l_27_1_1 (fun R K k a=>S_27_1_1 (fun p0 p1 p2 p3 p4 p5 p6 p7 p8 p9 p10 p11 p12 p13 p14 p15 p16 p17 p18 p19 p20=>K (p0,p1,p2,p3,p4,p5,p6,p7,p8,p9,p10,p11,p12,p13,p14,p15,p16,p17,p18,p19,p20,())) k a.1 a.2.1 a.2.2.1 a.2.2.2.1 a.2.2.2.2.1 a.2.2.2.2.2.1 a.2.2.2.2.2.2.1 a.2.2.2.2.2.2.2.1 a.2.2.2.2.2.2.2.2.1 a.2.2.2.2.2.2.2.2.2.1 a.2.2.2.2.2.2.2.2.2.2.1 a.2.2.2.2.2.2.2.2.2.2.2.1 a.2.2.2.2.2.2.2.2.2.2.2.2.1 a.2.2.2.2.2.2.2.2.2.2.2.2.2.1 a.2.2.2.2.2.2.2.2.2.2.2.2.2.2.1 a.2.2.2.2.2.2.2.2.2.2.2.2.2.2.2.1 a.2.2.2.2.2.2.2.2.2.2.2.2.2.2.2.2.1 a.2.2.2.2.2.2.2.2.2.2.2.2.2.2.2.2.2.1 a.2.2.2.2.2.2.2.2.2.2.2.2.2.2.2.2.2.2.1 a.2.2.2.2.2.2.2.2.2.2.2.2.2.2.2.2.2.2.2.1 a.2.2.2.2.2.2.2.2.2.2.2.2.2.2.2.2.2.2.2.2.1) (fun _=>rfl) (fun _ _=>rfl) (fun K a=>by kernel_rfl) (fun K a=>by
 unfold S_27_1_1
 repeat' first|apply gdN|apply condN|rfl)
theorem OK_27_1_1{R:Type}:okF (R:=R) sm_27 1 (ni (nf 27 0) 0) O_27_1_1:=lp ov_27_27_ok (os:=[]) trivial T_27_1_1 l_27_1_1 (fun R K k a=>S_27_1_1 (fun p0 p1 p2 p3 p4 p5 p6 p7 p8 p9 p10 p11 p12 p13 p14 p15 p16 p17 p18 p19 p20=>K (p0,p1,p2,p3,p4,p5,p6,p7,p8,p9,p10,p11,p12,p13,p14,p15,p16,p17,p18,p19,p20,())) k a.1 a.2.1 a.2.2.1 a.2.2.2.1 a.2.2.2.2.1 a.2.2.2.2.2.1 a.2.2.2.2.2.2.1 a.2.2.2.2.2.2.2.1 a.2.2.2.2.2.2.2.2.1 a.2.2.2.2.2.2.2.2.2.1 a.2.2.2.2.2.2.2.2.2.2.1 a.2.2.2.2.2.2.2.2.2.2.2.1 a.2.2.2.2.2.2.2.2.2.2.2.2.1 a.2.2.2.2.2.2.2.2.2.2.2.2.2.1 a.2.2.2.2.2.2.2.2.2.2.2.2.2.2.1 a.2.2.2.2.2.2.2.2.2.2.2.2.2.2.2.1 a.2.2.2.2.2.2.2.2.2.2.2.2.2.2.2.2.1 a.2.2.2.2.2.2.2.2.2.2.2.2.2.2.2.2.2.1 a.2.2.2.2.2.2.2.2.2.2.2.2.2.2.2.2.2.2.1 a.2.2.2.2.2.2.2.2.2.2.2.2.2.2.2.2.2.2.2.1 a.2.2.2.2.2.2.2.2.2.2.2.2.2.2.2.2.2.2.2.2.1) Y_27_1_1 (fun _=>rfl) (fun _ _=>rfl) (fun k K a=>by kernel_rfl) (fun Y K a=>by
 unfold S_27_1_1
 repeat' first|apply gdN|apply condN|rfl) (ok0 _)
noncomputable def T_27_1:PS:=⟨145,[(5,.kc (.ptr 0 [])),(6,.kc (.ptr 1 [])),(8,.kc (.ptr 2 [])),(9,.kc (.ptr 5 [])),(10,.kc (.ptr 8 [])),(12,.hv (.int .i64)),(15,.hv (.int .i64)),(16,.kc (.ptr 9 [])),(115,.hv (.int .i64)),(116,.hv (.int .i64))],[.mem (.hv Zy27_5),.mem (.hv Zy27_3),.mem (.pr (.hv (.int .i64)) (.pr (.hv (.int .i64)) (.pr (.hv (.int .i64)) (.pr (.pr (.hv (.int .i64)) (.pr (.hv (.int .i64)) (.pr (.hv (.arr 32 (.int .u8))) (.pr (.pr (.hv (.int .i64)) (.kc (.pair (.whole 3) (.pair (.whole 4) (.pure .unit PUnit.unit))))) (.kc (.pure .unit PUnit.unit)))))) (.kc (.pure .unit PUnit.unit)))))),.vec 23 (.arr 32 (.int .u8)),.vec 23 (.arr 32 (.int .u8)),.mem (.pr (.pr (.kc (.whole 6)) (.pr (.kc (.whole 7)) (.hv (.pair (.int .i64) .unit)))) (.hv Zy27_12)),.vec 42 (.int .u32),.vec 3 (.int .i64),.mem (.hv Zy27_11),.mem (.pr (.pr (.pr (.kc (.whole 10)) (.pr (.kc (.whole 11)) (.hv (.pair (.int .i64) .unit)))) (.hv Zy27_12)) (.hv Zy27_15)),.vec 42 (.int .u32),.vec 3 (.int .i64)],0⟩
inductive Sp.E_27_1 where
 |e0 (p0:Int) (p4:Zt27_2) (p5:Zt27_1) (p6 p7 p8 p9 p10:Int) (p11:List Int) (p12:Int) (p13 p14:Zt27_4) (p15:Int×Unit) (p16:Zt27_6) (p17 p18:List Int) (p19:Zt27_9) (p20:Int×Unit) (p21:Zt27_6) (p22:Zt27_8) (p23 p24:List Int)
 |e1 (p0:Int) (p4:Zt27_2) (p5:Zt27_1) (p6 p7 p8 p9 p10:Int) (p11:List Int) (p12:Int) (p13 p14:Zt27_4) (p15:Int×Unit) (p16:Zt27_6) (p17 p18:List Int) (p19:Zt27_9) (p20:Zt27_0)
noncomputable def Sp.B_27_1{R:Type}(r:Option E_27_1)(k0:Int->Zt27_2->Zt27_1->Int->Int->Int->Int->Int->List Int->Int->Zt27_4->Zt27_4->(Int×Unit)->Zt27_6->List Int->List Int->Zt27_9->(Int×Unit)->Zt27_6->Zt27_8->List Int->List Int->Option R)(k1:Int->Zt27_2->Zt27_1->Int->Int->Int->Int->Int->List Int->Int->Zt27_4->Zt27_4->(Int×Unit)->Zt27_6->List Int->List Int->Zt27_9->Zt27_0->Option R):Option R:=match r with
 |none=>none
 |some (.e0 p0 p4 p5 p6 p7 p8 p9 p10 p11 p12 p13 p14 p15 p16 p17 p18 p19 p20 p21 p22 p23 p24)=>k0 p0 p4 p5 p6 p7 p8 p9 p10 p11 p12 p13 p14 p15 p16 p17 p18 p19 p20 p21 p22 p23 p24
 |some (.e1 p0 p4 p5 p6 p7 p8 p9 p10 p11 p12 p13 p14 p15 p16 p17 p18 p19 p20)=>k1 p0 p4 p5 p6 p7 p8 p9 p10 p11 p12 p13 p14 p15 p16 p17 p18 p19 p20
theorem Bn_27_1{A R:Type}{r:Option E_27_1}{f:A->Option R}{k0:Int->Zt27_2->Zt27_1->Int->Int->Int->Int->Int->List Int->Int->Zt27_4->Zt27_4->(Int×Unit)->Zt27_6->List Int->List Int->Zt27_9->(Int×Unit)->Zt27_6->Zt27_8->List Int->List Int->Option A}{k1:Int->Zt27_2->Zt27_1->Int->Int->Int->Int->Int->List Int->Int->Zt27_4->Zt27_4->(Int×Unit)->Zt27_6->List Int->List Int->Zt27_9->Zt27_0->Option A}{l0:Int->Zt27_2->Zt27_1->Int->Int->Int->Int->Int->List Int->Int->Zt27_4->Zt27_4->(Int×Unit)->Zt27_6->List Int->List Int->Zt27_9->(Int×Unit)->Zt27_6->Zt27_8->List Int->List Int->Option R}{l1:Int->Zt27_2->Zt27_1->Int->Int->Int->Int->Int->List Int->Int->Zt27_4->Zt27_4->(Int×Unit)->Zt27_6->List Int->List Int->Zt27_9->Zt27_0->Option R}(h0:∀p0 p4 p5 p6 p7 p8 p9 p10 p11 p12 p13 p14 p15 p16 p17 p18 p19 p20 p21 p22 p23 p24,(k0 p0 p4 p5 p6 p7 p8 p9 p10 p11 p12 p13 p14 p15 p16 p17 p18 p19 p20 p21 p22 p23 p24).bind f=l0 p0 p4 p5 p6 p7 p8 p9 p10 p11 p12 p13 p14 p15 p16 p17 p18 p19 p20 p21 p22 p23 p24)(h1:∀p0 p4 p5 p6 p7 p8 p9 p10 p11 p12 p13 p14 p15 p16 p17 p18 p19 p20,(k1 p0 p4 p5 p6 p7 p8 p9 p10 p11 p12 p13 p14 p15 p16 p17 p18 p19 p20).bind f=l1 p0 p4 p5 p6 p7 p8 p9 p10 p11 p12 p13 p14 p15 p16 p17 p18 p19 p20):(B_27_1 r k0 k1).bind f=B_27_1 r l0 l1:=by
 cases r with
 |none=>rfl
 |some e=>cases e<;>first|apply h0|apply h1
noncomputable def Y_27_1{R:Type}(k:Ex->St->Option R):E_27_1->Option R
 | .e0 p0 p4 p5 p6 p7 p8 p9 p10 p11 p12 p13 p14 p15 p16 p17 p18 p19 p20 p21 p22 p23 p24=>k (Ex.exit 1) (sx 145 [(5,CV.ptr 0 []),(6,CV.ptr 1 []),(8,CV.ptr 2 []),(9,CV.ptr 5 []),(10,CV.ptr 8 []),(12,CV.int i64 p0),(16,CV.ptr 9 [])] [Blk.mem (CV.pure (Ty.pair (Ty.pair (Ty.slice (Ty.int u32)) (Ty.pair (Ty.slice (Ty.int i64)) (Ty.pair (Ty.int i64) Ty.unit))) (Ty.pair (Ty.arr 32 (Ty.int u8)) Ty.unit)) p4),Blk.mem (CV.pure (Ty.pair (Ty.int i64) (Ty.pair (Ty.int i64) (Ty.pair (Ty.arr 32 (Ty.int u8)) (Ty.pair (Ty.pair (Ty.int i64) (Ty.pair (Ty.slice (Ty.arr 32 (Ty.int u8))) (Ty.pair (Ty.slice (Ty.arr 32 (Ty.int u8))) Ty.unit))) Ty.unit)))) p5),Blk.mem (CV.pair (CV.int i64 p6) (CV.pair (CV.int i64 p7) (CV.pair (CV.int i64 p8) (CV.pair (CV.pair (CV.int i64 p9) (CV.pair (CV.int i64 p10) (CV.pair (CV.pure (Ty.arr 32 (Ty.int u8)) p11) (CV.pair (CV.pair (CV.int i64 p12) (CV.pair (CV.whole 3) (CV.pair (CV.whole 4) (CV.pure Ty.unit PUnit.unit)))) (CV.pure Ty.unit PUnit.unit))))) (CV.pure Ty.unit PUnit.unit))))),Blk.vec 23 (Ty.arr 32 (Ty.int u8)) p13,Blk.vec 23 (Ty.arr 32 (Ty.int u8)) p14,Blk.mem (CV.pair (CV.pair (CV.whole 6) (CV.pair (CV.whole 7) (CV.pure (Ty.pair (Ty.int i64) Ty.unit) p15))) (CV.pure (Ty.pair (Ty.arr 32 (Ty.int u8)) Ty.unit) p16)),Blk.vec 42 (Ty.int u32) p17,Blk.vec 3 (Ty.int i64) p18,Blk.mem (CV.pure (Ty.pair (Ty.int i64) (Ty.pair (Ty.int u32) Ty.unit)) p19),Blk.mem (CV.pair (CV.pair (CV.pair (CV.whole 10) (CV.pair (CV.whole 11) (CV.pure (Ty.pair (Ty.int i64) Ty.unit) p20))) (CV.pure (Ty.pair (Ty.arr 32 (Ty.int u8)) Ty.unit) p21)) (CV.pure (Ty.pair (Ty.pair (Ty.int i64) (Ty.pair (Ty.int u32) Ty.unit)) (Ty.pair (Ty.int i64) Ty.unit)) p22)),Blk.vec 42 (Ty.int u32) p23,Blk.vec 3 (Ty.int i64) p24])
 | .e1 p0 p4 p5 p6 p7 p8 p9 p10 p11 p12 p13 p14 p15 p16 p17 p18 p19 p20=>k (Ex.exit 1) (sx 145 [(5,CV.ptr 0 []),(6,CV.ptr 1 []),(8,CV.ptr 2 []),(9,CV.ptr 5 []),(10,CV.ptr 8 []),(12,CV.int i64 p0),(16,CV.ptr 9 [])] [Blk.mem (CV.pure (Ty.pair (Ty.pair (Ty.slice (Ty.int u32)) (Ty.pair (Ty.slice (Ty.int i64)) (Ty.pair (Ty.int i64) Ty.unit))) (Ty.pair (Ty.arr 32 (Ty.int u8)) Ty.unit)) p4),Blk.mem (CV.pure (Ty.pair (Ty.int i64) (Ty.pair (Ty.int i64) (Ty.pair (Ty.arr 32 (Ty.int u8)) (Ty.pair (Ty.pair (Ty.int i64) (Ty.pair (Ty.slice (Ty.arr 32 (Ty.int u8))) (Ty.pair (Ty.slice (Ty.arr 32 (Ty.int u8))) Ty.unit))) Ty.unit)))) p5),Blk.mem (CV.pair (CV.int i64 p6) (CV.pair (CV.int i64 p7) (CV.pair (CV.int i64 p8) (CV.pair (CV.pair (CV.int i64 p9) (CV.pair (CV.int i64 p10) (CV.pair (CV.pure (Ty.arr 32 (Ty.int u8)) p11) (CV.pair (CV.pair (CV.int i64 p12) (CV.pair (CV.whole 3) (CV.pair (CV.whole 4) (CV.pure Ty.unit PUnit.unit)))) (CV.pure Ty.unit PUnit.unit))))) (CV.pure Ty.unit PUnit.unit))))),Blk.vec 23 (Ty.arr 32 (Ty.int u8)) p13,Blk.vec 23 (Ty.arr 32 (Ty.int u8)) p14,Blk.mem (CV.pair (CV.pair (CV.whole 6) (CV.pair (CV.whole 7) (CV.pure (Ty.pair (Ty.int i64) Ty.unit) p15))) (CV.pure (Ty.pair (Ty.arr 32 (Ty.int u8)) Ty.unit) p16)),Blk.vec 42 (Ty.int u32) p17,Blk.vec 3 (Ty.int i64) p18,Blk.mem (CV.pure (Ty.pair (Ty.int i64) (Ty.pair (Ty.int u32) Ty.unit)) p19),Blk.mem (CV.pure (Ty.pair (Ty.pair (Ty.pair (Ty.slice (Ty.int u32)) (Ty.pair (Ty.slice (Ty.int i64)) (Ty.pair (Ty.int i64) Ty.unit))) (Ty.pair (Ty.arr 32 (Ty.int u8)) Ty.unit)) (Ty.pair (Ty.pair (Ty.int i64) (Ty.pair (Ty.int u32) Ty.unit)) (Ty.pair (Ty.int i64) Ty.unit))) p20)])
noncomputable def Sp.S_27_1{R:Type}(K:Int->Int->Int->Int->((List Int×List Int×Int×Unit)×List Int×Unit)->(Int×Int×List Int×(Int×List (List Int)×List (List Int)×Unit)×Unit)->Int->Int->Int->Int->Int->List Int->Int->List (List Int)->List (List Int)->(Int×Unit)->(List Int×Unit)->List Int->List Int->(Int×Int×Unit)->(Int×Unit)->(List Int×Unit)->((Int×Int×Unit)×Int×Unit)->List Int->List Int->Option R)(KB:Int->Int->Int->Int->((List Int×List Int×Int×Unit)×List Int×Unit)->(Int×Int×List Int×(Int×List (List Int)×List (List Int)×Unit)×Unit)->Int->Int->Int->Int->Int->List Int->Int->List (List Int)->List (List Int)->(Int×Unit)->(List Int×Unit)->List Int->List Int->(Int×Int×Unit)->(((List Int×List Int×Int×Unit)×List Int×Unit)×(Int×Int×Unit)×Int×Unit)->Option R)(k:E_27_1->Option R)(p0 p1 p2 p3:Int)(p4:(List Int×List Int×Int×Unit)×List Int×Unit)(p5:Int×Int×List Int×(Int×List (List Int)×List (List Int)×Unit)×Unit)(p6 p7 p8 p9 p10:Int)(p11:List Int)(p12:Int)(p13 p14:List (List Int))(p15:Int×Unit)(p16:List Int×Unit)(p17 p18:List Int)(p19:Int×Int×Unit)(p20:Int×Unit)(p21:List Int×Unit)(p22:(Int×Int×Unit)×Int×Unit)(p23 p24:List Int):Option R:=
 bif decide (p3<p2)then bif p22.2.1==0 then gd (p_91 (p23,p24,p20) (wrap i64 (wrap i64 (p0*p1)+p3)) (p22.1)) (KB p0 p1 p2 (wrap i64 (p3+1)) p4 p5 p6 p7 p8 p9 p10 p11 p12 p13 p14 p15 p16 p17 p18 p19 (((v_91 (p23,p24,p20) (wrap i64 (wrap i64 (p0*p1)+p3)) (p22.1)).1,p21),(v_91 (p23,p24,p20) (wrap i64 (wrap i64 (p0*p1)+p3)) (p22.1)).2.1,(v_91 (p23,p24,p20) (wrap i64 (wrap i64 (p0*p1)+p3)) (p22.1)).2.2.1,p22.2.2))else K p0 p1 p2 (wrap i64 (p3+1)) p4 p5 p6 p7 p8 p9 p10 p11 p12 p13 p14 p15 p16 p17 p18 p19 p20 p21 p22 p23 p24 else k (E_27_1.e0 p0 p4 p5 p6 p7 p8 p9 p10 p11 p12 p13 p14 p15 p16 p17 p18 p19 p20 p21 p22 p23 p24)
noncomputable def C_27_1:E_27_1_1->E_27_1
 | .e0 p0 p4 p5 p6 p7 p8 p9 p10 p11 p12 p13 p14 p15 p16 p17 p18 p19 p20=> .e1 p0 p4 p5 p6 p7 p8 p9 p10 p11 p12 p13 p14 p15 p16 p17 p18 p19 p20
theorem BC_27_1(r:Option E_27_1_1):B_27_1_1 r (fun p0 p4 p5 p6 p7 p8 p9 p10 p11 p12 p13 p14 p15 p16 p17 p18 p19 p20=>some (E_27_1.e1 p0 p4 p5 p6 p7 p8 p9 p10 p11 p12 p13 p14 p15 p16 p17 p18 p19 p20))=r.bind fun e=>some (C_27_1 e):=by
 cases r with
 |none=>rfl
 |some e=>cases e<;>rfl
noncomputable def Sp.L_27_1:Nat->Int->Int->Int->Int->((List Int×List Int×Int×Unit)×List Int×Unit)->(Int×Int×List Int×(Int×List (List Int)×List (List Int)×Unit)×Unit)->Int->Int->Int->Int->Int->List Int->Int->List (List Int)->List (List Int)->(Int×Unit)->(List Int×Unit)->List Int->List Int->(Int×Int×Unit)->(Int×Unit)->(List Int×Unit)->((Int×Int×Unit)×Int×Unit)->List Int->List Int->Option E_27_1
 |0,_,_,_,_,_,_,_,_,_,_,_,_,_,_,_,_,_,_,_,_,_,_,_,_,_=>none
 |m+1,p0,p1,p2,p3,p4,p5,p6,p7,p8,p9,p10,p11,p12,p13,p14,p15,p16,p17,p18,p19,p20,p21,p22,p23,p24=>S_27_1 (L_27_1 m) (fun q0 q1 q2 q3 q4 q5 q6 q7 q8 q9 q10 q11 q12 q13 q14 q15 q16 q17 q18 q19 q20=>B_27_1_1 (L_27_1_1 m q0 q1 q2 q3 q4 q5 q6 q7 q8 q9 q10 q11 q12 q13 q14 q15 q16 q17 q18 q19 q20) (fun p0 p4 p5 p6 p7 p8 p9 p10 p11 p12 p13 p14 p15 p16 p17 p18 p19 p20=>some (E_27_1.e1 p0 p4 p5 p6 p7 p8 p9 p10 p11 p12 p13 p14 p15 p16 p17 p18 p19 p20))) some p0 p1 p2 p3 p4 p5 p6 p7 p8 p9 p10 p11 p12 p13 p14 p15 p16 p17 p18 p19 p20 p21 p22 p23 p24
noncomputable def l_27_1(m:Nat)(a:T_27_1.E):Option E_27_1:=L_27_1 m a.1 a.2.1 a.2.2.1 a.2.2.2.1 a.2.2.2.2.1 a.2.2.2.2.2.1 a.2.2.2.2.2.2.1 a.2.2.2.2.2.2.2.1 a.2.2.2.2.2.2.2.2.1 a.2.2.2.2.2.2.2.2.2.1 a.2.2.2.2.2.2.2.2.2.2.1 a.2.2.2.2.2.2.2.2.2.2.2.1 a.2.2.2.2.2.2.2.2.2.2.2.2.1 a.2.2.2.2.2.2.2.2.2.2.2.2.2.1 a.2.2.2.2.2.2.2.2.2.2.2.2.2.2.1 a.2.2.2.2.2.2.2.2.2.2.2.2.2.2.2.1 a.2.2.2.2.2.2.2.2.2.2.2.2.2.2.2.2.1 a.2.2.2.2.2.2.2.2.2.2.2.2.2.2.2.2.2.1 a.2.2.2.2.2.2.2.2.2.2.2.2.2.2.2.2.2.2.1 a.2.2.2.2.2.2.2.2.2.2.2.2.2.2.2.2.2.2.2.1 a.2.2.2.2.2.2.2.2.2.2.2.2.2.2.2.2.2.2.2.2.1 a.2.2.2.2.2.2.2.2.2.2.2.2.2.2.2.2.2.2.2.2.2.1 a.2.2.2.2.2.2.2.2.2.2.2.2.2.2.2.2.2.2.2.2.2.2.1 a.2.2.2.2.2.2.2.2.2.2.2.2.2.2.2.2.2.2.2.2.2.2.2.1 a.2.2.2.2.2.2.2.2.2.2.2.2.2.2.2.2.2.2.2.2.2.2.2.2.1
noncomputable def O_27_1{R:Type}:Orc R:=orL T_27_1 (l_27_1 FU) Y_27_1 O_27_1_1
theorem OK_27_1{R:Type}:okF (R:=R) sm_27 1 (ni (nf 27 0) 0) O_27_1:=lp2 ov_27_27_ok (os:=[]) trivial T_27_1 T_27_1_1 l_27_1 l_27_1_1 (fun R K KB k a=>S_27_1 (fun p0 p1 p2 p3 p4 p5 p6 p7 p8 p9 p10 p11 p12 p13 p14 p15 p16 p17 p18 p19 p20 p21 p22 p23 p24=>K (p0,p1,p2,p3,p4,p5,p6,p7,p8,p9,p10,p11,p12,p13,p14,p15,p16,p17,p18,p19,p20,p21,p22,p23,p24,())) (fun q0 q1 q2 q3 q4 q5 q6 q7 q8 q9 q10 q11 q12 q13 q14 q15 q16 q17 q18 q19 q20=>KB (q0,q1,q2,q3,q4,q5,q6,q7,q8,q9,q10,q11,q12,q13,q14,q15,q16,q17,q18,q19,q20,())) k a.1 a.2.1 a.2.2.1 a.2.2.2.1 a.2.2.2.2.1 a.2.2.2.2.2.1 a.2.2.2.2.2.2.1 a.2.2.2.2.2.2.2.1 a.2.2.2.2.2.2.2.2.1 a.2.2.2.2.2.2.2.2.2.1 a.2.2.2.2.2.2.2.2.2.2.1 a.2.2.2.2.2.2.2.2.2.2.2.1 a.2.2.2.2.2.2.2.2.2.2.2.2.1 a.2.2.2.2.2.2.2.2.2.2.2.2.2.1 a.2.2.2.2.2.2.2.2.2.2.2.2.2.2.1 a.2.2.2.2.2.2.2.2.2.2.2.2.2.2.2.1 a.2.2.2.2.2.2.2.2.2.2.2.2.2.2.2.2.1 a.2.2.2.2.2.2.2.2.2.2.2.2.2.2.2.2.2.1 a.2.2.2.2.2.2.2.2.2.2.2.2.2.2.2.2.2.2.1 a.2.2.2.2.2.2.2.2.2.2.2.2.2.2.2.2.2.2.2.1 a.2.2.2.2.2.2.2.2.2.2.2.2.2.2.2.2.2.2.2.2.1 a.2.2.2.2.2.2.2.2.2.2.2.2.2.2.2.2.2.2.2.2.2.1 a.2.2.2.2.2.2.2.2.2.2.2.2.2.2.2.2.2.2.2.2.2.2.1 a.2.2.2.2.2.2.2.2.2.2.2.2.2.2.2.2.2.2.2.2.2.2.2.1 a.2.2.2.2.2.2.2.2.2.2.2.2.2.2.2.2.2.2.2.2.2.2.2.2.1) Y_27_1 Y_27_1_1 C_27_1 (fun _=>rfl) (fun m a=>by
 unfold l_27_1
 rw[L_27_1]
 simp only[BC_27_1]
 rfl) (fun k e=>by cases e<;>rfl) (fun k=>loop_27_1_1 k) (fun k K a=>by kernel_rfl) (fun Y K KB a=>by
 unfold S_27_1
 repeat' first|apply gdN|apply condN|rfl) OK_27_1_1
noncomputable def T_27_0:PS:=⟨145,[(5,.kc (.ptr 0 [])),(6,.kc (.ptr 1 [])),(7,.kc (.ptr 2 [])),(8,.kc (.ptr 3 [])),(9,.kc (.ptr 6 [])),(10,.kc (.ptr 9 [])),(12,.hv (.int .i64))],[.mem (.hv Zy27_5),.mem (.hv Zy27_3),.mem (.hv Zy27_11),.mem (.pr (.hv (.int .i64)) (.pr (.hv (.int .i64)) (.pr (.hv (.int .i64)) (.pr (.pr (.hv (.int .i64)) (.pr (.hv (.int .i64)) (.pr (.hv (.arr 32 (.int .u8))) (.pr (.pr (.hv (.int .i64)) (.kc (.pair (.whole 4) (.pair (.whole 5) (.pure .unit PUnit.unit))))) (.kc (.pure .unit PUnit.unit)))))) (.kc (.pure .unit PUnit.unit)))))),.vec 23 (.arr 32 (.int .u8)),.vec 23 (.arr 32 (.int .u8)),.mem (.pr (.pr (.kc (.whole 7)) (.pr (.kc (.whole 8)) (.hv (.pair (.int .i64) .unit)))) (.hv Zy27_12)),.vec 42 (.int .u32),.vec 3 (.int .i64),.mem (.hv Zy27_11)],0⟩
inductive Sp.E_27_0 where
 |e0
 |e1 (y97:Int) (y120:Zt27_1) (y135:Int×Unit) (y136:Zt27_6) (y137:Zt27_8) (y138 y139:List Int)
 |e2 (y135:Int×Unit) (y136:Zt27_6) (y137:Zt27_8) (y138 y139:List Int)
 |e3 (y137:Zt27_8)
 |e4 (y97:Int) (y141:Zt27_1) (y156:Zt27_0)
 |e5 (y156:Zt27_0)
 |e6 (y156:Zt27_0)
noncomputable def Sp.B_27_0{R:Type}(r:Option E_27_0)(k0:Option R)(k1:Int->Zt27_1->(Int×Unit)->Zt27_6->Zt27_8->List Int->List Int->Option R)(k2:(Int×Unit)->Zt27_6->Zt27_8->List Int->List Int->Option R)(k3:Zt27_8->Option R)(k4:Int->Zt27_1->Zt27_0->Option R)(k5 k6:Zt27_0->Option R):Option R:=match r with
 |none=>none
 |some (.e0)=>k0
 |some (.e1 y97 y120 y135 y136 y137 y138 y139)=>k1 y97 y120 y135 y136 y137 y138 y139
 |some (.e2 y135 y136 y137 y138 y139)=>k2 y135 y136 y137 y138 y139
 |some (.e3 y137)=>k3 y137
 |some (.e4 y97 y141 y156)=>k4 y97 y141 y156
 |some (.e5 y156)=>k5 y156
 |some (.e6 y156)=>k6 y156
noncomputable def Y_27_0{R:Type}(k:Ex->St->Option R):E_27_0->Option R
 | .e0=>k Ex.ret (sx 145 [(8,CV.ptr 0 []),(9,CV.ptr 1 []),(10,CV.ptr 2 []),(11,CV.int i64 ((v_41 19).2.2.2.1))] [Blk.mem (CV.pure (Ty.pair (Ty.int i64) (Ty.pair (Ty.int i64) (Ty.pair (Ty.int i64) (Ty.pair (Ty.pair (Ty.int i64) (Ty.pair (Ty.int i64) (Ty.pair (Ty.arr 32 (Ty.int u8)) (Ty.pair (Ty.pair (Ty.int i64) (Ty.pair (Ty.slice (Ty.arr 32 (Ty.int u8))) (Ty.pair (Ty.slice (Ty.arr 32 (Ty.int u8))) Ty.unit))) Ty.unit)))) Ty.unit)))) (((v_41 19).1):(Zt27_10))),Blk.mem (CV.pure (Ty.pair (Ty.pair (Ty.slice (Ty.int u32)) (Ty.pair (Ty.slice (Ty.int i64)) (Ty.pair (Ty.int i64) Ty.unit))) (Ty.pair (Ty.arr 32 (Ty.int u8)) Ty.unit)) (((v_41 19).2.1):(((List Int)×((List Int)×(Int×Unit)))×((List Int)×Unit)))),Blk.mem (CV.pure (Ty.pair (Ty.int i64) (Ty.pair (Ty.int u32) Ty.unit)) (((v_41 19).2.2.1):(Int×(Int×Unit))))])
 | .e1 y97 y120 y135 y136 y137 y138 y139=>k Ex.ret (sx 145 [(8,CV.ptr 0 []),(9,CV.ptr 1 []),(10,CV.ptr 4 []),(11,CV.int i64 0)] [Blk.mem (CV.pure (Ty.pair (Ty.int i64) (Ty.pair (Ty.int i64) (Ty.pair (Ty.int i64) (Ty.pair (Ty.pair (Ty.int i64) (Ty.pair (Ty.int i64) (Ty.pair (Ty.arr 32 (Ty.int u8)) (Ty.pair (Ty.pair (Ty.int i64) (Ty.pair (Ty.slice (Ty.arr 32 (Ty.int u8))) (Ty.pair (Ty.slice (Ty.arr 32 (Ty.int u8))) Ty.unit))) Ty.unit)))) Ty.unit)))) ((1,y97,0,y120,PUnit.unit):(Zt27_10))),Blk.mem (CV.pair (CV.pair (CV.whole 2) (CV.pair (CV.whole 3) (CV.pure (Ty.pair (Ty.int i64) Ty.unit) y135))) (CV.pure (Ty.pair (Ty.arr 32 (Ty.int u8)) Ty.unit) y136)),Blk.vec 42 (Ty.int u32) y138,Blk.vec 3 (Ty.int i64) y139,Blk.mem (CV.pure (Ty.pair (Ty.int i64) (Ty.pair (Ty.int u32) Ty.unit)) ((y137.1):Zt27_16))])
 | .e2 y135 y136 y137 y138 y139=>k Ex.ret (sx 145 [(8,CV.ptr 0 []),(9,CV.ptr 3 []),(10,CV.ptr 6 []),(11,CV.int i64 18)] [Blk.mem (CV.pair (CV.int i64 0) (CV.pair (CV.int i64 0) (CV.pair (CV.int i64 0) (CV.pair (CV.pair (CV.int i64 0) (CV.pair (CV.int i64 0) (CV.pair (CV.pure (Ty.arr 32 (Ty.int u8)) ((replicate 32 (0:Int)):(List Int))) (CV.pair (CV.pair (CV.int i64 0) (CV.pair (CV.whole 1) (CV.pair (CV.whole 2) (CV.pure Ty.unit PUnit.unit)))) (CV.pure Ty.unit PUnit.unit))))) (CV.pure Ty.unit PUnit.unit))))),Blk.vec 23 (Ty.arr 32 (Ty.int u8)) [],Blk.vec 23 (Ty.arr 32 (Ty.int u8)) [],Blk.mem (CV.pair (CV.pair (CV.whole 4) (CV.pair (CV.whole 5) (CV.pure (Ty.pair (Ty.int i64) Ty.unit) y135))) (CV.pure (Ty.pair (Ty.arr 32 (Ty.int u8)) Ty.unit) y136)),Blk.vec 42 (Ty.int u32) y138,Blk.vec 3 (Ty.int i64) y139,Blk.mem (CV.pure (Ty.pair (Ty.int i64) (Ty.pair (Ty.int u32) Ty.unit)) ((y137.1):Zt27_16))])
 | .e3 y137=>k Ex.ret (sx 145 [(8,CV.ptr 0 []),(9,CV.ptr 1 []),(10,CV.ptr 2 []),(11,CV.int i64 ((v_41 (y137.2.1)).2.2.2.1))] [Blk.mem (CV.pure (Ty.pair (Ty.int i64) (Ty.pair (Ty.int i64) (Ty.pair (Ty.int i64) (Ty.pair (Ty.pair (Ty.int i64) (Ty.pair (Ty.int i64) (Ty.pair (Ty.arr 32 (Ty.int u8)) (Ty.pair (Ty.pair (Ty.int i64) (Ty.pair (Ty.slice (Ty.arr 32 (Ty.int u8))) (Ty.pair (Ty.slice (Ty.arr 32 (Ty.int u8))) Ty.unit))) Ty.unit)))) Ty.unit)))) (((v_41 (y137.2.1)).1):Zt27_14)),Blk.mem (CV.pure (Ty.pair (Ty.pair (Ty.slice (Ty.int u32)) (Ty.pair (Ty.slice (Ty.int i64)) (Ty.pair (Ty.int i64) Ty.unit))) (Ty.pair (Ty.arr 32 (Ty.int u8)) Ty.unit)) (((v_41 (y137.2.1)).2.1):Zt27_13)),Blk.mem (CV.pure (Ty.pair (Ty.int i64) (Ty.pair (Ty.int u32) Ty.unit)) (((v_41 (y137.2.1)).2.2.1):Zt27_16))])
 | .e4 y97 y141 y156=>k Ex.ret (sx 145 [(8,CV.ptr 0 []),(9,CV.ptr 1 []),(10,CV.ptr 2 []),(11,CV.int i64 0)] [Blk.mem (CV.pure (Ty.pair (Ty.int i64) (Ty.pair (Ty.int i64) (Ty.pair (Ty.int i64) (Ty.pair (Ty.pair (Ty.int i64) (Ty.pair (Ty.int i64) (Ty.pair (Ty.arr 32 (Ty.int u8)) (Ty.pair (Ty.pair (Ty.int i64) (Ty.pair (Ty.slice (Ty.arr 32 (Ty.int u8))) (Ty.pair (Ty.slice (Ty.arr 32 (Ty.int u8))) Ty.unit))) Ty.unit)))) Ty.unit)))) ((1,y97,0,y141,PUnit.unit):(Zt27_10))),Blk.mem (CV.pure (Ty.pair (Ty.pair (Ty.slice (Ty.int u32)) (Ty.pair (Ty.slice (Ty.int i64)) (Ty.pair (Ty.int i64) Ty.unit))) (Ty.pair (Ty.arr 32 (Ty.int u8)) Ty.unit)) ((y156.1):Zt27_13)),Blk.mem (CV.pure (Ty.pair (Ty.int i64) (Ty.pair (Ty.int u32) Ty.unit)) ((y156.2.1):Zt27_16))])
 | .e5 y156=>k Ex.ret (sx 145 [(8,CV.ptr 0 []),(9,CV.ptr 3 []),(10,CV.ptr 4 []),(11,CV.int i64 18)] [Blk.mem (CV.pair (CV.int i64 0) (CV.pair (CV.int i64 0) (CV.pair (CV.int i64 0) (CV.pair (CV.pair (CV.int i64 0) (CV.pair (CV.int i64 0) (CV.pair (CV.pure (Ty.arr 32 (Ty.int u8)) ((replicate 32 (0:Int)):(List Int))) (CV.pair (CV.pair (CV.int i64 0) (CV.pair (CV.whole 1) (CV.pair (CV.whole 2) (CV.pure Ty.unit PUnit.unit)))) (CV.pure Ty.unit PUnit.unit))))) (CV.pure Ty.unit PUnit.unit))))),Blk.vec 23 (Ty.arr 32 (Ty.int u8)) [],Blk.vec 23 (Ty.arr 32 (Ty.int u8)) [],Blk.mem (CV.pure (Ty.pair (Ty.pair (Ty.slice (Ty.int u32)) (Ty.pair (Ty.slice (Ty.int i64)) (Ty.pair (Ty.int i64) Ty.unit))) (Ty.pair (Ty.arr 32 (Ty.int u8)) Ty.unit)) ((y156.1):Zt27_13)),Blk.mem (CV.pure (Ty.pair (Ty.int i64) (Ty.pair (Ty.int u32) Ty.unit)) ((y156.2.1):Zt27_16))])
 | .e6 y156=>k Ex.ret (sx 145 [(8,CV.ptr 0 []),(9,CV.ptr 1 []),(10,CV.ptr 2 []),(11,CV.int i64 ((v_41 (y156.2.2.1)).2.2.2.1))] [Blk.mem (CV.pure (Ty.pair (Ty.int i64) (Ty.pair (Ty.int i64) (Ty.pair (Ty.int i64) (Ty.pair (Ty.pair (Ty.int i64) (Ty.pair (Ty.int i64) (Ty.pair (Ty.arr 32 (Ty.int u8)) (Ty.pair (Ty.pair (Ty.int i64) (Ty.pair (Ty.slice (Ty.arr 32 (Ty.int u8))) (Ty.pair (Ty.slice (Ty.arr 32 (Ty.int u8))) Ty.unit))) Ty.unit)))) Ty.unit)))) (((v_41 (y156.2.2.1)).1):Zt27_14)),Blk.mem (CV.pure (Ty.pair (Ty.pair (Ty.slice (Ty.int u32)) (Ty.pair (Ty.slice (Ty.int i64)) (Ty.pair (Ty.int i64) Ty.unit))) (Ty.pair (Ty.arr 32 (Ty.int u8)) Ty.unit)) (((v_41 (y156.2.2.1)).2.1):Zt27_13)),Blk.mem (CV.pure (Ty.pair (Ty.int i64) (Ty.pair (Ty.int u32) Ty.unit)) (((v_41 (y156.2.2.1)).2.2.1):Zt27_16))])
noncomputable def Sp.S_27_0{R:Type}(k:E_27_0->Option R)(p0:Int)(p1:(List Int×List Int×Int×Unit)×List Int×Unit)(p2:Int×Int×List Int×(Int×List (List Int)×List (List Int)×Unit)×Unit)(p3:Int×Int×Unit)(p4 p5 p6 p7 p8:Int)(p9:List Int)(p10:Int)(p11 p12:List (List Int))(p13:Int×Unit)(p14:List Int×Unit)(p15 p16:List Int)(p17:Int×Int×Unit):Option R:=
 gd (sl3 (wrap i64 (p0*wrap i64 (Int.tdiv (↑(length (p1.1.2.1)):Int) 2))) (wrap i64 (wrap i64 (p0*wrap i64 (Int.tdiv (↑(length (p1.1.2.1)):Int) 2))+wrap i64 (Int.tdiv (↑(length (p1.1.2.1)):Int) 2))) (↑(length (p1.1.2.1)):Int)) (gd (p_63 (take (toNat (wrap i64 (wrap i64 (p0*wrap i64 (Int.tdiv (↑(length (p1.1.2.1)):Int) 2))+wrap i64 (Int.tdiv (↑(length (p1.1.2.1)):Int) 2)))-toNat (wrap i64 (p0*wrap i64 (Int.tdiv (↑(length (p1.1.2.1)):Int) 2)))) (drop (toNat (wrap i64 (p0*wrap i64 (Int.tdiv (↑(length (p1.1.2.1)):Int) 2)))) (p1.1.2.1))) (p1.1.2.2.1)) (bif(v_63 (take (toNat (wrap i64 (wrap i64 (p0*wrap i64 (Int.tdiv (↑(length (p1.1.2.1)):Int) 2))+wrap i64 (Int.tdiv (↑(length (p1.1.2.1)):Int) 2)))-toNat (wrap i64 (p0*wrap i64 (Int.tdiv (↑(length (p1.1.2.1)):Int) 2)))) (drop (toNat (wrap i64 (p0*wrap i64 (Int.tdiv (↑(length (p1.1.2.1)):Int) 2)))) (p1.1.2.1))) (p1.1.2.2.1)).1 then gd (p_41 19) (k (E_27_0.e0))else gd (room (length (p1.1.1)) 4) (gd (room (length (p1.1.2.1)) 8) (B_27_1 (L_27_1 4611686018427387904 p0 (wrap i64 (Int.tdiv (↑(length (p1.1.2.1)):Int) 2)) (wrap i64 (Int.tdiv (↑(length (p1.1.2.1)):Int) 2)) 0 p1 p2 p4 p5 p6 p7 p8 p9 p10 p11 p12 p13 p14 p15 p16 p17 (p1.1.2.2.1,PUnit.unit) (p1.2) (p3,0,PUnit.unit) (p1.1.1) (p1.1.2.1)) (fun y97 y98 y99 y100 y101 y102 y103 y104 y105 y106 y107 y108 y109 y110 y111 y112 y113 y114 y115 y116 y117 y118=>gd (p_44 y98) (gd (p_65 y99) (B_27_43_0_0 (L_27_43_0_0 4611686018427387904 (wrap i64 (wrap i64 (y97*(v_44 y98).1)+1)) ((v_65 y99).1) (↑(length ((v_65 y99).1)):Int) 0 y98 y99 y100 y101 y102 y103 y104 y105 y106 y107 y108 y109 y110 y111 y112 y113 y114 y115 y116 y117 y118) (fun y119 y120 y121 y122 y123 y124 y125 y126 y127 y128 y129 y130 y131 y132 y133 y134 y135 y136 y137 y138 y139=>bif y137.2.1==0 then k (E_27_0.e1 y97 y120 y135 y136 y137 y138 y139)else bif y137.2.1==18 then k (E_27_0.e2 y135 y136 y137 y138 y139)else gd (p_41 (y137.2.1)) (k (E_27_0.e3 y137))) fun y140 y141 y142 y143 y144 y145 y146 y147 y148 y149 y150 y151 y152 y153 y154 y155 y156 y157 y158=>bif y156.2.2.1==0 then k (E_27_0.e4 y97 y141 y156)else bif y156.2.2.1==18 then k (E_27_0.e5 y156)else gd (p_41 (y156.2.2.1)) (k (E_27_0.e6 y156))))) fun y159 y160 y161 y162 y163 y164 y165 y166 y167 y168 y169 y170 y171 y172 y173 y174 y175 y176=>gd (p_44 y160) (gd (p_65 y161) (B_27_43_0_2 (L_27_43_0_2 4611686018427387904 (wrap i64 (wrap i64 (y159*(v_44 y160).1)+1)) ((v_65 y161).1) (↑(length ((v_65 y161).1)):Int) 0 y160 y161 y162 y163 y164 y165 y166 y167 y168 y169 y170 y171 y172 y173 y174 y175 y176) fun y177 y178 y179 y180 y181 y182 y183 y184 y185 y186 y187 y188 y189 y190 y191 y192 y193=>bif y193.2.2.1==0 then k (E_27_0.e4 y159 y178 y193)else bif y193.2.2.1==18 then k (E_27_0.e5 y193)else gd (p_41 (y193.2.2.1)) (k (E_27_0.e6 y193))))))))
noncomputable def Sp.J_27_0(p0:Int)(p1:(List Int×List Int×Int×Unit)×List Int×Unit)(p2:Int×Int×List Int×(Int×List (List Int)×List (List Int)×Unit)×Unit)(p3:Int×Int×Unit)(p4 p5 p6 p7 p8:Int)(p9:List Int)(p10:Int)(p11 p12:List (List Int))(p13:Int×Unit)(p14:List Int×Unit)(p15 p16:List Int)(p17:Int×Int×Unit):Option E_27_0:=S_27_0 some p0 p1 p2 p3 p4 p5 p6 p7 p8 p9 p10 p11 p12 p13 p14 p15 p16 p17
noncomputable def O_27_0{R:Type}:Orc R:=orL T_27_0 (fun a=>J_27_0 a.1 a.2.1 a.2.2.1 a.2.2.2.1 a.2.2.2.2.1 a.2.2.2.2.2.1 a.2.2.2.2.2.2.1 a.2.2.2.2.2.2.2.1 a.2.2.2.2.2.2.2.2.1 a.2.2.2.2.2.2.2.2.2.1 a.2.2.2.2.2.2.2.2.2.2.1 a.2.2.2.2.2.2.2.2.2.2.2.1 a.2.2.2.2.2.2.2.2.2.2.2.2.1 a.2.2.2.2.2.2.2.2.2.2.2.2.2.1 a.2.2.2.2.2.2.2.2.2.2.2.2.2.2.1 a.2.2.2.2.2.2.2.2.2.2.2.2.2.2.2.1 a.2.2.2.2.2.2.2.2.2.2.2.2.2.2.2.2.1 a.2.2.2.2.2.2.2.2.2.2.2.2.2.2.2.2.2.1) Y_27_0
theorem OK_27_0{R:Type}:okF (R:=R) sm_27 1 (nf 27 0) O_27_0:=jp ov_27_27_ok (os:=[O_27_1]) ⟨OK_27_1,trivial⟩ T_27_0 (fun R k a=>S_27_0 k a.1 a.2.1 a.2.2.1 a.2.2.2.1 a.2.2.2.2.1 a.2.2.2.2.2.1 a.2.2.2.2.2.2.1 a.2.2.2.2.2.2.2.1 a.2.2.2.2.2.2.2.2.1 a.2.2.2.2.2.2.2.2.2.1 a.2.2.2.2.2.2.2.2.2.2.1 a.2.2.2.2.2.2.2.2.2.2.2.1 a.2.2.2.2.2.2.2.2.2.2.2.2.1 a.2.2.2.2.2.2.2.2.2.2.2.2.2.1 a.2.2.2.2.2.2.2.2.2.2.2.2.2.2.1 a.2.2.2.2.2.2.2.2.2.2.2.2.2.2.2.1 a.2.2.2.2.2.2.2.2.2.2.2.2.2.2.2.2.1 a.2.2.2.2.2.2.2.2.2.2.2.2.2.2.2.2.2.1) Y_27_0 (fun k a=>by kernel_rfl) (fun Y a=>by
 unfold S_27_0
 repeat' first|apply gdN|apply condN|(apply Bn_27_1<;>intros)|(apply Bn_27_43_0_0<;>intros)|(apply Bn_27_43_0_2<;>intros)|rfl) (ok0 _)
noncomputable def F_27(a0:(Int×(Int×(Int×((Int×(Int×((List Int)×((Int×((List (List Int))×((List (List Int))×Unit)))×Unit))))×Unit)))))(a1:(((List Int)×((List Int)×(Int×Unit)))×((List Int)×Unit)))(a2:(Int×(Int×((List Int)×((Int×((List (List Int))×((List (List Int))×Unit)))×Unit)))))(a3:(Int×(Int×Unit))):Option ((Int×(Int×(Int×((Int×(Int×((List Int)×((Int×((List (List Int))×((List (List Int))×Unit)))×Unit))))×Unit))))×(((List Int)×((List Int)×(Int×Unit)))×((List Int)×Unit))×(Int×(Int×Unit))×Int×Unit) :=
 gd (p_13 a0) (bif !(v_13 a0).1 then gd (p_41 1) (some ((v_41 1).1,(v_41 1).2.1,(v_41 1).2.2.1,(v_41 1).2.2.2.1,PUnit.unit))else gd (p_33 a1) (bif !(v_33 a1).1 then gd (p_41 1) (some ((v_41 1).1,(v_41 1).2.1,(v_41 1).2.2.1,(v_41 1).2.2.2.1,PUnit.unit))else gd (p_61 a3) (bif !(v_61 a3).1 then gd (p_41 1) (some ((v_41 1).1,(v_41 1).2.1,(v_41 1).2.2.1,(v_41 1).2.2.2.1,PUnit.unit))else gd (p_44 a1) (gd (p_38 a2 (wrap i64 ((v_44 a1).1-564))) (bif !(v_38 a2 (wrap i64 ((v_44 a1).1-564))).1 then gd (p_41 1) (some ((v_41 1).1,(v_41 1).2.1,(v_41 1).2.2.1,(v_41 1).2.2.2.1,PUnit.unit))else gd (p_37 a0) (bif !(v_37 a0).1 then gd (p_41 6) (some ((v_41 6).1,(v_41 6).2.1,(v_41 6).2.2.1,(v_41 6).2.2.2.1,PUnit.unit))else gd (p_34 a1) (bif decide (a2.1<=(v_34 a1).1)then gd (p_41 20) (some ((v_41 20).1,(v_41 20).2.1,(v_41 20).2.2.1,(v_41 20).2.2.2.1,PUnit.unit))else gd (p_62 (a1.2.1) (a2.2.2.1) (a2.2.2.2.1)) (bif !(v_62 (a1.2.1) (a2.2.2.1) (a2.2.2.2.1)).1 then gd (p_41 14) (some ((v_41 14).1,(v_41 14).2.1,(v_41 14).2.2.1,(v_41 14).2.2.2.1,PUnit.unit))else gd (p_54 a1) (bif(v_54 a1).2.1 then B_27_0 (J_27_0 (wrap i64 (1-(v_54 a1).1)) a1 a2 a3 0 0 0 0 0 (replicate 32 (0:Int)) 0 [] [] (0,PUnit.unit) (replicate 32 (0:Int),PUnit.unit) [] [] (0,0,PUnit.unit)) (some ((v_41 19).1,(v_41 19).2.1,(v_41 19).2.2.1,(v_41 19).2.2.2.1,PUnit.unit)) (fun y36 y37 y38 y39 y40 y41 y42=>some ((1,y36,0,y37,PUnit.unit),((y41,y42,y38),y39),y40.1,0,PUnit.unit)) (fun y43 y44 y45 y46 y47=>some ((0,0,0,(0,0,replicate 32 (0:Int),(0,[],[],PUnit.unit),PUnit.unit),PUnit.unit),((y46,y47,y43),y44),y45.1,18,PUnit.unit)) (fun y48=>some ((v_41 (y48.2.1)).1,(v_41 (y48.2.1)).2.1,(v_41 (y48.2.1)).2.2.1,(v_41 (y48.2.1)).2.2.2.1,PUnit.unit)) (fun y49 y50 y51=>some ((1,y49,0,y50,PUnit.unit),y51.1,y51.2.1,0,PUnit.unit)) (fun y52=>some ((0,0,0,(0,0,replicate 32 (0:Int),(0,[],[],PUnit.unit),PUnit.unit),PUnit.unit),y52.1,y52.2.1,18,PUnit.unit)) fun y53=>some ((v_41 (y53.2.2.1)).1,(v_41 (y53.2.2.1)).2.1,(v_41 (y53.2.2.1)).2.2.1,(v_41 (y53.2.2.1)).2.2.2.1,PUnit.unit)else B_27_0 (J_27_0 0 a1 a2 a3 0 0 0 0 0 (replicate 32 (0:Int)) 0 [] [] (0,PUnit.unit) (replicate 32 (0:Int),PUnit.unit) [] [] (0,0,PUnit.unit)) (some ((v_41 19).1,(v_41 19).2.1,(v_41 19).2.2.1,(v_41 19).2.2.2.1,PUnit.unit)) (fun y54 y55 y56 y57 y58 y59 y60=>some ((1,y54,0,y55,PUnit.unit),((y59,y60,y56),y57),y58.1,0,PUnit.unit)) (fun y61 y62 y63 y64 y65=>some ((0,0,0,(0,0,replicate 32 (0:Int),(0,[],[],PUnit.unit),PUnit.unit),PUnit.unit),((y64,y65,y61),y62),y63.1,18,PUnit.unit)) (fun y66=>some ((v_41 (y66.2.1)).1,(v_41 (y66.2.1)).2.1,(v_41 (y66.2.1)).2.2.1,(v_41 (y66.2.1)).2.2.2.1,PUnit.unit)) (fun y67 y68 y69=>some ((1,y67,0,y68,PUnit.unit),y69.1,y69.2.1,0,PUnit.unit)) (fun y70=>some ((0,0,0,(0,0,replicate 32 (0:Int),(0,[],[],PUnit.unit),PUnit.unit),PUnit.unit),y70.1,y70.2.1,18,PUnit.unit)) fun y71=>some ((v_41 (y71.2.2.1)).1,(v_41 (y71.2.2.1)).2.1,(v_41 (y71.2.2.1)).2.2.1,(v_41 (y71.2.2.1)).2.2.2.1,PUnit.unit))))))))))
noncomputable def Sp.p_27(a0:(Int×(Int×(Int×((Int×(Int×((List Int)×((Int×((List (List Int))×((List (List Int))×Unit)))×Unit))))×Unit)))))(a1:(((List Int)×((List Int)×(Int×Unit)))×((List Int)×Unit)))(a2:(Int×(Int×((List Int)×((Int×((List (List Int))×((List (List Int))×Unit)))×Unit)))))(a3:(Int×(Int×Unit))):Bool:=(F_27 a0 a1 a2 a3).isSome
noncomputable def Sp.v_27(a0:(Int×(Int×(Int×((Int×(Int×((List Int)×((Int×((List (List Int))×((List (List Int))×Unit)))×Unit))))×Unit)))))(a1:(((List Int)×((List Int)×(Int×Unit)))×((List Int)×Unit)))(a2:(Int×(Int×((List Int)×((Int×((List (List Int))×((List (List Int))×Unit)))×Unit)))))(a3:(Int×(Int×Unit))):(Int×(Int×(Int×((Int×(Int×((List Int)×((Int×((List (List Int))×((List (List Int))×Unit)))×Unit))))×Unit))))×(((List Int)×((List Int)×(Int×Unit)))×((List Int)×Unit))×(Int×(Int×Unit))×Int×Unit:=(F_27 a0 a1 a2 a3).getD (dfH R_27)
noncomputable def s_27:Summ:=shS A_27 R_27 (fun x=>p_27 x.1 x.2.1 x.2.2.1 x.2.2.2.1) (fun x=>v_27 x.1 x.2.1 x.2.2.1 x.2.2.2.1)
theorem pv_27(a0:(Int×(Int×(Int×((Int×(Int×((List Int)×((Int×((List (List Int))×((List (List Int))×Unit)))×Unit))))×Unit)))))(a1:(((List Int)×((List Int)×(Int×Unit)))×((List Int)×Unit)))(a2:(Int×(Int×((List Int)×((Int×((List (List Int))×((List (List Int))×Unit)))×Unit)))))(a3:(Int×(Int×Unit))){y:(Int×(Int×(Int×((Int×(Int×((List Int)×((Int×((List (List Int))×((List (List Int))×Unit)))×Unit))))×Unit))))×(((List Int)×((List Int)×(Int×Unit)))×((List Int)×Unit))×(Int×(Int×Unit))×Int×Unit}(h:F_27 a0 a1 a2 a3=some y):p_27 a0 a1 a2 a3=true/\v_27 a0 a1 a2 a3=y:=pvG h
theorem run_27(x:HDen A_27)(y:HDen R_27)(h:F_27 x.1 x.2.1 x.2.2.1 x.2.2.2.1=some y):rnF sm_27 2 27 A_27 R_27 x y:=runG ov_27_27_ok (os:=[O_27_0]) ⟨OK_27_0,trivial⟩ (Eq.trans (by kernel_rfl) h)
end
noncomputable section
abbrev A_28:List Ty:=[]
abbrev R_28:List Ty:=[(.pair (.int .i64) (.pair (.int .u32) .unit))]
noncomputable def sm_28:Nat->Option Summ:=smL []
noncomputable def F_28:Option ((Int×(Int×Unit))×Unit) :=
 some ((1099511627776,0,PUnit.unit),PUnit.unit)
noncomputable def Sp.p_28:Bool:=(F_28).isSome
noncomputable def Sp.v_28:(Int×(Int×Unit))×Unit:=(F_28).getD (dfH R_28)
noncomputable def s_28:Summ:=shN A_28 R_28 (fun x=>p_28) (fun x=>v_28)
theorem pv_28{y:(Int×(Int×Unit))×Unit}(h:F_28=some y):p_28=true/\v_28=y:=pvG h
theorem run_28(x:HDen A_28)(y:HDen R_28)(h:F_28=some y):rnF sm_28 1 28 A_28 R_28 x y:=runG noO_ok (os:=[]) trivial (Eq.trans (by kernel_rfl) h)
end
noncomputable section
abbrev A_68:List Ty:=[(.pair (.slice (.int .u32)) (.pair (.slice (.int .i64)) (.pair (.int .i64) .unit))),(.pair (.slice (.int .u32)) (.pair (.slice (.int .i64)) (.pair (.int .i64) .unit)))]
abbrev R_68:List Ty:=[.bool]
noncomputable def sm_68:Nat->Option Summ:=smL []
noncomputable def T_68_0:PS:=⟨66,[(2,.kc (.ptr 0 [])),(3,.kc (.ptr 1 [])),(5,.hv (.int .i64))],[.mem (.hv (.pair (.slice (.int .u32)) (.pair (.slice (.int .i64)) (.pair (.int .i64) .unit)))),.mem (.hv (.pair (.slice (.int .u32)) (.pair (.slice (.int .i64)) (.pair (.int .i64) .unit))))],0⟩
inductive Sp.E_68_0 where
 |e0
 |e1 (p1 p2:List Int×List Int×Int×Unit)
noncomputable def Sp.B_68_0{R:Type}(r:Option E_68_0)(k0:Option R)(k1:(List Int×List Int×Int×Unit)->(List Int×List Int×Int×Unit)->Option R):Option R:=match r with
 |none=>none
 |some (.e0)=>k0
 |some (.e1 p1 p2)=>k1 p1 p2
noncomputable def Y_68_0{R:Type}(k:Ex->St->Option R):E_68_0->Option R
 | .e0=>k Ex.ret (sx 66 [(4,CV.bool false)] [])
 | .e1 p1 p2=>k (Ex.exit 0) (sx 66 [(2,CV.ptr 0 []),(3,CV.ptr 1 [])] [Blk.mem (CV.pure (Ty.pair (Ty.slice (Ty.int u32)) (Ty.pair (Ty.slice (Ty.int i64)) (Ty.pair (Ty.int i64) Ty.unit))) p1),Blk.mem (CV.pure (Ty.pair (Ty.slice (Ty.int u32)) (Ty.pair (Ty.slice (Ty.int i64)) (Ty.pair (Ty.int i64) Ty.unit))) p2)])
noncomputable def Sp.S_68_0{R:Type}(K:Int->(List Int×List Int×Int×Unit)->(List Int×List Int×Int×Unit)->Option R)(k:E_68_0->Option R)(p0:Int)(p1 p2:List Int×List Int×Int×Unit):Option R:=
 bif decide (p0<(↑(length (p1.1)):Int))then gd (inB p0 (length (p1.1))) (gd (inB p0 (length (p2.1))) (bif getD (p1.1) (toNat p0) 0 !=getD (p2.1) (toNat p0) 0 then k (E_68_0.e0)else K (wrap i64 (p0+1)) p1 p2))else k (E_68_0.e1 p1 p2)
noncomputable def Sp.L_68_0:Nat->Int->(List Int×List Int×Int×Unit)->(List Int×List Int×Int×Unit)->Option E_68_0
 |0,_,_,_=>none
 |m+1,p0,p1,p2=>S_68_0 (L_68_0 m) some p0 p1 p2
noncomputable def l_68_0(m:Nat)(a:T_68_0.E):Option E_68_0:=L_68_0 m a.1 a.2.1 a.2.2.1
noncomputable def O_68_0{R:Type}:Orc R:=orL T_68_0 (l_68_0 FU) Y_68_0
theorem OK_68_0{R:Type}:okF (R:=R) sm_68 0 (nf 68 0) O_68_0:=lp0 T_68_0 l_68_0 (fun R K k a=>S_68_0 (fun p0 p1 p2=>K (p0,p1,p2,())) k a.1 a.2.1 a.2.2.1) Y_68_0 (fun _ _ _=>by kernel_rfl) (fun _ _ _=>by
 unfold S_68_0
 repeat' first|apply gdN|apply condN|rfl) (ok0 _)
noncomputable def T_68_1:PS:=⟨66,[(2,.kc (.ptr 0 [])),(3,.kc (.ptr 1 [])),(6,.hv (.int .i64))],[.mem (.hv (.pair (.slice (.int .u32)) (.pair (.slice (.int .i64)) (.pair (.int .i64) .unit)))),.mem (.hv (.pair (.slice (.int .u32)) (.pair (.slice (.int .i64)) (.pair (.int .i64) .unit))))],0⟩
inductive Sp.E_68_1 where
 |e0
 |e1
noncomputable def Sp.B_68_1{R:Type}(r:Option E_68_1)(k0 k1:Option R):Option R:=match r with
 |none=>none
 |some (.e0)=>k0
 |some (.e1)=>k1
noncomputable def Y_68_1{R:Type}(k:Ex->St->Option R):E_68_1->Option R
 | .e0=>k Ex.ret (sx 66 [(4,CV.bool false)] [])
 | .e1=>k (Ex.exit 2) (sx 66 [] [])
noncomputable def Sp.S_68_1{R:Type}(K:Int->(List Int×List Int×Int×Unit)->(List Int×List Int×Int×Unit)->Option R)(k:E_68_1->Option R)(p0:Int)(p1 p2:List Int×List Int×Int×Unit):Option R:=
 bif decide (p0<(↑(length (p1.2.1)):Int))then gd (inB p0 (length (p1.2.1))) (gd (inB p0 (length (p2.2.1))) (bif getD (p1.2.1) (toNat p0) 0 !=getD (p2.2.1) (toNat p0) 0 then k (E_68_1.e0)else K (wrap i64 (p0+1)) p1 p2))else k (E_68_1.e1)
noncomputable def Sp.L_68_1:Nat->Int->(List Int×List Int×Int×Unit)->(List Int×List Int×Int×Unit)->Option E_68_1
 |0,_,_,_=>none
 |m+1,p0,p1,p2=>S_68_1 (L_68_1 m) some p0 p1 p2
noncomputable def l_68_1(m:Nat)(a:T_68_1.E):Option E_68_1:=L_68_1 m a.1 a.2.1 a.2.2.1
noncomputable def O_68_1{R:Type}:Orc R:=orL T_68_1 (l_68_1 FU) Y_68_1
theorem OK_68_1{R:Type}:okF (R:=R) sm_68 0 (nf 68 1) O_68_1:=lp0 T_68_1 l_68_1 (fun R K k a=>S_68_1 (fun p0 p1 p2=>K (p0,p1,p2,())) k a.1 a.2.1 a.2.2.1) Y_68_1 (fun _ _ _=>by kernel_rfl) (fun _ _ _=>by
 unfold S_68_1
 repeat' first|apply gdN|apply condN|rfl) (ok0 _)
noncomputable def F_68(a0:((List Int)×((List Int)×(Int×Unit))))(a1:((List Int)×((List Int)×(Int×Unit)))):Option (Bool×Unit) :=
 bif a0.2.2.1 !=a1.2.2.1 then some (false,PUnit.unit)else bif(↑(length (a0.1)):Int)!=(↑(length (a1.1)):Int)then some (false,PUnit.unit)else bif(↑(length (a0.2.1)):Int)!=(↑(length (a1.2.1)):Int)then some (false,PUnit.unit)else B_68_0 (L_68_0 4611686018427387904 0 a0 a1) (some (false,PUnit.unit)) fun y2 y3=>B_68_1 (L_68_1 4611686018427387904 0 y2 y3) (some (false,PUnit.unit)) (some (true,PUnit.unit))
noncomputable def Sp.p_68(a0:((List Int)×((List Int)×(Int×Unit))))(a1:((List Int)×((List Int)×(Int×Unit)))):Bool:=(F_68 a0 a1).isSome
noncomputable def Sp.v_68(a0:((List Int)×((List Int)×(Int×Unit))))(a1:((List Int)×((List Int)×(Int×Unit)))):Bool×Unit:=(F_68 a0 a1).getD (dfH R_68)
noncomputable def s_68:Summ:=shN A_68 R_68 (fun x=>p_68 x.1 x.2.1) (fun x=>v_68 x.1 x.2.1)
theorem pv_68(a0:((List Int)×((List Int)×(Int×Unit))))(a1:((List Int)×((List Int)×(Int×Unit)))){y:Bool×Unit}(h:F_68 a0 a1=some y):p_68 a0 a1=true/\v_68 a0 a1=y:=pvG h
theorem run_68(x:HDen A_68)(y:HDen R_68)(h:F_68 x.1 x.2.1=some y):rnF sm_68 1 68 A_68 R_68 x y:=runG noO_ok (os:=[O_68_0,O_68_1]) ⟨OK_68_0,OK_68_1,trivial⟩ (Eq.trans (by kernel_rfl) h)
end
noncomputable section
abbrev A_32:List Ty:=[(.pair (.pair (.slice (.int .u32)) (.pair (.slice (.int .i64)) (.pair (.int .i64) .unit))) (.pair (.arr 32 (.int .u8)) .unit)),(.pair (.pair (.slice (.int .u32)) (.pair (.slice (.int .i64)) (.pair (.int .i64) .unit))) (.pair (.arr 32 (.int .u8)) .unit))]
abbrev R_32:List Ty:=[.bool]
noncomputable def sm_32:Nat->Option Summ:=smL [(68,s_68)]
noncomputable def F_32(a0:(((List Int)×((List Int)×(Int×Unit)))×((List Int)×Unit)))(a1:(((List Int)×((List Int)×(Int×Unit)))×((List Int)×Unit))):Option (Bool×Unit) :=
 bif Ty.beq (Ty.arr 32 (Ty.int u8)) (a0.2.1) (a1.2.1)then gd (p_68 (a0.1) (a1.1)) (some ((v_68 (a0.1) (a1.1)).1,PUnit.unit))else some (false,PUnit.unit)
noncomputable def Sp.p_32(a0:(((List Int)×((List Int)×(Int×Unit)))×((List Int)×Unit)))(a1:(((List Int)×((List Int)×(Int×Unit)))×((List Int)×Unit))):Bool:=(F_32 a0 a1).isSome
noncomputable def Sp.v_32(a0:(((List Int)×((List Int)×(Int×Unit)))×((List Int)×Unit)))(a1:(((List Int)×((List Int)×(Int×Unit)))×((List Int)×Unit))):Bool×Unit:=(F_32 a0 a1).getD (dfH R_32)
noncomputable def s_32:Summ:=shN A_32 R_32 (fun x=>p_32 x.1 x.2.1) (fun x=>v_32 x.1 x.2.1)
theorem pv_32(a0:(((List Int)×((List Int)×(Int×Unit)))×((List Int)×Unit)))(a1:(((List Int)×((List Int)×(Int×Unit)))×((List Int)×Unit))){y:Bool×Unit}(h:F_32 a0 a1=some y):p_32 a0 a1=true/\v_32 a0 a1=y:=pvG h
theorem run_32(x:HDen A_32)(y:HDen R_32)(h:F_32 x.1 x.2.1=some y):rnF sm_32 1 32 A_32 R_32 x y:=runG noO_ok (os:=[]) trivial (Eq.trans (by kernel_rfl) h)
end
noncomputable section
abbrev A_124:List Ty:=[(.int .u32),(.int .u32)]
abbrev R_124:List Ty:=[(.int .u32),(.int .u32)]
noncomputable def sm_124:Nat->Option Summ:=smL []
noncomputable def F_124(a0 a1:Int):Option (Int×Int×Unit) :=
 some (wrap u32 (Int.fdiv (wrap u64 (wrap u64 a0*wrap u64 a1)) 4294967296),wrap u32 (wrap u64 (wrap u64 a0*wrap u64 a1)),PUnit.unit)
noncomputable def Sp.p_124(a0 a1:Int):Bool:=(F_124 a0 a1).isSome
noncomputable def Sp.v_124(a0 a1:Int):Int×Int×Unit:=(F_124 a0 a1).getD (dfH R_124)
noncomputable def s_124:Summ:=shN A_124 R_124 (fun x=>p_124 x.1 x.2.1) (fun x=>v_124 x.1 x.2.1)
theorem run_124(x:HDen A_124)(y:HDen R_124)(h:F_124 x.1 x.2.1=some y):rnF sm_124 1 124 A_124 R_124 x y:=runG noO_ok (os:=[]) trivial (Eq.trans (by kernel_rfl) h)
end
noncomputable section
abbrev A_125:List Ty:=[(.int .u64),(.int .u64)]
abbrev R_125:List Ty:=[(.int .u64),(.int .u64)]
noncomputable def sm_125:Nat->Option Summ:=smL []
noncomputable def F_125(a0 a1:Int):Option (Int×Int×Unit) :=
 some (wrap u64 (wrap u64 (wrap u64 (Int.fdiv a0 4294967296*Int.fdiv a1 4294967296)+Int.fdiv (wrap u64 (wrap u64 (Int.fdiv a0 4294967296*Sp.andI u64 a1 4294967295)+Int.fdiv (wrap u64 (Sp.andI u64 a0 4294967295*Sp.andI u64 a1 4294967295)) 4294967296)) 4294967296)+Int.fdiv (wrap u64 (Sp.andI u64 (wrap u64 (wrap u64 (Int.fdiv a0 4294967296*Sp.andI u64 a1 4294967295)+Int.fdiv (wrap u64 (Sp.andI u64 a0 4294967295*Sp.andI u64 a1 4294967295)) 4294967296)) 4294967295+wrap u64 (Sp.andI u64 a0 4294967295*Int.fdiv a1 4294967296))) 4294967296),wrap u64 (a0*a1),PUnit.unit)
noncomputable def Sp.p_125(a0 a1:Int):Bool:=(F_125 a0 a1).isSome
noncomputable def Sp.v_125(a0 a1:Int):Int×Int×Unit:=(F_125 a0 a1).getD (dfH R_125)
noncomputable def s_125:Summ:=shN A_125 R_125 (fun x=>p_125 x.1 x.2.1) (fun x=>v_125 x.1 x.2.1)
theorem run_125(x:HDen A_125)(y:HDen R_125)(h:F_125 x.1 x.2.1=some y):rnF sm_125 1 125 A_125 R_125 x y:=runG noO_ok (os:=[]) trivial (Eq.trans (by kernel_rfl) h)
end
noncomputable section
abbrev A_118:List Ty:=[(.int .u64),(.int .u64)]
abbrev R_118:List Ty:=[(.int .u64),(.int .u64)]
noncomputable def sm_118:Nat->Option Summ:=smL [(124,s_124),(125,s_125)]
noncomputable def F_118(a0 a1:Int):Option (Int×Int×Unit) :=
 gd (p_125 a0 a1) (some ((v_125 a0 a1).1,(v_125 a0 a1).2.1,PUnit.unit))
noncomputable def Sp.p_118(a0 a1:Int):Bool:=(F_118 a0 a1).isSome
noncomputable def Sp.v_118(a0 a1:Int):Int×Int×Unit:=(F_118 a0 a1).getD (dfH R_118)
noncomputable def s_118:Summ:=shN A_118 R_118 (fun x=>p_118 x.1 x.2.1) (fun x=>v_118 x.1 x.2.1)
theorem run_118(x:HDen A_118)(y:HDen R_118)(h:F_118 x.1 x.2.1=some y):rnF sm_118 1 118 A_118 R_118 x y:=runG noO_ok (os:=[]) trivial (Eq.trans (by kernel_rfl) h)
end
noncomputable section
abbrev A_99:List Ty:=[(.slice (.int .u32)),(.int .i64)]
abbrev R_99:List Ty:=[(.slice (.int .u32))]
noncomputable def sm_99:Nat->Option Summ:=smL [(118,s_118)]
noncomputable def T_99_2:PS:=⟨48,[(7,.kc (.whole 0)),(8,.hv (.int .i64))],[.vec 42 (.int .u32)],0⟩
inductive Sp.E_99_2 where
 |e0 (p1:List Int)
noncomputable def Sp.B_99_2{R:Type}(r:Option E_99_2)(k0:List Int->Option R):Option R:=match r with
 |none=>none
 |some (.e0 p1)=>k0 p1
theorem Bn_99_2{A R:Type}{r:Option E_99_2}{f:A->Option R}{k0:List Int->Option A}{l0:List Int->Option R}(h0:∀p1,(k0 p1).bind f=l0 p1):(B_99_2 r k0).bind f=B_99_2 r l0:=by
 cases r with
 |none=>rfl
 |some e=>cases e<;>first|apply h0
noncomputable def Y_99_2{R:Type}(k:Ex->St->Option R):E_99_2->Option R
 | .e0 p1=>k (Ex.exit 0) (sx 48 [(7,CV.whole 0)] [Blk.vec 42 (Ty.int u32) p1])
noncomputable def Sp.S_99_2{R:Type}(K:Int->List Int->Option R)(k:E_99_2->Option R)(p0:Int)(p1:List Int):Option R:=
 bif decide (p0<(↑(length p1):Int))then gd (sl3 p0 (↑(length p1):Int) (↑(length p1):Int)) (gd (sl3 0 p0 (↑(length p1):Int)) (gd (decide (0+(toNat p0-0)<=length p1)&&(decide (toNat p0+(toNat (↑(length p1):Int)-toNat p0)<=length p1)&&decide (0<length p1))) (K (wrap i64 (p0+(↑(Nat.min (length (take (toNat p0-0) (drop 0 p1))) (toNat (↑(length p1):Int)-toNat p0)):Int))) (over p1 (toNat p0) (take (toNat (↑(length p1):Int)-toNat p0) (take (toNat p0-0) (drop 0 p1)))))))else k (E_99_2.e0 p1)
noncomputable def Sp.L_99_2:Nat->Int->List Int->Option E_99_2
 |0,_,_=>none
 |m+1,p0,p1=>S_99_2 (L_99_2 m) some p0 p1
noncomputable def l_99_2(m:Nat)(a:T_99_2.E):Option E_99_2:=L_99_2 m a.1 a.2.1
noncomputable def O_99_2{R:Type}:Orc R:=orL T_99_2 (l_99_2 FU) Y_99_2
theorem OK_99_2{R:Type}:okF (R:=R) sm_99 0 (ni (ni (nf 99 0) 0) 0) O_99_2:=lp0 T_99_2 l_99_2 (fun R K k a=>S_99_2 (fun p0 p1=>K (p0,p1,())) k a.1 a.2.1) Y_99_2 (fun _ _ _=>by kernel_rfl) (fun _ _ _=>by
 unfold S_99_2
 repeat' first|apply gdN|apply condN|rfl) (ok0 _)
noncomputable def T_99_1:PS:=⟨48,[(0,.hv (.slice (.int .u32))),(6,.hv (.int .u64))],[],0⟩
inductive Sp.E_99_1 where
 |e0 (y5:List Int)
noncomputable def Sp.B_99_1{R:Type}(r:Option E_99_1)(k0:List Int->Option R):Option R:=match r with
 |none=>none
 |some (.e0 y5)=>k0 y5
theorem Bn_99_1{A R:Type}{r:Option E_99_1}{f:A->Option R}{k0:List Int->Option A}{l0:List Int->Option R}(h0:∀y5,(k0 y5).bind f=l0 y5):(B_99_1 r k0).bind f=B_99_1 r l0:=by
 cases r with
 |none=>rfl
 |some e=>cases e<;>first|apply h0
noncomputable def Y_99_1{R:Type}(k:Ex->St->Option R):E_99_1->Option R
 | .e0 y5=>k Ex.ret (sx 48 [(4,CV.whole 0)] [Blk.vec 42 (Ty.int u32) y5])
noncomputable def Sp.S_99_1{R:Type}(k:E_99_1->Option R)(p0:List Int)(p1:Int):Option R:=
 gd (decide (0<=wrap i64 p1)&&(wrap i64 p1==wrap i64 p1&&room (toNat (wrap i64 p1)) 4)) (gd (decide (0+length (replicate (toNat (wrap i64 p1)) (0:Int))<=length (replicate (toNat (wrap i64 p1)) (0:Int)))&&decide (0<length (replicate (toNat (wrap i64 p1)) (0:Int)))) (B_99_2 (L_99_2 4611686018427387904 (↑(Nat.min (length p0) (length (replicate (toNat (wrap i64 p1)) (0:Int)))):Int) (over (replicate (toNat (wrap i64 p1)) (0:Int)) 0 (take (length (replicate (toNat (wrap i64 p1)) (0:Int))) p0))) fun y5=>k (E_99_1.e0 y5)))
noncomputable def Sp.J_99_1(p0:List Int)(p1:Int):Option E_99_1:=S_99_1 some p0 p1
noncomputable def O_99_1{R:Type}:Orc R:=orL T_99_1 (fun a=>J_99_1 a.1 a.2.1) Y_99_1
theorem OK_99_1{R:Type}:okF (R:=R) sm_99 0 (ni (nf 99 0) 0) O_99_1:=jp noO_ok (os:=[O_99_2]) ⟨OK_99_2,trivial⟩ T_99_1 (fun R k a=>S_99_1 k a.1 a.2.1) Y_99_1 (fun k a=>by kernel_rfl) (fun Y a=>by
 unfold S_99_1
 repeat' first|apply gdN|apply condN|(apply Bn_99_2<;>intros)|rfl) (ok0 _)
noncomputable def T_99_0:PS:=⟨48,[(0,.hv (.slice (.int .u32))),(1,.hv (.int .i64))],[],0⟩
inductive Sp.E_99_0 where
 |e0 (y1:List Int)
noncomputable def Sp.B_99_0{R:Type}(r:Option E_99_0)(k0:List Int->Option R):Option R:=match r with
 |none=>none
 |some (.e0 y1)=>k0 y1
noncomputable def Y_99_0{R:Type}(k:Ex->St->Option R):E_99_0->Option R
 | .e0 y1=>k Ex.ret (sx 48 [(4,CV.whole 0)] [Blk.vec 42 (Ty.int u32) y1])
noncomputable def Sp.S_99_0{R:Type}(k:E_99_0->Option R)(p0:List Int)(p1:Int):Option R:=
 gd (p_118 (wrap u64 (↑(length p0):Int)) (wrap u64 p1)) (bif decide ((v_118 (wrap u64 (↑(length p0):Int)) (wrap u64 p1)).1>0)then none else bif decide ((v_118 (wrap u64 (↑(length p0):Int)) (wrap u64 p1)).2.1>9223372036854775807)then none else B_99_1 (J_99_1 p0 ((v_118 (wrap u64 (↑(length p0):Int)) (wrap u64 p1)).2.1)) fun y1=>k (E_99_0.e0 y1))
noncomputable def Sp.J_99_0(p0:List Int)(p1:Int):Option E_99_0:=S_99_0 some p0 p1
noncomputable def O_99_0{R:Type}:Orc R:=orL T_99_0 (fun a=>J_99_0 a.1 a.2.1) Y_99_0
theorem OK_99_0{R:Type}:okF (R:=R) sm_99 0 (nf 99 0) O_99_0:=jp noO_ok (os:=[O_99_1]) ⟨OK_99_1,trivial⟩ T_99_0 (fun R k a=>S_99_0 k a.1 a.2.1) Y_99_0 (fun k a=>by kernel_rfl) (fun Y a=>by
 unfold S_99_0
 repeat' first|apply gdN|apply condN|(apply Bn_99_1<;>intros)|rfl) (ok0 _)
noncomputable def F_99(a0:(List Int))(a1:Int):Option ((List Int)×Unit) :=
 bif decide (a1<0)then none else B_99_0 (J_99_0 a0 a1) fun y1=>some (y1,PUnit.unit)
noncomputable def Sp.p_99(a0:(List Int))(a1:Int):Bool:=(F_99 a0 a1).isSome
noncomputable def Sp.v_99(a0:(List Int))(a1:Int):(List Int)×Unit:=(F_99 a0 a1).getD (dfH R_99)
noncomputable def s_99:Summ:=shS A_99 R_99 (fun x=>p_99 x.1 x.2.1) (fun x=>v_99 x.1 x.2.1)
theorem run_99(x:HDen A_99)(y:HDen R_99)(h:F_99 x.1 x.2.1=some y):rnF sm_99 1 99 A_99 R_99 x y:=runG noO_ok (os:=[O_99_0]) ⟨OK_99_0,trivial⟩ (Eq.trans (by kernel_rfl) h)
end
noncomputable section
abbrev A_72:List Ty:=[(.int .i64),(.int .i64)]
abbrev R_72:List Ty:=[(.pair (.slice (.int .u32)) (.pair (.slice (.int .i64)) (.pair (.int .i64) .unit))),(.int .i64)]
noncomputable def sm_72:Nat->Option Summ:=smL [(99,s_99)]
noncomputable def F_72(a0 a1:Int):Option (((List Int)×((List Int)×(Int×Unit)))×Int×Unit) :=
 bif decide (a0<1)then some (([],[],0,PUnit.unit),2,PUnit.unit)else bif decide (a0>64)then some (([],[],0,PUnit.unit),2,PUnit.unit)else bif decide (a1<1)then some (([],[],0,PUnit.unit),2,PUnit.unit)else bif decide (a1>1000000)then some (([],[],0,PUnit.unit),2,PUnit.unit)else gd (p_99 [4294967295] (wrap i64 (a0*64))) (gd (decide (0<=a0)&&(a0==a0&&room (toNat a0) 8)) (some (((v_99 [4294967295] (wrap i64 (a0*64))).1,replicate (toNat a0) (0:Int),a1,PUnit.unit),0,PUnit.unit)))
noncomputable def Sp.p_72(a0 a1:Int):Bool:=(F_72 a0 a1).isSome
noncomputable def Sp.v_72(a0 a1:Int):((List Int)×((List Int)×(Int×Unit)))×Int×Unit:=(F_72 a0 a1).getD (dfH R_72)
noncomputable def s_72:Summ:=shS A_72 R_72 (fun x=>p_72 x.1 x.2.1) (fun x=>v_72 x.1 x.2.1)
theorem run_72(x:HDen A_72)(y:HDen R_72)(h:F_72 x.1 x.2.1=some y):rnF sm_72 1 72 A_72 R_72 x y:=runG noO_ok (os:=[]) trivial (Eq.trans (by kernel_rfl) h)
end
noncomputable section
abbrev A_35:List Ty:=[(.int .i64),(.int .i64),(.arr 32 (.int .u8))]
abbrev R_35:List Ty:=[(.pair (.pair (.slice (.int .u32)) (.pair (.slice (.int .i64)) (.pair (.int .i64) .unit))) (.pair (.arr 32 (.int .u8)) .unit)),(.int .i64)]
noncomputable def sm_35:Nat->Option Summ:=smL [(70,s_70),(72,s_72)]
noncomputable def F_35(a0 a1:Int)(a2:(List Int)):Option ((((List Int)×((List Int)×(Int×Unit)))×((List Int)×Unit))×Int×Unit) :=
 gd (p_70 a0) (bif !(v_70 a0).1 then some ((([],[],0,PUnit.unit),replicate 32 (0:Int),PUnit.unit),2,PUnit.unit)else gd (p_72 a0 a1) (bif(v_72 a0 a1).2.1 !=0 then some ((([],[],0,PUnit.unit),replicate 32 (0:Int),PUnit.unit),2,PUnit.unit)else some (((v_72 a0 a1).1,a2,PUnit.unit),0,PUnit.unit)))
noncomputable def Sp.p_35(a0 a1:Int)(a2:(List Int)):Bool:=(F_35 a0 a1 a2).isSome
noncomputable def Sp.v_35(a0 a1:Int)(a2:(List Int)):(((List Int)×((List Int)×(Int×Unit)))×((List Int)×Unit))×Int×Unit:=(F_35 a0 a1 a2).getD (dfH R_35)
noncomputable def s_35:Summ:=shS A_35 R_35 (fun x=>p_35 x.1 x.2.1 x.2.2.1) (fun x=>v_35 x.1 x.2.1 x.2.2.1)
theorem run_35(x:HDen A_35)(y:HDen R_35)(h:F_35 x.1 x.2.1 x.2.2.1=some y):rnF sm_35 1 35 A_35 R_35 x y:=runG noO_ok (os:=[]) trivial (Eq.trans (by kernel_rfl) h)
end
noncomputable section
abbrev A_8:List Ty:=[]
abbrev R_8:List Ty:=[.bool]
noncomputable def sm_8:Nat->Option Summ:=smL [(10,s_10),(11,s_11),(13,s_13),(27,s_27),(28,s_28),(32,s_32),(35,s_35)]
noncomputable def F_8:Option (Bool×Unit) :=
 gd (p_35 18 10 (replicate 32 (0:Int))) (gd p_11 (gd p_28 (gd (p_27 (v_11.1) ((v_35 18 10 (replicate 32 (0:Int))).1) (1,1,replicate 32 (0:Int),(0,[],[],PUnit.unit),PUnit.unit) (v_28.1)) (bif(v_35 18 10 (replicate 32 (0:Int))).2.1==0 then gd p_11 (gd (p_13 (v_11.1)) (bif(v_13 (v_11.1)).1 then bif(v_27 (v_11.1) ((v_35 18 10 (replicate 32 (0:Int))).1) (1,1,replicate 32 (0:Int),(0,[],[],PUnit.unit),PUnit.unit) (v_28.1)).2.2.2.1==1 then gd (p_10 ((v_27 (v_11.1) ((v_35 18 10 (replicate 32 (0:Int))).1) (1,1,replicate 32 (0:Int),(0,[],[],PUnit.unit),PUnit.unit) (v_28.1)).1)) (bif(v_10 ((v_27 (v_11.1) ((v_35 18 10 (replicate 32 (0:Int))).1) (1,1,replicate 32 (0:Int),(0,[],[],PUnit.unit),PUnit.unit) (v_28.1)).1)).1 then gd (p_32 ((v_27 (v_11.1) ((v_35 18 10 (replicate 32 (0:Int))).1) (1,1,replicate 32 (0:Int),(0,[],[],PUnit.unit),PUnit.unit) (v_28.1)).2.1) (([],[],0,PUnit.unit),replicate 32 (0:Int),PUnit.unit)) (bif(v_32 ((v_27 (v_11.1) ((v_35 18 10 (replicate 32 (0:Int))).1) (1,1,replicate 32 (0:Int),(0,[],[],PUnit.unit),PUnit.unit) (v_28.1)).2.1) (([],[],0,PUnit.unit),replicate 32 (0:Int),PUnit.unit)).1 then some (Ty.beq (Ty.pair (Ty.int i64) (Ty.pair (Ty.int u32) Ty.unit)) ((v_27 (v_11.1) ((v_35 18 10 (replicate 32 (0:Int))).1) (1,1,replicate 32 (0:Int),(0,[],[],PUnit.unit),PUnit.unit) (v_28.1)).2.2.1) (0,0,PUnit.unit),PUnit.unit)else some (false,PUnit.unit))else some (false,PUnit.unit))else some (false,PUnit.unit)else some (false,PUnit.unit)))else some (false,PUnit.unit)))))
noncomputable def Sp.p_8:Bool:=(F_8).isSome
noncomputable def Sp.v_8:Bool×Unit:=(F_8).getD (dfH R_8)
noncomputable def s_8:Summ:=shN A_8 R_8 (fun x=>p_8) (fun x=>v_8)
theorem pv_8{y:Bool×Unit}(h:F_8=some y):p_8=true/\v_8=y:=pvG h
theorem run_8(x:HDen A_8)(y:HDen R_8)(h:F_8=some y):rnF sm_8 1 8 A_8 R_8 x y:=runG noO_ok (os:=[]) trivial (Eq.trans (by kernel_rfl) h)
end
noncomputable section
abbrev A_9:List Ty:=[(.pair (.int .i64) (.pair (.int .i64) (.pair (.arr 32 (.int .u8)) (.pair (.pair (.int .i64) (.pair (.slice (.arr 32 (.int .u8))) (.pair (.slice (.arr 32 (.int .u8))) .unit))) .unit))))]
abbrev R_9:List Ty:=[.bool]
noncomputable def sm_9:Nat->Option Summ:=smL []
noncomputable def F_9(a0:(Int×(Int×((List Int)×((Int×((List (List Int))×((List (List Int))×Unit)))×Unit))))):Option (Bool×Unit) :=
 bif decide ((↑(length (a0.2.2.2.1.2.1)):Int)>100)then some (true,PUnit.unit)else some (decide ((↑(length (a0.2.2.2.1.2.2.1)):Int)>100),PUnit.unit)
noncomputable def Sp.p_9(a0:(Int×(Int×((List Int)×((Int×((List (List Int))×((List (List Int))×Unit)))×Unit))))):Bool:=(F_9 a0).isSome
noncomputable def Sp.v_9(a0:(Int×(Int×((List Int)×((Int×((List (List Int))×((List (List Int))×Unit)))×Unit))))):Bool×Unit:=(F_9 a0).getD (dfH R_9)
noncomputable def s_9:Summ:=shN A_9 R_9 (fun x=>p_9 x.1) (fun x=>v_9 x.1)
theorem pv_9(a0:(Int×(Int×((List Int)×((Int×((List (List Int))×((List (List Int))×Unit)))×Unit))))){y:Bool×Unit}(h:F_9 a0=some y):p_9 a0=true/\v_9 a0=y:=pvG h
theorem run_9(x:HDen A_9)(y:HDen R_9)(h:F_9 x.1=some y):rnF sm_9 1 9 A_9 R_9 x y:=runG noO_ok (os:=[]) trivial (Eq.trans (by kernel_rfl) h)
end
noncomputable section
abbrev A_15:List Ty:=[(.pair (.pair (.slice (.int .u32)) (.pair (.slice (.int .i64)) (.pair (.int .i64) .unit))) (.pair (.arr 32 (.int .u8)) .unit))]
abbrev R_15:List Ty:=[.bool]
noncomputable def sm_15:Nat->Option Summ:=smL []
noncomputable def F_15(a0:(((List Int)×((List Int)×(Int×Unit)))×((List Int)×Unit))):Option (Bool×Unit) :=
 bif decide ((↑(length (a0.1.2.1)):Int)>20)then some (decide ((↑(length (a0.1.2.1)):Int)<=64),PUnit.unit)else some (false,PUnit.unit)
noncomputable def Sp.p_15(a0:(((List Int)×((List Int)×(Int×Unit)))×((List Int)×Unit))):Bool:=(F_15 a0).isSome
noncomputable def Sp.v_15(a0:(((List Int)×((List Int)×(Int×Unit)))×((List Int)×Unit))):Bool×Unit:=(F_15 a0).getD (dfH R_15)
noncomputable def s_15:Summ:=shN A_15 R_15 (fun x=>p_15 x.1) (fun x=>v_15 x.1)
theorem pv_15(a0:(((List Int)×((List Int)×(Int×Unit)))×((List Int)×Unit))){y:Bool×Unit}(h:F_15 a0=some y):p_15 a0=true/\v_15 a0=y:=pvG h
theorem run_15(x:HDen A_15)(y:HDen R_15)(h:F_15 x.1=some y):rnF sm_15 1 15 A_15 R_15 x y:=runG noO_ok (os:=[]) trivial (Eq.trans (by kernel_rfl) h)
end
noncomputable section
abbrev A_40:List Ty:=[(.pair (.int .i64) (.pair (.int .i64) (.pair (.int .i64) (.pair (.pair (.int .i64) (.pair (.int .i64) (.pair (.arr 32 (.int .u8)) (.pair (.pair (.int .i64) (.pair (.slice (.arr 32 (.int .u8))) (.pair (.slice (.arr 32 (.int .u8))) .unit))) .unit)))) .unit)))),(.pair (.pair (.slice (.int .u32)) (.pair (.slice (.int .i64)) (.pair (.int .i64) .unit))) (.pair (.arr 32 (.int .u8)) .unit)),(.pair (.int .i64) (.pair (.int .u32) .unit))]
abbrev R_40:List Ty:=[(.int .i64)]
noncomputable def sm_40:Nat->Option Summ:=smL [(13,s_13),(33,s_33),(37,s_37),(38,s_38),(44,s_44),(61,s_61)]
noncomputable def F_40(a0:(Int×(Int×(Int×((Int×(Int×((List Int)×((Int×((List (List Int))×((List (List Int))×Unit)))×Unit))))×Unit)))))(a1:(((List Int)×((List Int)×(Int×Unit)))×((List Int)×Unit)))(a2:(Int×(Int×Unit))):Option (Int×Unit) :=
 gd (p_13 a0) (bif !(v_13 a0).1 then some (1,PUnit.unit)else gd (p_33 a1) (bif !(v_33 a1).1 then some (1,PUnit.unit)else gd (p_61 a2) (bif !(v_61 a2).1 then some (1,PUnit.unit)else gd (p_37 a0) (bif !(v_37 a0).1 then gd (p_44 a1) (gd (p_38 (a0.2.2.2.1) (wrap i64 ((v_44 a1).1-564))) (bif !(v_38 (a0.2.2.2.1) (wrap i64 ((v_44 a1).1-564))).1 then some (1,PUnit.unit)else some (0,PUnit.unit)))else some (0,PUnit.unit)))))
noncomputable def Sp.p_40(a0:(Int×(Int×(Int×((Int×(Int×((List Int)×((Int×((List (List Int))×((List (List Int))×Unit)))×Unit))))×Unit)))))(a1:(((List Int)×((List Int)×(Int×Unit)))×((List Int)×Unit)))(a2:(Int×(Int×Unit))):Bool:=(F_40 a0 a1 a2).isSome
noncomputable def Sp.v_40(a0:(Int×(Int×(Int×((Int×(Int×((List Int)×((Int×((List (List Int))×((List (List Int))×Unit)))×Unit))))×Unit)))))(a1:(((List Int)×((List Int)×(Int×Unit)))×((List Int)×Unit)))(a2:(Int×(Int×Unit))):Int×Unit:=(F_40 a0 a1 a2).getD (dfH R_40)
noncomputable def s_40:Summ:=shN A_40 R_40 (fun x=>p_40 x.1 x.2.1 x.2.2.1) (fun x=>v_40 x.1 x.2.1 x.2.2.1)
theorem pv_40(a0:(Int×(Int×(Int×((Int×(Int×((List Int)×((Int×((List (List Int))×((List (List Int))×Unit)))×Unit))))×Unit)))))(a1:(((List Int)×((List Int)×(Int×Unit)))×((List Int)×Unit)))(a2:(Int×(Int×Unit))){y:Int×Unit}(h:F_40 a0 a1 a2=some y):p_40 a0 a1 a2=true/\v_40 a0 a1 a2=y:=pvG h
theorem run_40(x:HDen A_40)(y:HDen R_40)(h:F_40 x.1 x.2.1 x.2.2.1=some y):rnF sm_40 1 40 A_40 R_40 x y:=runG noO_ok (os:=[]) trivial (Eq.trans (by kernel_rfl) h)
end
noncomputable section
abbrev Zt16_0:Type:=Int×Int×Int×(Int×Int×List Int×(Int×List (List Int)×List (List Int)×Unit)×Unit)×Unit
abbrev Zt16_1:Type:=((List Int×List Int×Int×Unit)×List Int×Unit)×(Int×Int×Unit)×Int×Unit
abbrev Zy16_2:Ty:=(.pair (.int .i64) (.pair (.int .i64) (.pair (.int .i64) (.pair (.pair (.int .i64) (.pair (.int .i64) (.pair (.arr 32 (.int .u8)) (.pair (.pair (.int .i64) (.pair (.slice (.arr 32 (.int .u8))) (.pair (.slice (.arr 32 (.int .u8))) .unit))) .unit)))) .unit))))
abbrev Zt16_3:Type:=(List Int×List Int×Int×Unit)×List Int×Unit
abbrev Zt16_4:Type:=(Int×Int×Unit)×Int×Unit
abbrev Zy16_5:Ty:=(.pair (.pair (.pair (.slice (.int .u32)) (.pair (.slice (.int .i64)) (.pair (.int .i64) .unit))) (.pair (.arr 32 (.int .u8)) .unit)) (.pair (.pair (.int .i64) (.pair (.int .u32) .unit)) (.pair (.int .i64) .unit)))
abbrev Zt16_6:Type:=Int×Int×Unit
abbrev Zt16_7:Type:=List Int×Unit
abbrev Zy16_8:Ty:=(.pair (.int .i64) (.pair (.int .u32) .unit))
abbrev Zt16_9:Type:=(((List Int)×((List Int)×(Int×Unit)))×((List Int)×Unit))
abbrev Zt16_10:Type:=(Int×(Int×(Int×((Int×(Int×((List Int)×((Int×((List (List Int))×((List (List Int))×Unit)))×Unit))))×Unit))))
abbrev Zy16_11:Ty:=(.pair (.pair (.slice (.int .u32)) (.pair (.slice (.int .i64)) (.pair (.int .i64) .unit))) (.pair (.arr 32 (.int .u8)) .unit))
abbrev Zy16_12:Ty:=(.pair (.arr 32 (.int .u8)) .unit)
abbrev Zy16_13:Ty:=(.pair (.pair (.int .i64) (.pair (.int .u32) .unit)) (.pair (.int .i64) .unit))
abbrev Zt16_14:Type:=(Int×(Int×Unit))
abbrev A_16:List Ty:=[(.pair (.int .i64) (.pair (.int .i64) (.pair (.int .i64) (.pair (.pair (.int .i64) (.pair (.int .i64) (.pair (.arr 32 (.int .u8)) (.pair (.pair (.int .i64) (.pair (.slice (.arr 32 (.int .u8))) (.pair (.slice (.arr 32 (.int .u8))) .unit))) .unit)))) .unit)))),(.pair (.pair (.slice (.int .u32)) (.pair (.slice (.int .i64)) (.pair (.int .i64) .unit))) (.pair (.arr 32 (.int .u8)) .unit)),(.int .i64),(.slice (.int .u32)),(.pair (.int .i64) (.pair (.int .u32) .unit))]
abbrev R_16:List Ty:=[(.pair (.int .i64) (.pair (.int .i64) (.pair (.int .i64) (.pair (.pair (.int .i64) (.pair (.int .i64) (.pair (.arr 32 (.int .u8)) (.pair (.pair (.int .i64) (.pair (.slice (.arr 32 (.int .u8))) (.pair (.slice (.arr 32 (.int .u8))) .unit))) .unit)))) .unit)))),(.pair (.pair (.slice (.int .u32)) (.pair (.slice (.int .i64)) (.pair (.int .i64) .unit))) (.pair (.arr 32 (.int .u8)) .unit)),(.pair (.int .i64) (.pair (.int .u32) .unit)),(.int .i64)]
noncomputable def sm_16:Nat->Option Summ:=smL [(25,s_25),(40,s_40),(41,s_41),(44,s_44),(75,s_75),(76,s_76)]
noncomputable def T_16_43_0_1:PS:=⟨49,[(0,.kc (.ptr 6 [])),(1,.hv (.int .i64)),(8,.hv (.slice (.int .u32))),(9,.hv (.int .i64)),(10,.hv (.int .i64))],[.mem (.hv Zy16_2),.mem (.hv Zy16_11),.mem (.hv Zy16_8),.mem (.pr (.hv (.int .i64)) (.pr (.hv (.int .i64)) (.pr (.hv (.int .i64)) (.pr (.pr (.hv (.int .i64)) (.pr (.hv (.int .i64)) (.pr (.hv (.arr 32 (.int .u8))) (.pr (.pr (.hv (.int .i64)) (.kc (.pair (.nil 23 (.arr 32 (.int .u8))) (.pair (.nil 23 (.arr 32 (.int .u8))) (.pure .unit PUnit.unit))))) (.kc (.pure .unit PUnit.unit)))))) (.kc (.pure .unit PUnit.unit)))))),.mem (.pr (.pr (.kc (.nil 42 (.int .u32))) (.pr (.kc (.nil 3 (.int .i64))) (.hv (.pair (.int .i64) .unit)))) (.hv Zy16_12)),.mem (.hv Zy16_8),.mem (.hv Zy16_5),.fvec 42 (.int .u32),.fvec 3 (.int .i64),.fresh],10⟩
inductive Sp.E_16_43_0_1 where
 |e0 (p4:Zt16_0) (p5:Zt16_3) (p6:Zt16_6) (p7 p8 p9 p10 p11:Int) (p12:List Int) (p13:Int) (p14:Int×Unit) (p15:Zt16_7) (p16:Zt16_6) (p17:Zt16_1) (p18 p19:List Int)
noncomputable def Sp.B_16_43_0_1{R:Type}(r:Option E_16_43_0_1)(k0:Zt16_0->Zt16_3->Zt16_6->Int->Int->Int->Int->Int->List Int->Int->(Int×Unit)->Zt16_7->Zt16_6->Zt16_1->List Int->List Int->Option R):Option R:=match r with
 |none=>none
 |some (.e0 p4 p5 p6 p7 p8 p9 p10 p11 p12 p13 p14 p15 p16 p17 p18 p19)=>k0 p4 p5 p6 p7 p8 p9 p10 p11 p12 p13 p14 p15 p16 p17 p18 p19
noncomputable def Y_16_43_0_1{R:Type}(k:Ex->St->Option R):E_16_43_0_1->Option R
 | .e0 p4 p5 p6 p7 p8 p9 p10 p11 p12 p13 p14 p15 p16 p17 p18 p19=>k (Ex.exit 0) (sx 49 [] [Blk.mem (CV.pure (Ty.pair (Ty.int i64) (Ty.pair (Ty.int i64) (Ty.pair (Ty.int i64) (Ty.pair (Ty.pair (Ty.int i64) (Ty.pair (Ty.int i64) (Ty.pair (Ty.arr 32 (Ty.int u8)) (Ty.pair (Ty.pair (Ty.int i64) (Ty.pair (Ty.slice (Ty.arr 32 (Ty.int u8))) (Ty.pair (Ty.slice (Ty.arr 32 (Ty.int u8))) Ty.unit))) Ty.unit)))) Ty.unit)))) p4),Blk.mem (CV.pure (Ty.pair (Ty.pair (Ty.slice (Ty.int u32)) (Ty.pair (Ty.slice (Ty.int i64)) (Ty.pair (Ty.int i64) Ty.unit))) (Ty.pair (Ty.arr 32 (Ty.int u8)) Ty.unit)) p5),Blk.mem (CV.pure (Ty.pair (Ty.int i64) (Ty.pair (Ty.int u32) Ty.unit)) p6),Blk.mem (CV.pair (CV.int i64 p7) (CV.pair (CV.int i64 p8) (CV.pair (CV.int i64 p9) (CV.pair (CV.pair (CV.int i64 p10) (CV.pair (CV.int i64 p11) (CV.pair (CV.pure (Ty.arr 32 (Ty.int u8)) p12) (CV.pair (CV.pair (CV.int i64 p13) (CV.pair (CV.nil 23 (Ty.arr 32 (Ty.int u8))) (CV.pair (CV.nil 23 (Ty.arr 32 (Ty.int u8))) (CV.pure Ty.unit PUnit.unit)))) (CV.pure Ty.unit PUnit.unit))))) (CV.pure Ty.unit PUnit.unit))))),Blk.mem (CV.pair (CV.pair (CV.nil 42 (Ty.int u32)) (CV.pair (CV.nil 3 (Ty.int i64)) (CV.pure (Ty.pair (Ty.int i64) Ty.unit) p14))) (CV.pure (Ty.pair (Ty.arr 32 (Ty.int u8)) Ty.unit) p15)),Blk.mem (CV.pure (Ty.pair (Ty.int i64) (Ty.pair (Ty.int u32) Ty.unit)) p16),Blk.mem (CV.pure (Ty.pair (Ty.pair (Ty.pair (Ty.slice (Ty.int u32)) (Ty.pair (Ty.slice (Ty.int i64)) (Ty.pair (Ty.int i64) Ty.unit))) (Ty.pair (Ty.arr 32 (Ty.int u8)) Ty.unit)) (Ty.pair (Ty.pair (Ty.int i64) (Ty.pair (Ty.int u32) Ty.unit)) (Ty.pair (Ty.int i64) Ty.unit))) p17),Blk.fvec 42 (Ty.int u32) p18,Blk.fvec 3 (Ty.int i64) p19,Blk.fresh] 10)
noncomputable def Sp.S_16_43_0_1{R:Type}(K:Int->List Int->Int->Int->(Int×Int×Int×(Int×Int×List Int×(Int×List (List Int)×List (List Int)×Unit)×Unit)×Unit)->((List Int×List Int×Int×Unit)×List Int×Unit)->(Int×Int×Unit)->Int->Int->Int->Int->Int->List Int->Int->(Int×Unit)->(List Int×Unit)->(Int×Int×Unit)->(((List Int×List Int×Int×Unit)×List Int×Unit)×(Int×Int×Unit)×Int×Unit)->List Int->List Int->Option R)(k:E_16_43_0_1->Option R)(p0:Int)(p1:List Int)(p2 p3:Int)(p4:Int×Int×Int×(Int×Int×List Int×(Int×List (List Int)×List (List Int)×Unit)×Unit)×Unit)(p5:(List Int×List Int×Int×Unit)×List Int×Unit)(p6:Int×Int×Unit)(p7 p8 p9 p10 p11:Int)(p12:List Int)(p13:Int)(p14:Int×Unit)(p15:List Int×Unit)(p16:Int×Int×Unit)(p17:((List Int×List Int×Int×Unit)×List Int×Unit)×(Int×Int×Unit)×Int×Unit)(p18 p19:List Int):Option R:=
 bif decide (p3<p2)then gd (inB p3 (length p1)) (bif p17.2.2.1==0 then gd (p_76 (p17.1.1) (wrap i64 (p0+p3)) (getD p1 (toNat p3) 0) (p17.2.1)) (K p0 p1 p2 (wrap i64 (p3+1)) p4 p5 p6 p7 p8 p9 p10 p11 p12 p13 p14 p15 p16 (((v_76 (p17.1.1) (wrap i64 (p0+p3)) (getD p1 (toNat p3) 0) (p17.2.1)).1,p17.1.2),(v_76 (p17.1.1) (wrap i64 (p0+p3)) (getD p1 (toNat p3) 0) (p17.2.1)).2.1,(v_76 (p17.1.1) (wrap i64 (p0+p3)) (getD p1 (toNat p3) 0) (p17.2.1)).2.2.1,p17.2.2.2) p18 p19)else K p0 p1 p2 (wrap i64 (p3+1)) p4 p5 p6 p7 p8 p9 p10 p11 p12 p13 p14 p15 p16 p17 p18 p19)else k (E_16_43_0_1.e0 p4 p5 p6 p7 p8 p9 p10 p11 p12 p13 p14 p15 p16 p17 p18 p19)
noncomputable def Sp.L_16_43_0_1:Nat->Int->List Int->Int->Int->(Int×Int×Int×(Int×Int×List Int×(Int×List (List Int)×List (List Int)×Unit)×Unit)×Unit)->((List Int×List Int×Int×Unit)×List Int×Unit)->(Int×Int×Unit)->Int->Int->Int->Int->Int->List Int->Int->(Int×Unit)->(List Int×Unit)->(Int×Int×Unit)->(((List Int×List Int×Int×Unit)×List Int×Unit)×(Int×Int×Unit)×Int×Unit)->List Int->List Int->Option E_16_43_0_1
 |0,_,_,_,_,_,_,_,_,_,_,_,_,_,_,_,_,_,_,_,_=>none
 |m+1,p0,p1,p2,p3,p4,p5,p6,p7,p8,p9,p10,p11,p12,p13,p14,p15,p16,p17,p18,p19=>S_16_43_0_1 (L_16_43_0_1 m) some p0 p1 p2 p3 p4 p5 p6 p7 p8 p9 p10 p11 p12 p13 p14 p15 p16 p17 p18 p19
noncomputable def l_16_43_0_1(m:Nat)(a:T_16_43_0_1.E):Option E_16_43_0_1:=L_16_43_0_1 m a.1 a.2.1 a.2.2.1 a.2.2.2.1 a.2.2.2.2.1 a.2.2.2.2.2.1 a.2.2.2.2.2.2.1 a.2.2.2.2.2.2.2.1 a.2.2.2.2.2.2.2.2.1 a.2.2.2.2.2.2.2.2.2.1 a.2.2.2.2.2.2.2.2.2.2.1 a.2.2.2.2.2.2.2.2.2.2.2.1 a.2.2.2.2.2.2.2.2.2.2.2.2.1 a.2.2.2.2.2.2.2.2.2.2.2.2.2.1 a.2.2.2.2.2.2.2.2.2.2.2.2.2.2.1 a.2.2.2.2.2.2.2.2.2.2.2.2.2.2.2.1 a.2.2.2.2.2.2.2.2.2.2.2.2.2.2.2.2.1 a.2.2.2.2.2.2.2.2.2.2.2.2.2.2.2.2.2.1 a.2.2.2.2.2.2.2.2.2.2.2.2.2.2.2.2.2.2.1 a.2.2.2.2.2.2.2.2.2.2.2.2.2.2.2.2.2.2.2.1
noncomputable def O_16_43_0_1{R:Type}:Orc R:=orL T_16_43_0_1 (l_16_43_0_1 FU) Y_16_43_0_1
theorem loop_16_43_0_1{R:Type}(k:Ex->St->Option R):∀m a,evLoopN (evCodeL sm_16 FU (ovr noO (evFn sm_16 fns FU 0)) (mkT (inner (nf 43 0)) []) (inner (nf 43 0))) (St.norm (lv (nf 43 0))) m (T_16_43_0_1.inst a) k=(l_16_43_0_1 m a).bind (Y_16_43_0_1 k):=lpN l_16_43_0_1 (fun R K k a=>S_16_43_0_1 (fun p0 p1 p2 p3 p4 p5 p6 p7 p8 p9 p10 p11 p12 p13 p14 p15 p16 p17 p18 p19=>K (p0,p1,p2,p3,p4,p5,p6,p7,p8,p9,p10,p11,p12,p13,p14,p15,p16,p17,p18,p19,())) k a.1 a.2.1 a.2.2.1 a.2.2.2.1 a.2.2.2.2.1 a.2.2.2.2.2.1 a.2.2.2.2.2.2.1 a.2.2.2.2.2.2.2.1 a.2.2.2.2.2.2.2.2.1 a.2.2.2.2.2.2.2.2.2.1 a.2.2.2.2.2.2.2.2.2.2.1 a.2.2.2.2.2.2.2.2.2.2.2.1 a.2.2.2.2.2.2.2.2.2.2.2.2.1 a.2.2.2.2.2.2.2.2.2.2.2.2.2.1 a.2.2.2.2.2.2.2.2.2.2.2.2.2.2.1 a.2.2.2.2.2.2.2.2.2.2.2.2.2.2.2.1 a.2.2.2.2.2.2.2.2.2.2.2.2.2.2.2.2.1 a.2.2.2.2.2.2.2.2.2.2.2.2.2.2.2.2.2.1 a.2.2.2.2.2.2.2.2.2.2.2.2.2.2.2.2.2.2.1 a.2.2.2.2.2.2.2.2.2.2.2.2.2.2.2.2.2.2.2.1) (fun _=>rfl) (fun _ _=>rfl) (fun K a=>by kernel_rfl) (fun K a=>by
 unfold S_16_43_0_1
 repeat' first|apply gdN|apply condN|rfl)
theorem OK_16_43_0_1{R:Type}:okF (R:=R) sm_16 0 (nf 43 0) O_16_43_0_1:=lp0 T_16_43_0_1 l_16_43_0_1 (fun R K k a=>S_16_43_0_1 (fun p0 p1 p2 p3 p4 p5 p6 p7 p8 p9 p10 p11 p12 p13 p14 p15 p16 p17 p18 p19=>K (p0,p1,p2,p3,p4,p5,p6,p7,p8,p9,p10,p11,p12,p13,p14,p15,p16,p17,p18,p19,())) k a.1 a.2.1 a.2.2.1 a.2.2.2.1 a.2.2.2.2.1 a.2.2.2.2.2.1 a.2.2.2.2.2.2.1 a.2.2.2.2.2.2.2.1 a.2.2.2.2.2.2.2.2.1 a.2.2.2.2.2.2.2.2.2.1 a.2.2.2.2.2.2.2.2.2.2.1 a.2.2.2.2.2.2.2.2.2.2.2.1 a.2.2.2.2.2.2.2.2.2.2.2.2.1 a.2.2.2.2.2.2.2.2.2.2.2.2.2.1 a.2.2.2.2.2.2.2.2.2.2.2.2.2.2.1 a.2.2.2.2.2.2.2.2.2.2.2.2.2.2.2.1 a.2.2.2.2.2.2.2.2.2.2.2.2.2.2.2.2.1 a.2.2.2.2.2.2.2.2.2.2.2.2.2.2.2.2.2.1 a.2.2.2.2.2.2.2.2.2.2.2.2.2.2.2.2.2.2.1 a.2.2.2.2.2.2.2.2.2.2.2.2.2.2.2.2.2.2.2.1) Y_16_43_0_1 (fun _ _ _=>by kernel_rfl) (fun _ _ _=>by
 unfold S_16_43_0_1
 repeat' first|apply gdN|apply condN|rfl) (ok0 _)
noncomputable def T_16_43_0_0:PS:=⟨49,[(0,.kc (.ptr 6 [])),(1,.hv (.int .i64)),(8,.hv (.slice (.int .u32))),(9,.hv (.int .i64)),(10,.hv (.int .i64))],[.mem (.hv Zy16_2),.mem (.hv Zy16_11),.mem (.hv Zy16_8),.mem (.pr (.hv (.int .i64)) (.pr (.hv (.int .i64)) (.pr (.hv (.int .i64)) (.pr (.pr (.hv (.int .i64)) (.pr (.hv (.int .i64)) (.pr (.hv (.arr 32 (.int .u8))) (.pr (.pr (.hv (.int .i64)) (.kc (.pair (.nil 23 (.arr 32 (.int .u8))) (.pair (.nil 23 (.arr 32 (.int .u8))) (.pure .unit PUnit.unit))))) (.kc (.pure .unit PUnit.unit)))))) (.kc (.pure .unit PUnit.unit)))))),.mem (.pr (.pr (.kc (.nil 42 (.int .u32))) (.pr (.kc (.nil 3 (.int .i64))) (.hv (.pair (.int .i64) .unit)))) (.hv Zy16_12)),.mem (.hv Zy16_8),.mem (.pr (.pr (.pr (.kc (.whole 7)) (.pr (.kc (.whole 8)) (.hv (.pair (.int .i64) .unit)))) (.hv Zy16_12)) (.hv Zy16_13)),.vec 42 (.int .u32),.vec 3 (.int .i64),.fresh],10⟩
inductive Sp.E_16_43_0_0 where
 |e0 (p4:Zt16_0) (p5:Zt16_3) (p6:Zt16_6) (p7 p8 p9 p10 p11:Int) (p12:List Int) (p13:Int) (p14:Int×Unit) (p15:Zt16_7) (p16:Zt16_6) (p17:Int×Unit) (p18:Zt16_7) (p19:Zt16_4) (p20 p21:List Int)
 |e1 (p4:Zt16_0) (p5:Zt16_3) (p6:Zt16_6) (p7 p8 p9 p10 p11:Int) (p12:List Int) (p13:Int) (p14:Int×Unit) (p15:Zt16_7) (p16:Zt16_6) (p17:Zt16_1) (p18 p19:List Int)
noncomputable def Sp.B_16_43_0_0{R:Type}(r:Option E_16_43_0_0)(k0:Zt16_0->Zt16_3->Zt16_6->Int->Int->Int->Int->Int->List Int->Int->(Int×Unit)->Zt16_7->Zt16_6->(Int×Unit)->Zt16_7->Zt16_4->List Int->List Int->Option R)(k1:Zt16_0->Zt16_3->Zt16_6->Int->Int->Int->Int->Int->List Int->Int->(Int×Unit)->Zt16_7->Zt16_6->Zt16_1->List Int->List Int->Option R):Option R:=match r with
 |none=>none
 |some (.e0 p4 p5 p6 p7 p8 p9 p10 p11 p12 p13 p14 p15 p16 p17 p18 p19 p20 p21)=>k0 p4 p5 p6 p7 p8 p9 p10 p11 p12 p13 p14 p15 p16 p17 p18 p19 p20 p21
 |some (.e1 p4 p5 p6 p7 p8 p9 p10 p11 p12 p13 p14 p15 p16 p17 p18 p19)=>k1 p4 p5 p6 p7 p8 p9 p10 p11 p12 p13 p14 p15 p16 p17 p18 p19
noncomputable def Y_16_43_0_0{R:Type}(k:Ex->St->Option R):E_16_43_0_0->Option R
 | .e0 p4 p5 p6 p7 p8 p9 p10 p11 p12 p13 p14 p15 p16 p17 p18 p19 p20 p21=>k (Ex.exit 0) (sx 49 [] [Blk.mem (CV.pure (Ty.pair (Ty.int i64) (Ty.pair (Ty.int i64) (Ty.pair (Ty.int i64) (Ty.pair (Ty.pair (Ty.int i64) (Ty.pair (Ty.int i64) (Ty.pair (Ty.arr 32 (Ty.int u8)) (Ty.pair (Ty.pair (Ty.int i64) (Ty.pair (Ty.slice (Ty.arr 32 (Ty.int u8))) (Ty.pair (Ty.slice (Ty.arr 32 (Ty.int u8))) Ty.unit))) Ty.unit)))) Ty.unit)))) p4),Blk.mem (CV.pure (Ty.pair (Ty.pair (Ty.slice (Ty.int u32)) (Ty.pair (Ty.slice (Ty.int i64)) (Ty.pair (Ty.int i64) Ty.unit))) (Ty.pair (Ty.arr 32 (Ty.int u8)) Ty.unit)) p5),Blk.mem (CV.pure (Ty.pair (Ty.int i64) (Ty.pair (Ty.int u32) Ty.unit)) p6),Blk.mem (CV.pair (CV.int i64 p7) (CV.pair (CV.int i64 p8) (CV.pair (CV.int i64 p9) (CV.pair (CV.pair (CV.int i64 p10) (CV.pair (CV.int i64 p11) (CV.pair (CV.pure (Ty.arr 32 (Ty.int u8)) p12) (CV.pair (CV.pair (CV.int i64 p13) (CV.pair (CV.nil 23 (Ty.arr 32 (Ty.int u8))) (CV.pair (CV.nil 23 (Ty.arr 32 (Ty.int u8))) (CV.pure Ty.unit PUnit.unit)))) (CV.pure Ty.unit PUnit.unit))))) (CV.pure Ty.unit PUnit.unit))))),Blk.mem (CV.pair (CV.pair (CV.nil 42 (Ty.int u32)) (CV.pair (CV.nil 3 (Ty.int i64)) (CV.pure (Ty.pair (Ty.int i64) Ty.unit) p14))) (CV.pure (Ty.pair (Ty.arr 32 (Ty.int u8)) Ty.unit) p15)),Blk.mem (CV.pure (Ty.pair (Ty.int i64) (Ty.pair (Ty.int u32) Ty.unit)) p16),Blk.mem (CV.pair (CV.pair (CV.pair (CV.whole 7) (CV.pair (CV.whole 8) (CV.pure (Ty.pair (Ty.int i64) Ty.unit) p17))) (CV.pure (Ty.pair (Ty.arr 32 (Ty.int u8)) Ty.unit) p18)) (CV.pure (Ty.pair (Ty.pair (Ty.int i64) (Ty.pair (Ty.int u32) Ty.unit)) (Ty.pair (Ty.int i64) Ty.unit)) p19)),Blk.vec 42 (Ty.int u32) p20,Blk.vec 3 (Ty.int i64) p21,Blk.fresh] 10)
 | .e1 p4 p5 p6 p7 p8 p9 p10 p11 p12 p13 p14 p15 p16 p17 p18 p19=>k (Ex.exit 0) (sx 49 [] [Blk.mem (CV.pure (Ty.pair (Ty.int i64) (Ty.pair (Ty.int i64) (Ty.pair (Ty.int i64) (Ty.pair (Ty.pair (Ty.int i64) (Ty.pair (Ty.int i64) (Ty.pair (Ty.arr 32 (Ty.int u8)) (Ty.pair (Ty.pair (Ty.int i64) (Ty.pair (Ty.slice (Ty.arr 32 (Ty.int u8))) (Ty.pair (Ty.slice (Ty.arr 32 (Ty.int u8))) Ty.unit))) Ty.unit)))) Ty.unit)))) p4),Blk.mem (CV.pure (Ty.pair (Ty.pair (Ty.slice (Ty.int u32)) (Ty.pair (Ty.slice (Ty.int i64)) (Ty.pair (Ty.int i64) Ty.unit))) (Ty.pair (Ty.arr 32 (Ty.int u8)) Ty.unit)) p5),Blk.mem (CV.pure (Ty.pair (Ty.int i64) (Ty.pair (Ty.int u32) Ty.unit)) p6),Blk.mem (CV.pair (CV.int i64 p7) (CV.pair (CV.int i64 p8) (CV.pair (CV.int i64 p9) (CV.pair (CV.pair (CV.int i64 p10) (CV.pair (CV.int i64 p11) (CV.pair (CV.pure (Ty.arr 32 (Ty.int u8)) p12) (CV.pair (CV.pair (CV.int i64 p13) (CV.pair (CV.nil 23 (Ty.arr 32 (Ty.int u8))) (CV.pair (CV.nil 23 (Ty.arr 32 (Ty.int u8))) (CV.pure Ty.unit PUnit.unit)))) (CV.pure Ty.unit PUnit.unit))))) (CV.pure Ty.unit PUnit.unit))))),Blk.mem (CV.pair (CV.pair (CV.nil 42 (Ty.int u32)) (CV.pair (CV.nil 3 (Ty.int i64)) (CV.pure (Ty.pair (Ty.int i64) Ty.unit) p14))) (CV.pure (Ty.pair (Ty.arr 32 (Ty.int u8)) Ty.unit) p15)),Blk.mem (CV.pure (Ty.pair (Ty.int i64) (Ty.pair (Ty.int u32) Ty.unit)) p16),Blk.mem (CV.pure (Ty.pair (Ty.pair (Ty.pair (Ty.slice (Ty.int u32)) (Ty.pair (Ty.slice (Ty.int i64)) (Ty.pair (Ty.int i64) Ty.unit))) (Ty.pair (Ty.arr 32 (Ty.int u8)) Ty.unit)) (Ty.pair (Ty.pair (Ty.int i64) (Ty.pair (Ty.int u32) Ty.unit)) (Ty.pair (Ty.int i64) Ty.unit))) p17),Blk.fvec 42 (Ty.int u32) p18,Blk.fvec 3 (Ty.int i64) p19,Blk.fresh] 10)
noncomputable def Sp.S_16_43_0_0{R:Type}(K:Int->List Int->Int->Int->(Int×Int×Int×(Int×Int×List Int×(Int×List (List Int)×List (List Int)×Unit)×Unit)×Unit)->((List Int×List Int×Int×Unit)×List Int×Unit)->(Int×Int×Unit)->Int->Int->Int->Int->Int->List Int->Int->(Int×Unit)->(List Int×Unit)->(Int×Int×Unit)->(Int×Unit)->(List Int×Unit)->((Int×Int×Unit)×Int×Unit)->List Int->List Int->Option R)(KB:Int->List Int->Int->Int->(Int×Int×Int×(Int×Int×List Int×(Int×List (List Int)×List (List Int)×Unit)×Unit)×Unit)->((List Int×List Int×Int×Unit)×List Int×Unit)->(Int×Int×Unit)->Int->Int->Int->Int->Int->List Int->Int->(Int×Unit)->(List Int×Unit)->(Int×Int×Unit)->(((List Int×List Int×Int×Unit)×List Int×Unit)×(Int×Int×Unit)×Int×Unit)->List Int->List Int->Option R)(k:E_16_43_0_0->Option R)(p0:Int)(p1:List Int)(p2 p3:Int)(p4:Int×Int×Int×(Int×Int×List Int×(Int×List (List Int)×List (List Int)×Unit)×Unit)×Unit)(p5:(List Int×List Int×Int×Unit)×List Int×Unit)(p6:Int×Int×Unit)(p7 p8 p9 p10 p11:Int)(p12:List Int)(p13:Int)(p14:Int×Unit)(p15:List Int×Unit)(p16:Int×Int×Unit)(p17:Int×Unit)(p18:List Int×Unit)(p19:(Int×Int×Unit)×Int×Unit)(p20 p21:List Int):Option R:=
 bif decide (p3<p2)then gd (inB p3 (length p1)) (bif p19.2.1==0 then gd (p_76 (p20,p21,p17) (wrap i64 (p0+p3)) (getD p1 (toNat p3) 0) (p19.1)) (KB p0 p1 p2 (wrap i64 (p3+1)) p4 p5 p6 p7 p8 p9 p10 p11 p12 p13 p14 p15 p16 (((v_76 (p20,p21,p17) (wrap i64 (p0+p3)) (getD p1 (toNat p3) 0) (p19.1)).1,p18),(v_76 (p20,p21,p17) (wrap i64 (p0+p3)) (getD p1 (toNat p3) 0) (p19.1)).2.1,(v_76 (p20,p21,p17) (wrap i64 (p0+p3)) (getD p1 (toNat p3) 0) (p19.1)).2.2.1,p19.2.2) p20 p21)else K p0 p1 p2 (wrap i64 (p3+1)) p4 p5 p6 p7 p8 p9 p10 p11 p12 p13 p14 p15 p16 p17 p18 p19 p20 p21)else k (E_16_43_0_0.e0 p4 p5 p6 p7 p8 p9 p10 p11 p12 p13 p14 p15 p16 p17 p18 p19 p20 p21)
noncomputable def C_16_43_0_0:E_16_43_0_1->E_16_43_0_0
 | .e0 p4 p5 p6 p7 p8 p9 p10 p11 p12 p13 p14 p15 p16 p17 p18 p19=> .e1 p4 p5 p6 p7 p8 p9 p10 p11 p12 p13 p14 p15 p16 p17 p18 p19
theorem BC_16_43_0_0(r:Option E_16_43_0_1):B_16_43_0_1 r (fun p4 p5 p6 p7 p8 p9 p10 p11 p12 p13 p14 p15 p16 p17 p18 p19=>some (E_16_43_0_0.e1 p4 p5 p6 p7 p8 p9 p10 p11 p12 p13 p14 p15 p16 p17 p18 p19))=r.bind fun e=>some (C_16_43_0_0 e):=by
 cases r with
 |none=>rfl
 |some e=>cases e<;>rfl
noncomputable def Sp.L_16_43_0_0:Nat->Int->List Int->Int->Int->(Int×Int×Int×(Int×Int×List Int×(Int×List (List Int)×List (List Int)×Unit)×Unit)×Unit)->((List Int×List Int×Int×Unit)×List Int×Unit)->(Int×Int×Unit)->Int->Int->Int->Int->Int->List Int->Int->(Int×Unit)->(List Int×Unit)->(Int×Int×Unit)->(Int×Unit)->(List Int×Unit)->((Int×Int×Unit)×Int×Unit)->List Int->List Int->Option E_16_43_0_0
 |0,_,_,_,_,_,_,_,_,_,_,_,_,_,_,_,_,_,_,_,_,_,_=>none
 |m+1,p0,p1,p2,p3,p4,p5,p6,p7,p8,p9,p10,p11,p12,p13,p14,p15,p16,p17,p18,p19,p20,p21=>S_16_43_0_0 (L_16_43_0_0 m) (fun q0 q1 q2 q3 q4 q5 q6 q7 q8 q9 q10 q11 q12 q13 q14 q15 q16 q17 q18 q19=>B_16_43_0_1 (L_16_43_0_1 m q0 q1 q2 q3 q4 q5 q6 q7 q8 q9 q10 q11 q12 q13 q14 q15 q16 q17 q18 q19) (fun p4 p5 p6 p7 p8 p9 p10 p11 p12 p13 p14 p15 p16 p17 p18 p19=>some (E_16_43_0_0.e1 p4 p5 p6 p7 p8 p9 p10 p11 p12 p13 p14 p15 p16 p17 p18 p19))) some p0 p1 p2 p3 p4 p5 p6 p7 p8 p9 p10 p11 p12 p13 p14 p15 p16 p17 p18 p19 p20 p21
noncomputable def l_16_43_0_0(m:Nat)(a:T_16_43_0_0.E):Option E_16_43_0_0:=L_16_43_0_0 m a.1 a.2.1 a.2.2.1 a.2.2.2.1 a.2.2.2.2.1 a.2.2.2.2.2.1 a.2.2.2.2.2.2.1 a.2.2.2.2.2.2.2.1 a.2.2.2.2.2.2.2.2.1 a.2.2.2.2.2.2.2.2.2.1 a.2.2.2.2.2.2.2.2.2.2.1 a.2.2.2.2.2.2.2.2.2.2.2.1 a.2.2.2.2.2.2.2.2.2.2.2.2.1 a.2.2.2.2.2.2.2.2.2.2.2.2.2.1 a.2.2.2.2.2.2.2.2.2.2.2.2.2.2.1 a.2.2.2.2.2.2.2.2.2.2.2.2.2.2.2.1 a.2.2.2.2.2.2.2.2.2.2.2.2.2.2.2.2.1 a.2.2.2.2.2.2.2.2.2.2.2.2.2.2.2.2.2.1 a.2.2.2.2.2.2.2.2.2.2.2.2.2.2.2.2.2.2.1 a.2.2.2.2.2.2.2.2.2.2.2.2.2.2.2.2.2.2.2.1 a.2.2.2.2.2.2.2.2.2.2.2.2.2.2.2.2.2.2.2.2.1 a.2.2.2.2.2.2.2.2.2.2.2.2.2.2.2.2.2.2.2.2.2.1
noncomputable def O_16_43_0_0{R:Type}:Orc R:=orL T_16_43_0_0 (l_16_43_0_0 FU) Y_16_43_0_0 O_16_43_0_1
theorem OK_16_43_0_0{R:Type}:okF (R:=R) sm_16 0 (nf 43 0) O_16_43_0_0:=lp2 noO_ok (os:=[]) trivial T_16_43_0_0 T_16_43_0_1 l_16_43_0_0 l_16_43_0_1 (fun R K KB k a=>S_16_43_0_0 (fun p0 p1 p2 p3 p4 p5 p6 p7 p8 p9 p10 p11 p12 p13 p14 p15 p16 p17 p18 p19 p20 p21=>K (p0,p1,p2,p3,p4,p5,p6,p7,p8,p9,p10,p11,p12,p13,p14,p15,p16,p17,p18,p19,p20,p21,())) (fun q0 q1 q2 q3 q4 q5 q6 q7 q8 q9 q10 q11 q12 q13 q14 q15 q16 q17 q18 q19=>KB (q0,q1,q2,q3,q4,q5,q6,q7,q8,q9,q10,q11,q12,q13,q14,q15,q16,q17,q18,q19,())) k a.1 a.2.1 a.2.2.1 a.2.2.2.1 a.2.2.2.2.1 a.2.2.2.2.2.1 a.2.2.2.2.2.2.1 a.2.2.2.2.2.2.2.1 a.2.2.2.2.2.2.2.2.1 a.2.2.2.2.2.2.2.2.2.1 a.2.2.2.2.2.2.2.2.2.2.1 a.2.2.2.2.2.2.2.2.2.2.2.1 a.2.2.2.2.2.2.2.2.2.2.2.2.1 a.2.2.2.2.2.2.2.2.2.2.2.2.2.1 a.2.2.2.2.2.2.2.2.2.2.2.2.2.2.1 a.2.2.2.2.2.2.2.2.2.2.2.2.2.2.2.1 a.2.2.2.2.2.2.2.2.2.2.2.2.2.2.2.2.1 a.2.2.2.2.2.2.2.2.2.2.2.2.2.2.2.2.2.1 a.2.2.2.2.2.2.2.2.2.2.2.2.2.2.2.2.2.2.1 a.2.2.2.2.2.2.2.2.2.2.2.2.2.2.2.2.2.2.2.1 a.2.2.2.2.2.2.2.2.2.2.2.2.2.2.2.2.2.2.2.2.1 a.2.2.2.2.2.2.2.2.2.2.2.2.2.2.2.2.2.2.2.2.2.1) Y_16_43_0_0 Y_16_43_0_1 C_16_43_0_0 (fun _=>rfl) (fun m a=>by
 unfold l_16_43_0_0
 rw[L_16_43_0_0]
 simp only[BC_16_43_0_0]
 rfl) (fun k e=>by cases e<;>rfl) (fun k=>loop_16_43_0_1 k) (fun k K a=>by kernel_rfl) (fun Y K KB a=>by
 unfold S_16_43_0_0
 repeat' first|apply gdN|apply condN|rfl) OK_16_43_0_1
noncomputable def g_16_43{R:Type}:List CV->List Blk->(CV->List Blk->Option R)->Option R:=evFnL sm_16 FU (ovr noO (evFn sm_16 fns FU 0)) (mkT (fB fns 43) [O_16_43_0_0]) (fO fns 43)
theorem g_16_43_ok{R:Type}(args:List CV)(hp:List Blk)(k:CV->List Blk->Option R)(r:R)(h:g_16_43 args hp k=some r):evFn sm_16 fns FU 1 43 args hp k=some r:=runG noO_ok (os:=[O_16_43_0_0]) ⟨OK_16_43_0_0,trivial⟩ h
noncomputable def ov_16_16{R:Type}:Nat->Option (List CV->List Blk->(CV->List Blk->Option R)->Option R):=fun f'=>bif Nat.beq f' 43 then some g_16_43 else none
theorem ov_16_16_ok{R:Type}:OvrOK (R:=R) ov_16_16 (evFn sm_16 fns FU 1):=by
 intro f' g h args hp k r hg
 dsimp only[ov_16_16]at h
 by_cases h43:f'=43
 ·subst h43
  injection h with h
  subst h
  exact evFn_le 0 (g_16_43_ok _ _ _ _ hg)
 rw[nbeq_ne h43,cond_false]at h
 cases h
noncomputable def T_16_0:PS:=⟨99,[(5,.kc (.ptr 0 [])),(10,.kc (.ptr 1 [])),(11,.kc (.ptr 4 [])),(12,.kc (.ptr 7 [])),(15,.kc (.ptr 8 []))],[.mem (.hv Zy16_2),.mem (.pr (.hv (.int .i64)) (.pr (.hv (.int .i64)) (.pr (.hv (.int .i64)) (.pr (.pr (.hv (.int .i64)) (.pr (.hv (.int .i64)) (.pr (.hv (.arr 32 (.int .u8))) (.pr (.pr (.hv (.int .i64)) (.kc (.pair (.whole 2) (.pair (.whole 3) (.pure .unit PUnit.unit))))) (.kc (.pure .unit PUnit.unit)))))) (.kc (.pure .unit PUnit.unit)))))),.vec 23 (.arr 32 (.int .u8)),.vec 23 (.arr 32 (.int .u8)),.mem (.pr (.pr (.kc (.whole 5)) (.pr (.kc (.whole 6)) (.hv (.pair (.int .i64) .unit)))) (.hv Zy16_12)),.vec 42 (.int .u32),.vec 3 (.int .i64),.mem (.hv Zy16_8),.mem (.pr (.pr (.pr (.kc (.whole 9)) (.pr (.kc (.whole 10)) (.hv (.pair (.int .i64) .unit)))) (.hv Zy16_12)) (.hv Zy16_13)),.vec 42 (.int .u32),.vec 3 (.int .i64)],0⟩
inductive Sp.E_16_0 where
 |e0 (p0:Zt16_0) (p15:Int×Unit) (p16:Zt16_7) (p17:Zt16_4) (p18 p19:List Int)
 |e1 (p15:Int×Unit) (p16:Zt16_7) (p17:Zt16_4) (p18 p19:List Int)
 |e2 (p17:Zt16_4)
noncomputable def Sp.B_16_0{R:Type}(r:Option E_16_0)(k0:Zt16_0->(Int×Unit)->Zt16_7->Zt16_4->List Int->List Int->Option R)(k1:(Int×Unit)->Zt16_7->Zt16_4->List Int->List Int->Option R)(k2:Zt16_4->Option R):Option R:=match r with
 |none=>none
 |some (.e0 p0 p15 p16 p17 p18 p19)=>k0 p0 p15 p16 p17 p18 p19
 |some (.e1 p15 p16 p17 p18 p19)=>k1 p15 p16 p17 p18 p19
 |some (.e2 p17)=>k2 p17
noncomputable def Y_16_0{R:Type}(k:Ex->St->Option R):E_16_0->Option R
 | .e0 p0 p15 p16 p17 p18 p19=>k Ex.ret (sx 99 [(10,CV.ptr 0 []),(11,CV.ptr 1 []),(12,CV.ptr 4 []),(13,CV.int i64 0)] [Blk.mem (CV.pure (Ty.pair (Ty.int i64) (Ty.pair (Ty.int i64) (Ty.pair (Ty.int i64) (Ty.pair (Ty.pair (Ty.int i64) (Ty.pair (Ty.int i64) (Ty.pair (Ty.arr 32 (Ty.int u8)) (Ty.pair (Ty.pair (Ty.int i64) (Ty.pair (Ty.slice (Ty.arr 32 (Ty.int u8))) (Ty.pair (Ty.slice (Ty.arr 32 (Ty.int u8))) Ty.unit))) Ty.unit)))) Ty.unit)))) p0),Blk.mem (CV.pair (CV.pair (CV.whole 2) (CV.pair (CV.whole 3) (CV.pure (Ty.pair (Ty.int i64) Ty.unit) p15))) (CV.pure (Ty.pair (Ty.arr 32 (Ty.int u8)) Ty.unit) p16)),Blk.vec 42 (Ty.int u32) p18,Blk.vec 3 (Ty.int i64) p19,Blk.mem (CV.pure (Ty.pair (Ty.int i64) (Ty.pair (Ty.int u32) Ty.unit)) ((p17.1):Zt16_14))])
 | .e1 p15 p16 p17 p18 p19=>k Ex.ret (sx 99 [(10,CV.ptr 0 []),(11,CV.ptr 3 []),(12,CV.ptr 6 []),(13,CV.int i64 18)] [Blk.mem (CV.pair (CV.int i64 0) (CV.pair (CV.int i64 0) (CV.pair (CV.int i64 0) (CV.pair (CV.pair (CV.int i64 0) (CV.pair (CV.int i64 0) (CV.pair (CV.pure (Ty.arr 32 (Ty.int u8)) ((replicate 32 (0:Int)):(List Int))) (CV.pair (CV.pair (CV.int i64 0) (CV.pair (CV.whole 1) (CV.pair (CV.whole 2) (CV.pure Ty.unit PUnit.unit)))) (CV.pure Ty.unit PUnit.unit))))) (CV.pure Ty.unit PUnit.unit))))),Blk.vec 23 (Ty.arr 32 (Ty.int u8)) [],Blk.vec 23 (Ty.arr 32 (Ty.int u8)) [],Blk.mem (CV.pair (CV.pair (CV.whole 4) (CV.pair (CV.whole 5) (CV.pure (Ty.pair (Ty.int i64) Ty.unit) p15))) (CV.pure (Ty.pair (Ty.arr 32 (Ty.int u8)) Ty.unit) p16)),Blk.vec 42 (Ty.int u32) p18,Blk.vec 3 (Ty.int i64) p19,Blk.mem (CV.pure (Ty.pair (Ty.int i64) (Ty.pair (Ty.int u32) Ty.unit)) ((p17.1):Zt16_14))])
 | .e2 p17=>k Ex.ret (sx 99 [(10,CV.ptr 0 []),(11,CV.ptr 1 []),(12,CV.ptr 2 []),(13,CV.int i64 ((v_41 (p17.2.1)).2.2.2.1))] [Blk.mem (CV.pure (Ty.pair (Ty.int i64) (Ty.pair (Ty.int i64) (Ty.pair (Ty.int i64) (Ty.pair (Ty.pair (Ty.int i64) (Ty.pair (Ty.int i64) (Ty.pair (Ty.arr 32 (Ty.int u8)) (Ty.pair (Ty.pair (Ty.int i64) (Ty.pair (Ty.slice (Ty.arr 32 (Ty.int u8))) (Ty.pair (Ty.slice (Ty.arr 32 (Ty.int u8))) Ty.unit))) Ty.unit)))) Ty.unit)))) (((v_41 (p17.2.1)).1):Zt16_10)),Blk.mem (CV.pure (Ty.pair (Ty.pair (Ty.slice (Ty.int u32)) (Ty.pair (Ty.slice (Ty.int i64)) (Ty.pair (Ty.int i64) Ty.unit))) (Ty.pair (Ty.arr 32 (Ty.int u8)) Ty.unit)) (((v_41 (p17.2.1)).2.1):Zt16_9)),Blk.mem (CV.pure (Ty.pair (Ty.int i64) (Ty.pair (Ty.int u32) Ty.unit)) (((v_41 (p17.2.1)).2.2.1):Zt16_14))])
noncomputable def Sp.S_16_0{R:Type}(k:E_16_0->Option R)(p0:Int×Int×Int×(Int×Int×List Int×(Int×List (List Int)×List (List Int)×Unit)×Unit)×Unit)(p1 p2 p3 p4 p5:Int)(p6:List Int)(p7:Int)(p8 p9:List (List Int))(p10:Int×Unit)(p11:List Int×Unit)(p12 p13:List Int)(p14:Int×Int×Unit)(p15:Int×Unit)(p16:List Int×Unit)(p17:(Int×Int×Unit)×Int×Unit)(p18 p19:List Int):Option R:=
 bif p17.2.1==0 then k (E_16_0.e0 p0 p15 p16 p17 p18 p19)else bif p17.2.1==18 then k (E_16_0.e1 p15 p16 p17 p18 p19)else gd (p_41 (p17.2.1)) (k (E_16_0.e2 p17))
noncomputable def Sp.J_16_0(p0:Int×Int×Int×(Int×Int×List Int×(Int×List (List Int)×List (List Int)×Unit)×Unit)×Unit)(p1 p2 p3 p4 p5:Int)(p6:List Int)(p7:Int)(p8 p9:List (List Int))(p10:Int×Unit)(p11:List Int×Unit)(p12 p13:List Int)(p14:Int×Int×Unit)(p15:Int×Unit)(p16:List Int×Unit)(p17:(Int×Int×Unit)×Int×Unit)(p18 p19:List Int):Option E_16_0:=S_16_0 some p0 p1 p2 p3 p4 p5 p6 p7 p8 p9 p10 p11 p12 p13 p14 p15 p16 p17 p18 p19
noncomputable def O_16_0{R:Type}:Orc R:=orL T_16_0 (fun a=>J_16_0 a.1 a.2.1 a.2.2.1 a.2.2.2.1 a.2.2.2.2.1 a.2.2.2.2.2.1 a.2.2.2.2.2.2.1 a.2.2.2.2.2.2.2.1 a.2.2.2.2.2.2.2.2.1 a.2.2.2.2.2.2.2.2.2.1 a.2.2.2.2.2.2.2.2.2.2.1 a.2.2.2.2.2.2.2.2.2.2.2.1 a.2.2.2.2.2.2.2.2.2.2.2.2.1 a.2.2.2.2.2.2.2.2.2.2.2.2.2.1 a.2.2.2.2.2.2.2.2.2.2.2.2.2.2.1 a.2.2.2.2.2.2.2.2.2.2.2.2.2.2.2.1 a.2.2.2.2.2.2.2.2.2.2.2.2.2.2.2.2.1 a.2.2.2.2.2.2.2.2.2.2.2.2.2.2.2.2.2.1 a.2.2.2.2.2.2.2.2.2.2.2.2.2.2.2.2.2.2.1 a.2.2.2.2.2.2.2.2.2.2.2.2.2.2.2.2.2.2.2.1) Y_16_0
theorem OK_16_0{R:Type}:okF (R:=R) sm_16 1 (nf 16 0) O_16_0:=jp ov_16_16_ok (os:=[]) trivial T_16_0 (fun R k a=>S_16_0 k a.1 a.2.1 a.2.2.1 a.2.2.2.1 a.2.2.2.2.1 a.2.2.2.2.2.1 a.2.2.2.2.2.2.1 a.2.2.2.2.2.2.2.1 a.2.2.2.2.2.2.2.2.1 a.2.2.2.2.2.2.2.2.2.1 a.2.2.2.2.2.2.2.2.2.2.1 a.2.2.2.2.2.2.2.2.2.2.2.1 a.2.2.2.2.2.2.2.2.2.2.2.2.1 a.2.2.2.2.2.2.2.2.2.2.2.2.2.1 a.2.2.2.2.2.2.2.2.2.2.2.2.2.2.1 a.2.2.2.2.2.2.2.2.2.2.2.2.2.2.2.1 a.2.2.2.2.2.2.2.2.2.2.2.2.2.2.2.2.1 a.2.2.2.2.2.2.2.2.2.2.2.2.2.2.2.2.2.1 a.2.2.2.2.2.2.2.2.2.2.2.2.2.2.2.2.2.2.1 a.2.2.2.2.2.2.2.2.2.2.2.2.2.2.2.2.2.2.2.1) Y_16_0 (fun k a=>by kernel_rfl) (fun Y a=>by
 unfold S_16_0
 repeat' first|apply gdN|apply condN|rfl) (ok0 _)
noncomputable def T_16_0_1:PS:=⟨99,[(5,.kc (.ptr 0 [])),(10,.kc (.ptr 1 [])),(11,.kc (.ptr 4 [])),(12,.kc (.ptr 7 [])),(15,.kc (.ptr 8 []))],[.mem (.hv Zy16_2),.mem (.pr (.hv (.int .i64)) (.pr (.hv (.int .i64)) (.pr (.hv (.int .i64)) (.pr (.pr (.hv (.int .i64)) (.pr (.hv (.int .i64)) (.pr (.hv (.arr 32 (.int .u8))) (.pr (.pr (.hv (.int .i64)) (.kc (.pair (.whole 2) (.pair (.whole 3) (.pure .unit PUnit.unit))))) (.kc (.pure .unit PUnit.unit)))))) (.kc (.pure .unit PUnit.unit)))))),.vec 23 (.arr 32 (.int .u8)),.vec 23 (.arr 32 (.int .u8)),.mem (.pr (.pr (.kc (.whole 5)) (.pr (.kc (.whole 6)) (.hv (.pair (.int .i64) .unit)))) (.hv Zy16_12)),.vec 42 (.int .u32),.vec 3 (.int .i64),.mem (.hv Zy16_8),.mem (.hv Zy16_5)],0⟩
inductive Sp.E_16_0_1 where
 |e0 (p0:Zt16_0) (p15:Zt16_1)
 |e1 (p15:Zt16_1)
 |e2 (p15:Zt16_1)
noncomputable def Sp.B_16_0_1{R:Type}(r:Option E_16_0_1)(k0:Zt16_0->Zt16_1->Option R)(k1 k2:Zt16_1->Option R):Option R:=match r with
 |none=>none
 |some (.e0 p0 p15)=>k0 p0 p15
 |some (.e1 p15)=>k1 p15
 |some (.e2 p15)=>k2 p15
noncomputable def Y_16_0_1{R:Type}(k:Ex->St->Option R):E_16_0_1->Option R
 | .e0 p0 p15=>k Ex.ret (sx 99 [(10,CV.ptr 0 []),(11,CV.ptr 1 []),(12,CV.ptr 2 []),(13,CV.int i64 0)] [Blk.mem (CV.pure (Ty.pair (Ty.int i64) (Ty.pair (Ty.int i64) (Ty.pair (Ty.int i64) (Ty.pair (Ty.pair (Ty.int i64) (Ty.pair (Ty.int i64) (Ty.pair (Ty.arr 32 (Ty.int u8)) (Ty.pair (Ty.pair (Ty.int i64) (Ty.pair (Ty.slice (Ty.arr 32 (Ty.int u8))) (Ty.pair (Ty.slice (Ty.arr 32 (Ty.int u8))) Ty.unit))) Ty.unit)))) Ty.unit)))) p0),Blk.mem (CV.pure (Ty.pair (Ty.pair (Ty.slice (Ty.int u32)) (Ty.pair (Ty.slice (Ty.int i64)) (Ty.pair (Ty.int i64) Ty.unit))) (Ty.pair (Ty.arr 32 (Ty.int u8)) Ty.unit)) ((p15.1):Zt16_9)),Blk.mem (CV.pure (Ty.pair (Ty.int i64) (Ty.pair (Ty.int u32) Ty.unit)) ((p15.2.1):Zt16_14))])
 | .e1 p15=>k Ex.ret (sx 99 [(10,CV.ptr 0 []),(11,CV.ptr 3 []),(12,CV.ptr 4 []),(13,CV.int i64 18)] [Blk.mem (CV.pair (CV.int i64 0) (CV.pair (CV.int i64 0) (CV.pair (CV.int i64 0) (CV.pair (CV.pair (CV.int i64 0) (CV.pair (CV.int i64 0) (CV.pair (CV.pure (Ty.arr 32 (Ty.int u8)) ((replicate 32 (0:Int)):(List Int))) (CV.pair (CV.pair (CV.int i64 0) (CV.pair (CV.whole 1) (CV.pair (CV.whole 2) (CV.pure Ty.unit PUnit.unit)))) (CV.pure Ty.unit PUnit.unit))))) (CV.pure Ty.unit PUnit.unit))))),Blk.vec 23 (Ty.arr 32 (Ty.int u8)) [],Blk.vec 23 (Ty.arr 32 (Ty.int u8)) [],Blk.mem (CV.pure (Ty.pair (Ty.pair (Ty.slice (Ty.int u32)) (Ty.pair (Ty.slice (Ty.int i64)) (Ty.pair (Ty.int i64) Ty.unit))) (Ty.pair (Ty.arr 32 (Ty.int u8)) Ty.unit)) ((p15.1):Zt16_9)),Blk.mem (CV.pure (Ty.pair (Ty.int i64) (Ty.pair (Ty.int u32) Ty.unit)) ((p15.2.1):Zt16_14))])
 | .e2 p15=>k Ex.ret (sx 99 [(10,CV.ptr 0 []),(11,CV.ptr 1 []),(12,CV.ptr 2 []),(13,CV.int i64 ((v_41 (p15.2.2.1)).2.2.2.1))] [Blk.mem (CV.pure (Ty.pair (Ty.int i64) (Ty.pair (Ty.int i64) (Ty.pair (Ty.int i64) (Ty.pair (Ty.pair (Ty.int i64) (Ty.pair (Ty.int i64) (Ty.pair (Ty.arr 32 (Ty.int u8)) (Ty.pair (Ty.pair (Ty.int i64) (Ty.pair (Ty.slice (Ty.arr 32 (Ty.int u8))) (Ty.pair (Ty.slice (Ty.arr 32 (Ty.int u8))) Ty.unit))) Ty.unit)))) Ty.unit)))) (((v_41 (p15.2.2.1)).1):Zt16_10)),Blk.mem (CV.pure (Ty.pair (Ty.pair (Ty.slice (Ty.int u32)) (Ty.pair (Ty.slice (Ty.int i64)) (Ty.pair (Ty.int i64) Ty.unit))) (Ty.pair (Ty.arr 32 (Ty.int u8)) Ty.unit)) (((v_41 (p15.2.2.1)).2.1):Zt16_9)),Blk.mem (CV.pure (Ty.pair (Ty.int i64) (Ty.pair (Ty.int u32) Ty.unit)) (((v_41 (p15.2.2.1)).2.2.1):Zt16_14))])
noncomputable def Sp.S_16_0_1{R:Type}(k:E_16_0_1->Option R)(p0:Int×Int×Int×(Int×Int×List Int×(Int×List (List Int)×List (List Int)×Unit)×Unit)×Unit)(p1 p2 p3 p4 p5:Int)(p6:List Int)(p7:Int)(p8 p9:List (List Int))(p10:Int×Unit)(p11:List Int×Unit)(p12 p13:List Int)(p14:Int×Int×Unit)(p15:((List Int×List Int×Int×Unit)×List Int×Unit)×(Int×Int×Unit)×Int×Unit):Option R:=
 bif p15.2.2.1==0 then k (E_16_0_1.e0 p0 p15)else bif p15.2.2.1==18 then k (E_16_0_1.e1 p15)else gd (p_41 (p15.2.2.1)) (k (E_16_0_1.e2 p15))
noncomputable def Sp.J_16_0_1(p0:Int×Int×Int×(Int×Int×List Int×(Int×List (List Int)×List (List Int)×Unit)×Unit)×Unit)(p1 p2 p3 p4 p5:Int)(p6:List Int)(p7:Int)(p8 p9:List (List Int))(p10:Int×Unit)(p11:List Int×Unit)(p12 p13:List Int)(p14:Int×Int×Unit)(p15:((List Int×List Int×Int×Unit)×List Int×Unit)×(Int×Int×Unit)×Int×Unit):Option E_16_0_1:=S_16_0_1 some p0 p1 p2 p3 p4 p5 p6 p7 p8 p9 p10 p11 p12 p13 p14 p15
noncomputable def O_16_0_1{R:Type}:Orc R:=orL T_16_0_1 (fun a=>J_16_0_1 a.1 a.2.1 a.2.2.1 a.2.2.2.1 a.2.2.2.2.1 a.2.2.2.2.2.1 a.2.2.2.2.2.2.1 a.2.2.2.2.2.2.2.1 a.2.2.2.2.2.2.2.2.1 a.2.2.2.2.2.2.2.2.2.1 a.2.2.2.2.2.2.2.2.2.2.1 a.2.2.2.2.2.2.2.2.2.2.2.1 a.2.2.2.2.2.2.2.2.2.2.2.2.1 a.2.2.2.2.2.2.2.2.2.2.2.2.2.1 a.2.2.2.2.2.2.2.2.2.2.2.2.2.2.1 a.2.2.2.2.2.2.2.2.2.2.2.2.2.2.2.1) Y_16_0_1 O_16_0
theorem OK_16_0_1{R:Type}:okF (R:=R) sm_16 1 (nf 16 0) O_16_0_1:=jp ov_16_16_ok (os:=[]) trivial T_16_0_1 (fun R k a=>S_16_0_1 k a.1 a.2.1 a.2.2.1 a.2.2.2.1 a.2.2.2.2.1 a.2.2.2.2.2.1 a.2.2.2.2.2.2.1 a.2.2.2.2.2.2.2.1 a.2.2.2.2.2.2.2.2.1 a.2.2.2.2.2.2.2.2.2.1 a.2.2.2.2.2.2.2.2.2.2.1 a.2.2.2.2.2.2.2.2.2.2.2.1 a.2.2.2.2.2.2.2.2.2.2.2.2.1 a.2.2.2.2.2.2.2.2.2.2.2.2.2.1 a.2.2.2.2.2.2.2.2.2.2.2.2.2.2.1 a.2.2.2.2.2.2.2.2.2.2.2.2.2.2.2.1) Y_16_0_1 (fun k a=>by kernel_rfl) (fun Y a=>by
 unfold S_16_0_1
 repeat' first|apply gdN|apply condN|rfl) OK_16_0
noncomputable def F_16(a0:(Int×(Int×(Int×((Int×(Int×((List Int)×((Int×((List (List Int))×((List (List Int))×Unit)))×Unit))))×Unit)))))(a1:(((List Int)×((List Int)×(Int×Unit)))×((List Int)×Unit)))(a2:Int)(a3:(List Int))(a4:(Int×(Int×Unit))):Option ((Int×(Int×(Int×((Int×(Int×((List Int)×((Int×((List (List Int))×((List (List Int))×Unit)))×Unit))))×Unit))))×(((List Int)×((List Int)×(Int×Unit)))×((List Int)×Unit))×(Int×(Int×Unit))×Int×Unit) :=
 gd (p_40 a0 a1 a4) (bif(v_40 a0 a1 a4).1 !=0 then gd (p_41 ((v_40 a0 a1 a4).1)) (some ((v_41 ((v_40 a0 a1 a4).1)).1,(v_41 ((v_40 a0 a1 a4).1)).2.1,(v_41 ((v_40 a0 a1 a4).1)).2.2.1,(v_41 ((v_40 a0 a1 a4).1)).2.2.2.1,PUnit.unit))else bif a0.1 !=1 then gd (p_41 6) (some ((v_41 6).1,(v_41 6).2.1,(v_41 6).2.2.1,(v_41 6).2.2.2.1,PUnit.unit))else bif a2 !=wrap i64 (Int.tdiv (a0.2.2.1) 32)then gd (p_41 15) (some ((v_41 15).1,(v_41 15).2.1,(v_41 15).2.2.1,(v_41 15).2.2.2.1,PUnit.unit))else bif(↑(length a3):Int)!=if wrap i64 (a0.2.2.2.1.2.1-a0.2.2.1)<32 then wrap i64 (a0.2.2.2.1.2.1-a0.2.2.1)else 32 then gd (p_41 3) (some ((v_41 3).1,(v_41 3).2.1,(v_41 3).2.2.1,(v_41 3).2.2.2.1,PUnit.unit))else gd (room (length (a1.1.1)) 4) (gd (room (length (a1.1.2.1)) 8) (gd (p_44 a1) (B_16_43_0_0 (L_16_43_0_0 4611686018427387904 (wrap i64 (wrap i64 (wrap i64 (a0.2.1*(v_44 a1).1)+564)+a0.2.2.1)) a3 (↑(length a3):Int) 0 a0 a1 a4 0 0 0 0 0 (replicate 32 (0:Int)) 0 (0,PUnit.unit) (replicate 32 (0:Int),PUnit.unit) (0,0,PUnit.unit) (a1.1.2.2.1,PUnit.unit) (a1.2) (a4,0,PUnit.unit) (a1.1.1) (a1.1.2.1)) (fun y72 y73 y74 y75 y76 y77 y78 y79 y80 y81 y82 y83 y84 y85 y86 y87 y88 y89=>bif wrap i64 (y72.2.2.1+(↑(length a3):Int))==y72.2.2.2.1.2.1 then B_16_0 (J_16_0 (2,y72.2.1,wrap i64 (y72.2.2.1+(↑(length a3):Int)),y72.2.2.2) y75 y76 y77 y78 y79 y80 y81 [] [] y82 y83 [] [] y84 y85 y86 y87 y88 y89) (fun y90 y91 y92 y93 y94 y95=>some (y90,((y94,y95,y91),y92),y93.1,0,PUnit.unit)) (fun y96 y97 y98 y99 y100=>some ((0,0,0,(0,0,replicate 32 (0:Int),(0,[],[],PUnit.unit),PUnit.unit),PUnit.unit),((y99,y100,y96),y97),y98.1,18,PUnit.unit)) fun y101=>some ((v_41 (y101.2.1)).1,(v_41 (y101.2.1)).2.1,(v_41 (y101.2.1)).2.2.1,(v_41 (y101.2.1)).2.2.2.1,PUnit.unit)else B_16_0 (J_16_0 (y72.1,y72.2.1,wrap i64 (y72.2.2.1+(↑(length a3):Int)),y72.2.2.2) y75 y76 y77 y78 y79 y80 y81 [] [] y82 y83 [] [] y84 y85 y86 y87 y88 y89) (fun y102 y103 y104 y105 y106 y107=>some (y102,((y106,y107,y103),y104),y105.1,0,PUnit.unit)) (fun y108 y109 y110 y111 y112=>some ((0,0,0,(0,0,replicate 32 (0:Int),(0,[],[],PUnit.unit),PUnit.unit),PUnit.unit),((y111,y112,y108),y109),y110.1,18,PUnit.unit)) fun y113=>some ((v_41 (y113.2.1)).1,(v_41 (y113.2.1)).2.1,(v_41 (y113.2.1)).2.2.1,(v_41 (y113.2.1)).2.2.2.1,PUnit.unit)) fun y114 y115 y116 y117 y118 y119 y120 y121 y122 y123 y124 y125 y126 y127 y128 y129=>bif wrap i64 (y114.2.2.1+(↑(length a3):Int))==y114.2.2.2.1.2.1 then B_16_0_1 (J_16_0_1 (2,y114.2.1,wrap i64 (y114.2.2.1+(↑(length a3):Int)),y114.2.2.2) y117 y118 y119 y120 y121 y122 y123 [] [] y124 y125 [] [] y126 y127) (fun y130 y131=>some (y130,y131.1,y131.2.1,0,PUnit.unit)) (fun y132=>some ((0,0,0,(0,0,replicate 32 (0:Int),(0,[],[],PUnit.unit),PUnit.unit),PUnit.unit),y132.1,y132.2.1,18,PUnit.unit)) fun y133=>some ((v_41 (y133.2.2.1)).1,(v_41 (y133.2.2.1)).2.1,(v_41 (y133.2.2.1)).2.2.1,(v_41 (y133.2.2.1)).2.2.2.1,PUnit.unit)else B_16_0_1 (J_16_0_1 (y114.1,y114.2.1,wrap i64 (y114.2.2.1+(↑(length a3):Int)),y114.2.2.2) y117 y118 y119 y120 y121 y122 y123 [] [] y124 y125 [] [] y126 y127) (fun y134 y135=>some (y134,y135.1,y135.2.1,0,PUnit.unit)) (fun y136=>some ((0,0,0,(0,0,replicate 32 (0:Int),(0,[],[],PUnit.unit),PUnit.unit),PUnit.unit),y136.1,y136.2.1,18,PUnit.unit)) fun y137=>some ((v_41 (y137.2.2.1)).1,(v_41 (y137.2.2.1)).2.1,(v_41 (y137.2.2.1)).2.2.1,(v_41 (y137.2.2.1)).2.2.2.1,PUnit.unit)))))
noncomputable def Sp.p_16(a0:(Int×(Int×(Int×((Int×(Int×((List Int)×((Int×((List (List Int))×((List (List Int))×Unit)))×Unit))))×Unit)))))(a1:(((List Int)×((List Int)×(Int×Unit)))×((List Int)×Unit)))(a2:Int)(a3:(List Int))(a4:(Int×(Int×Unit))):Bool:=(F_16 a0 a1 a2 a3 a4).isSome
noncomputable def Sp.v_16(a0:(Int×(Int×(Int×((Int×(Int×((List Int)×((Int×((List (List Int))×((List (List Int))×Unit)))×Unit))))×Unit)))))(a1:(((List Int)×((List Int)×(Int×Unit)))×((List Int)×Unit)))(a2:Int)(a3:(List Int))(a4:(Int×(Int×Unit))):(Int×(Int×(Int×((Int×(Int×((List Int)×((Int×((List (List Int))×((List (List Int))×Unit)))×Unit))))×Unit))))×(((List Int)×((List Int)×(Int×Unit)))×((List Int)×Unit))×(Int×(Int×Unit))×Int×Unit:=(F_16 a0 a1 a2 a3 a4).getD (dfH R_16)
noncomputable def s_16:Summ:=shS A_16 R_16 (fun x=>p_16 x.1 x.2.1 x.2.2.1 x.2.2.2.1 x.2.2.2.2.1) (fun x=>v_16 x.1 x.2.1 x.2.2.1 x.2.2.2.1 x.2.2.2.2.1)
theorem pv_16(a0:(Int×(Int×(Int×((Int×(Int×((List Int)×((Int×((List (List Int))×((List (List Int))×Unit)))×Unit))))×Unit)))))(a1:(((List Int)×((List Int)×(Int×Unit)))×((List Int)×Unit)))(a2:Int)(a3:(List Int))(a4:(Int×(Int×Unit))){y:(Int×(Int×(Int×((Int×(Int×((List Int)×((Int×((List (List Int))×((List (List Int))×Unit)))×Unit))))×Unit))))×(((List Int)×((List Int)×(Int×Unit)))×((List Int)×Unit))×(Int×(Int×Unit))×Int×Unit}(h:F_16 a0 a1 a2 a3 a4=some y):p_16 a0 a1 a2 a3 a4=true/\v_16 a0 a1 a2 a3 a4=y:=pvG h
theorem run_16(x:HDen A_16)(y:HDen R_16)(h:F_16 x.1 x.2.1 x.2.2.1 x.2.2.2.1 x.2.2.2.2.1=some y):rnF sm_16 2 16 A_16 R_16 x y:=runG ov_16_16_ok (os:=[O_16_0_1]) ⟨OK_16_0_1,trivial⟩ (Eq.trans (by kernel_rfl) h)
end
noncomputable section
abbrev A_80:List Ty:=[(.slice (.int .u8))]
abbrev R_80:List Ty:=[(.slice (.int .u8))]
noncomputable def sm_80:Nat->Option Summ:=smL []
noncomputable def T_80_0:PS:=⟨36,[(0,.hv (.slice (.int .u8))),(3,.kc (.whole 0))],[.vec 5 (.int .u8)],0⟩
inductive Sp.E_80_0 where
 |e0 (p0 p1:List Int)
noncomputable def Sp.B_80_0{R:Type}(r:Option E_80_0)(k0:List Int->List Int->Option R):Option R:=match r with
 |none=>none
 |some (.e0 p0 p1)=>k0 p0 p1
noncomputable def Y_80_0{R:Type}(k:Ex->St->Option R):E_80_0->Option R
 | .e0 p0 p1=>k (Ex.exit 0) (sx 36 [(0,CV.pure (Ty.slice (Ty.int u8)) p0),(3,CV.whole 0)] [Blk.vec 5 (Ty.int u8) p1])
noncomputable def Sp.S_80_0{R:Type}(K:List Int->List Int->Option R)(k:E_80_0->Option R)(p0 p1:List Int):Option R:=
 bif Int.tmod (↑(length p1):Int) (64:Int)!=(56:Int)then gd (room (length p1+1) 1) (K p0 (p1++[0]))else k (E_80_0.e0 p0 p1)
noncomputable def Sp.L_80_0:Nat->List Int->List Int->Option E_80_0
 |0,_,_=>none
 |m+1,p0,p1=>S_80_0 (L_80_0 m) some p0 p1
noncomputable def l_80_0(m:Nat)(a:T_80_0.E):Option E_80_0:=L_80_0 m a.1 a.2.1
noncomputable def O_80_0{R:Type}:Orc R:=orL T_80_0 (l_80_0 FU) Y_80_0
theorem OK_80_0{R:Type}:okF (R:=R) sm_80 0 (nf 80 0) O_80_0:=lp0 T_80_0 l_80_0 (fun R K k a=>S_80_0 (fun p0 p1=>K (p0,p1,())) k a.1 a.2.1) Y_80_0 (fun _ _ _=>by kernel_rfl) (fun _ _ _=>by
 unfold S_80_0
 repeat' first|apply gdN|apply condN|rfl) (ok0 _)
noncomputable def T_80_1:PS:=⟨36,[(3,.kc (.whole 0)),(4,.hv (.int .u64)),(5,.hv (.int .i64))],[.vec 5 (.int .u8)],0⟩
inductive Sp.E_80_1 where
 |e0 (p2:List Int)
noncomputable def Sp.B_80_1{R:Type}(r:Option E_80_1)(k0:List Int->Option R):Option R:=match r with
 |none=>none
 |some (.e0 p2)=>k0 p2
noncomputable def Y_80_1{R:Type}(k:Ex->St->Option R):E_80_1->Option R
 | .e0 p2=>k (Ex.exit 2) (sx 36 [(3,CV.whole 0)] [Blk.vec 5 (Ty.int u8) p2])
noncomputable def Sp.S_80_1{R:Type}(K:Int->Int->List Int->Option R)(k:E_80_1->Option R)(p0 p1:Int)(p2:List Int):Option R:=
 bif decide (p1>=0)then gd (decide (0<=wrap u64 p1)) (gd (room (length p2+1) 1) (K p0 (wrap i64 (p1-8)) (p2++[wrap u8 (Int.fdiv p0 (2^Nat.min (toNat (wrap u64 p1)) 64))])))else k (E_80_1.e0 p2)
noncomputable def Sp.L_80_1:Nat->Int->Int->List Int->Option E_80_1
 |0,_,_,_=>none
 |m+1,p0,p1,p2=>S_80_1 (L_80_1 m) some p0 p1 p2
noncomputable def l_80_1(m:Nat)(a:T_80_1.E):Option E_80_1:=L_80_1 m a.1 a.2.1 a.2.2.1
noncomputable def O_80_1{R:Type}:Orc R:=orL T_80_1 (l_80_1 FU) Y_80_1
theorem OK_80_1{R:Type}:okF (R:=R) sm_80 0 (nf 80 1) O_80_1:=lp0 T_80_1 l_80_1 (fun R K k a=>S_80_1 (fun p0 p1 p2=>K (p0,p1,p2,())) k a.1 a.2.1 a.2.2.1) Y_80_1 (fun _ _ _=>by kernel_rfl) (fun _ _ _=>by
 unfold S_80_1
 repeat' first|apply gdN|apply condN|rfl) (ok0 _)
noncomputable def F_80(a0:(List Int)):Option ((List Int)×Unit) :=
 gd (room (0+length a0) 1) (gd (room (length ([]++a0)+1) 1) (B_80_0 (L_80_0 4611686018427387904 a0 ([]++a0++[128])) fun y3 y4=>B_80_1 (L_80_1 4611686018427387904 (wrap u64 (wrap u64 (↑(length y3):Int)*8)) 56 y4) fun y5=>some (y5,PUnit.unit)))
noncomputable def Sp.p_80(a0:(List Int)):Bool:=(F_80 a0).isSome
noncomputable def Sp.v_80(a0:(List Int)):(List Int)×Unit:=(F_80 a0).getD (dfH R_80)
noncomputable def s_80:Summ:=shS A_80 R_80 (fun x=>p_80 x.1) (fun x=>v_80 x.1)
theorem pv_80(a0:(List Int)){y:(List Int)×Unit}(h:F_80 a0=some y):p_80 a0=true/\v_80 a0=y:=pvG h
theorem run_80(x:HDen A_80)(y:HDen R_80)(h:F_80 x.1=some y):rnF sm_80 1 80 A_80 R_80 x y:=runG noO_ok (os:=[O_80_0,O_80_1]) ⟨OK_80_0,OK_80_1,trivial⟩ (Eq.trans (by kernel_rfl) h)
end
noncomputable section
abbrev A_107:List Ty:=[(.int .u32),(.int .u64)]
abbrev R_107:List Ty:=[(.int .u32)]
noncomputable def sm_107:Nat->Option Summ:=smL []
noncomputable def F_107(a0 a1:Int):Option (Int×Unit) :=
 gd (decide (0<=a1)) (gd (decide (0<=wrap u64 (32-a1))) (some (Sp.orI u32 (Int.fdiv a0 (2^Nat.min (toNat a1) 32)) (wrap u32 (a0*2^Nat.min (toNat (wrap u64 (32-a1))) 32)),PUnit.unit)))
noncomputable def Sp.p_107(a0 a1:Int):Bool:=(F_107 a0 a1).isSome
noncomputable def Sp.v_107(a0 a1:Int):Int×Unit:=(F_107 a0 a1).getD (dfH R_107)
noncomputable def s_107:Summ:=shN A_107 R_107 (fun x=>p_107 x.1 x.2.1) (fun x=>v_107 x.1 x.2.1)
theorem pv_107(a0 a1:Int){y:Int×Unit}(h:F_107 a0 a1=some y):p_107 a0 a1=true/\v_107 a0 a1=y:=pvG h
theorem run_107(x:HDen A_107)(y:HDen R_107)(h:F_107 x.1 x.2.1=some y):rnF sm_107 1 107 A_107 R_107 x y:=runG noO_ok (os:=[]) trivial (Eq.trans (by kernel_rfl) h)
end
noncomputable section
abbrev A_108:List Ty:=[]
abbrev R_108:List Ty:=[(.arr 64 (.int .u32))]
noncomputable def sm_108:Nat->Option Summ:=smL []
noncomputable def F_108:Option ((List Int)×Unit) :=
 some ([1116352408,1899447441,3049323471,3921009573,961987163,1508970993,2453635748,2870763221,3624381080,310598401,607225278,1426881987,1925078388,2162078206,2614888103,3248222580,3835390401,4022224774,264347078,604807628,770255983,1249150122,1555081692,1996064986,2554220882,2821834349,2952996808,3210313671,3336571891,3584528711,113926993,338241895,666307205,773529912,1294757372,1396182291,1695183700,1986661051,2177026350,2456956037,2730485921,2820302411,3259730800,3345764771,3516065817,3600352804,4094571909,275423344,430227734,506948616,659060556,883997877,958139571,1322822218,1537002063,1747873779,1955562222,2024104815,2227730452,2361852424,2428436474,2756734187,3204031479,3329325298],PUnit.unit)
noncomputable def Sp.p_108:Bool:=(F_108).isSome
noncomputable def Sp.v_108:(List Int)×Unit:=(F_108).getD (dfH R_108)
noncomputable def s_108:Summ:=shN A_108 R_108 (fun x=>p_108) (fun x=>v_108)
theorem run_108(x:HDen A_108)(y:HDen R_108)(h:F_108=some y):rnF sm_108 1 108 A_108 R_108 x y:=runG noO_ok (os:=[]) trivial (Eq.trans (by kernel_rfl) h)
end
noncomputable section
abbrev A_81:List Ty:=[(.arr 8 (.int .u32)),(.slice (.int .u8))]
abbrev R_81:List Ty:=[(.arr 8 (.int .u32))]
noncomputable def sm_81:Nat->Option Summ:=smL [(107,s_107),(108,s_108)]
noncomputable def T_81_0:PS:=⟨196,[(1,.hv (.slice (.int .u8))),(2,.kc (.ptr 0 [])),(4,.kc (.ptr 1 [])),(5,.kc (.ptr 2 [])),(6,.hv (.int .i64))],[.mem (.hv (.arr 8 (.int .u32))),.mem (.hv (.arr 8 (.int .u32))),.mem (.hv (.arr 64 (.int .u32)))],0⟩
inductive Sp.E_81_0 where
 |e0 (p2 p3 p4:List Int)
noncomputable def Sp.B_81_0{R:Type}(r:Option E_81_0)(k0:List Int->List Int->List Int->Option R):Option R:=match r with
 |none=>none
 |some (.e0 p2 p3 p4)=>k0 p2 p3 p4
noncomputable def Y_81_0{R:Type}(k:Ex->St->Option R):E_81_0->Option R
 | .e0 p2 p3 p4=>k (Ex.exit 0) (sx 196 [(2,CV.ptr 0 []),(4,CV.ptr 1 []),(5,CV.ptr 2 [])] [Blk.mem (CV.pure (Ty.arr 8 (Ty.int u32)) p2),Blk.mem (CV.pure (Ty.arr 8 (Ty.int u32)) p3),Blk.mem (CV.pure (Ty.arr 64 (Ty.int u32)) p4)])
noncomputable def Sp.S_81_0{R:Type}(K:List Int->Int->List Int->List Int->List Int->Option R)(k:E_81_0->Option R)(p0:List Int)(p1:Int)(p2 p3 p4:List Int):Option R:=
 bif decide (p1<16)then gd (inB (wrap i64 (4*p1)) (length p0)) (gd (inB (wrap i64 (wrap i64 (4*p1)+1)) (length p0)) (gd (inB (wrap i64 (wrap i64 (4*p1)+2)) (length p0)) (gd (inB (wrap i64 (wrap i64 (4*p1)+3)) (length p0)) (gd (inB p1 64) (gd (decide (toNat p1<64)&&true) (K p0 (wrap i64 (p1+1)) p2 p3 (List.set p4 (toNat p1) (Sp.orI u32 (Sp.orI u32 (Sp.orI u32 (wrap u32 (wrap u32 (getD p0 (toNat (wrap i64 (4*p1))) 0)*16777216)) (wrap u32 (wrap u32 (getD p0 (toNat (wrap i64 (wrap i64 (4*p1)+1))) 0)*65536))) (wrap u32 (wrap u32 (getD p0 (toNat (wrap i64 (wrap i64 (4*p1)+2))) 0)*256))) (wrap u32 (getD p0 (toNat (wrap i64 (wrap i64 (4*p1)+3))) 0))))))))))else k (E_81_0.e0 p2 p3 p4)
noncomputable def Sp.L_81_0:Nat->List Int->Int->List Int->List Int->List Int->Option E_81_0
 |0,_,_,_,_,_=>none
 |m+1,p0,p1,p2,p3,p4=>S_81_0 (L_81_0 m) some p0 p1 p2 p3 p4
noncomputable def l_81_0(m:Nat)(a:T_81_0.E):Option E_81_0:=L_81_0 m a.1 a.2.1 a.2.2.1 a.2.2.2.1 a.2.2.2.2.1
noncomputable def O_81_0{R:Type}:Orc R:=orL T_81_0 (l_81_0 FU) Y_81_0
theorem OK_81_0{R:Type}:okF (R:=R) sm_81 0 (nf 81 0) O_81_0:=lp0 T_81_0 l_81_0 (fun R K k a=>S_81_0 (fun p0 p1 p2 p3 p4=>K (p0,p1,p2,p3,p4,())) k a.1 a.2.1 a.2.2.1 a.2.2.2.1 a.2.2.2.2.1) Y_81_0 (fun _ _ _=>by kernel_rfl) (fun _ _ _=>by
 unfold S_81_0
 repeat' first|apply gdN|apply condN|rfl) (ok0 _)
noncomputable def T_81_1:PS:=⟨196,[(2,.kc (.ptr 0 [])),(4,.kc (.ptr 1 [])),(5,.kc (.ptr 2 [])),(7,.hv (.int .i64))],[.mem (.hv (.arr 8 (.int .u32))),.mem (.hv (.arr 8 (.int .u32))),.mem (.hv (.arr 64 (.int .u32)))],0⟩
inductive Sp.E_81_1 where
 |e0 (p1 p2 p3:List Int)
noncomputable def Sp.B_81_1{R:Type}(r:Option E_81_1)(k0:List Int->List Int->List Int->Option R):Option R:=match r with
 |none=>none
 |some (.e0 p1 p2 p3)=>k0 p1 p2 p3
noncomputable def Y_81_1{R:Type}(k:Ex->St->Option R):E_81_1->Option R
 | .e0 p1 p2 p3=>k (Ex.exit 2) (sx 196 [(2,CV.ptr 0 []),(4,CV.ptr 1 []),(5,CV.ptr 2 [])] [Blk.mem (CV.pure (Ty.arr 8 (Ty.int u32)) p1),Blk.mem (CV.pure (Ty.arr 8 (Ty.int u32)) p2),Blk.mem (CV.pure (Ty.arr 64 (Ty.int u32)) p3)])
noncomputable def Sp.S_81_1{R:Type}(K:Int->List Int->List Int->List Int->Option R)(k:E_81_1->Option R)(p0:Int)(p1 p2 p3:List Int):Option R:=
 bif decide (p0<64)then gd (inB (wrap i64 (p0-15)) 64) (gd (decide (toNat (wrap i64 (p0-15))<64)&&true) (gd (inB (wrap i64 (p0-2)) 64) (gd (decide (toNat (wrap i64 (p0-2))<64)&&true) (gd (p_107 (getD p3 (toNat (wrap i64 (p0-2))) 0) 17) (gd (p_107 (getD p3 (toNat (wrap i64 (p0-2))) 0) 19) (gd (inB (wrap i64 (p0-7)) 64) (gd (decide (toNat (wrap i64 (p0-7))<64)&&true) (gd (p_107 (getD p3 (toNat (wrap i64 (p0-15))) 0) 7) (gd (p_107 (getD p3 (toNat (wrap i64 (p0-15))) 0) 18) (gd (inB (wrap i64 (p0-16)) 64) (gd (decide (toNat (wrap i64 (p0-16))<64)&&true) (gd (inB p0 64) (gd (decide (toNat p0<64)&&true) (K (wrap i64 (p0+1)) p1 p2 (List.set p3 (toNat p0) (wrap u32 (wrap u32 (wrap u32 (Sp.xorI u32 (Sp.xorI u32 ((v_107 (getD p3 (toNat (wrap i64 (p0-2))) 0) 17).1) ((v_107 (getD p3 (toNat (wrap i64 (p0-2))) 0) 19).1)) (Int.fdiv (getD p3 (toNat (wrap i64 (p0-2))) 0) 1024)+getD p3 (toNat (wrap i64 (p0-7))) 0)+Sp.xorI u32 (Sp.xorI u32 ((v_107 (getD p3 (toNat (wrap i64 (p0-15))) 0) 7).1) ((v_107 (getD p3 (toNat (wrap i64 (p0-15))) 0) 18).1)) (Int.fdiv (getD p3 (toNat (wrap i64 (p0-15))) 0) 8))+getD p3 (toNat (wrap i64 (p0-16))) 0)))))))))))))))))else k (E_81_1.e0 p1 p2 p3)
noncomputable def Sp.L_81_1:Nat->Int->List Int->List Int->List Int->Option E_81_1
 |0,_,_,_,_=>none
 |m+1,p0,p1,p2,p3=>S_81_1 (L_81_1 m) some p0 p1 p2 p3
noncomputable def l_81_1(m:Nat)(a:T_81_1.E):Option E_81_1:=L_81_1 m a.1 a.2.1 a.2.2.1 a.2.2.2.1
noncomputable def O_81_1{R:Type}:Orc R:=orL T_81_1 (l_81_1 FU) Y_81_1
theorem OK_81_1{R:Type}:okF (R:=R) sm_81 0 (nf 81 1) O_81_1:=lp0 T_81_1 l_81_1 (fun R K k a=>S_81_1 (fun p0 p1 p2 p3=>K (p0,p1,p2,p3,())) k a.1 a.2.1 a.2.2.1 a.2.2.2.1) Y_81_1 (fun _ _ _=>by kernel_rfl) (fun _ _ _=>by
 unfold S_81_1
 repeat' first|apply gdN|apply condN|rfl) (ok0 _)
noncomputable def T_81_2:PS:=⟨196,[(2,.kc (.ptr 0 [])),(4,.kc (.ptr 1 [])),(5,.kc (.ptr 2 [])),(10,.kc (.ptr 3 [])),(11,.kc (.ptr 4 [])),(12,.hv (.int .i64))],[.mem (.hv (.arr 8 (.int .u32))),.mem (.hv (.arr 8 (.int .u32))),.mem (.hv (.arr 64 (.int .u32))),.mem (.hv (.arr 64 (.int .u32))),.mem (.hv (.arr 8 (.int .u32)))],0⟩
inductive Sp.E_81_2 where
 |e0 (p1 p2 p5:List Int)
noncomputable def Sp.B_81_2{R:Type}(r:Option E_81_2)(k0:List Int->List Int->List Int->Option R):Option R:=match r with
 |none=>none
 |some (.e0 p1 p2 p5)=>k0 p1 p2 p5
noncomputable def Y_81_2{R:Type}(k:Ex->St->Option R):E_81_2->Option R
 | .e0 p1 p2 p5=>k (Ex.exit 4) (sx 196 [(2,CV.ptr 0 []),(4,CV.ptr 1 []),(11,CV.ptr 2 [])] [Blk.mem (CV.pure (Ty.arr 8 (Ty.int u32)) p1),Blk.mem (CV.pure (Ty.arr 8 (Ty.int u32)) p2),Blk.mem (CV.pure (Ty.arr 8 (Ty.int u32)) p5)])
noncomputable def Sp.S_81_2{R:Type}(K:Int->List Int->List Int->List Int->List Int->List Int->Option R)(k:E_81_2->Option R)(p0:Int)(p1 p2 p3 p4 p5:List Int):Option R:=
 bif decide (p0<64)then gd (p_107 (getD p5 4 0) 6) (gd (p_107 (getD p5 4 0) 11) (gd (p_107 (getD p5 4 0) 25) (gd (inB p0 64) (gd (decide (toNat p0<64)&&true) (gd (inB p0 64) (gd (decide (toNat p0<64)&&true) (gd (p_107 (getD p5 0 0) 2) (gd (p_107 (getD p5 0 0) 13) (gd (p_107 (getD p5 0 0) 22) (K (wrap i64 (p0+1)) p1 p2 p3 p4 [wrap u32 (wrap u32 (wrap u32 (wrap u32 (wrap u32 (getD p5 7 0+Sp.xorI u32 (Sp.xorI u32 ((v_107 (getD p5 4 0) 6).1) ((v_107 (getD p5 4 0) 11).1)) ((v_107 (getD p5 4 0) 25).1))+Sp.xorI u32 (Sp.andI u32 (getD p5 4 0) (getD p5 5 0)) (Sp.andI u32 (Sp.xorI u32 4294967295 (getD p5 4 0)) (getD p5 6 0)))+getD p4 (toNat p0) 0)+getD p3 (toNat p0) 0)+wrap u32 (Sp.xorI u32 (Sp.xorI u32 ((v_107 (getD p5 0 0) 2).1) ((v_107 (getD p5 0 0) 13).1)) ((v_107 (getD p5 0 0) 22).1)+Sp.xorI u32 (Sp.xorI u32 (Sp.andI u32 (getD p5 0 0) (getD p5 1 0)) (Sp.andI u32 (getD p5 0 0) (getD p5 2 0))) (Sp.andI u32 (getD p5 1 0) (getD p5 2 0)))),getD p5 0 0,getD p5 1 0,getD p5 2 0,wrap u32 (getD p5 3 0+wrap u32 (wrap u32 (wrap u32 (wrap u32 (getD p5 7 0+Sp.xorI u32 (Sp.xorI u32 ((v_107 (getD p5 4 0) 6).1) ((v_107 (getD p5 4 0) 11).1)) ((v_107 (getD p5 4 0) 25).1))+Sp.xorI u32 (Sp.andI u32 (getD p5 4 0) (getD p5 5 0)) (Sp.andI u32 (Sp.xorI u32 4294967295 (getD p5 4 0)) (getD p5 6 0)))+getD p4 (toNat p0) 0)+getD p3 (toNat p0) 0)),getD p5 4 0,getD p5 5 0,getD p5 6 0]))))))))))else k (E_81_2.e0 p1 p2 p5)
noncomputable def Sp.L_81_2:Nat->Int->List Int->List Int->List Int->List Int->List Int->Option E_81_2
 |0,_,_,_,_,_,_=>none
 |m+1,p0,p1,p2,p3,p4,p5=>S_81_2 (L_81_2 m) some p0 p1 p2 p3 p4 p5
noncomputable def l_81_2(m:Nat)(a:T_81_2.E):Option E_81_2:=L_81_2 m a.1 a.2.1 a.2.2.1 a.2.2.2.1 a.2.2.2.2.1 a.2.2.2.2.2.1
noncomputable def O_81_2{R:Type}:Orc R:=orL T_81_2 (l_81_2 FU) Y_81_2
theorem OK_81_2{R:Type}:okF (R:=R) sm_81 0 (nf 81 2) O_81_2:=lp0 T_81_2 l_81_2 (fun R K k a=>S_81_2 (fun p0 p1 p2 p3 p4 p5=>K (p0,p1,p2,p3,p4,p5,())) k a.1 a.2.1 a.2.2.1 a.2.2.2.1 a.2.2.2.2.1 a.2.2.2.2.2.1) Y_81_2 (fun _ _ _=>by kernel_rfl) (fun _ _ _=>by
 unfold S_81_2
 repeat' first|apply gdN|apply condN|rfl) (ok0 _)
noncomputable def T_81_3:PS:=⟨196,[(2,.kc (.ptr 0 [])),(4,.kc (.ptr 1 [])),(11,.kc (.ptr 2 [])),(21,.hv (.int .i64))],[.mem (.hv (.arr 8 (.int .u32))),.mem (.hv (.arr 8 (.int .u32))),.mem (.hv (.arr 8 (.int .u32)))],0⟩
inductive Sp.E_81_3 where
 |e0 (p1 p2:List Int)
noncomputable def Sp.B_81_3{R:Type}(r:Option E_81_3)(k0:List Int->List Int->Option R):Option R:=match r with
 |none=>none
 |some (.e0 p1 p2)=>k0 p1 p2
noncomputable def Y_81_3{R:Type}(k:Ex->St->Option R):E_81_3->Option R
 | .e0 p1 p2=>k (Ex.exit 6) (sx 196 [(2,CV.ptr 0 []),(4,CV.ptr 1 [])] [Blk.mem (CV.pure (Ty.arr 8 (Ty.int u32)) p1),Blk.mem (CV.pure (Ty.arr 8 (Ty.int u32)) p2)])
noncomputable def Sp.S_81_3{R:Type}(K:Int->List Int->List Int->List Int->Option R)(k:E_81_3->Option R)(p0:Int)(p1 p2 p3:List Int):Option R:=
 bif decide (p0<8)then gd (inB p0 8) (gd (decide (toNat p0<8)&&true) (gd (inB p0 8) (gd (decide (toNat p0<8)&&true) (gd (inB p0 8) (gd (decide (toNat p0<8)&&true) (K (wrap i64 (p0+1)) (List.set p1 (toNat p0) (wrap u32 (getD p1 (toNat p0) 0+getD p3 (toNat p0) 0))) p2 p3))))))else k (E_81_3.e0 p1 p2)
noncomputable def Sp.L_81_3:Nat->Int->List Int->List Int->List Int->Option E_81_3
 |0,_,_,_,_=>none
 |m+1,p0,p1,p2,p3=>S_81_3 (L_81_3 m) some p0 p1 p2 p3
noncomputable def l_81_3(m:Nat)(a:T_81_3.E):Option E_81_3:=L_81_3 m a.1 a.2.1 a.2.2.1 a.2.2.2.1
noncomputable def O_81_3{R:Type}:Orc R:=orL T_81_3 (l_81_3 FU) Y_81_3
theorem OK_81_3{R:Type}:okF (R:=R) sm_81 0 (nf 81 3) O_81_3:=lp0 T_81_3 l_81_3 (fun R K k a=>S_81_3 (fun p0 p1 p2 p3=>K (p0,p1,p2,p3,())) k a.1 a.2.1 a.2.2.1 a.2.2.2.1) Y_81_3 (fun _ _ _=>by kernel_rfl) (fun _ _ _=>by
 unfold S_81_3
 repeat' first|apply gdN|apply condN|rfl) (ok0 _)
noncomputable def F_81(a0 a1:(List Int)):Option ((List Int)×Unit) :=
 B_81_0 (L_81_0 4611686018427387904 a1 0 a0 (replicate 8 (0:Int)) (replicate 64 (0:Int))) fun y11 y12 y13=>B_81_1 (L_81_1 4611686018427387904 16 y11 y12 y13) fun y14 y15 y16=>gd p_108 (B_81_2 (L_81_2 4611686018427387904 0 y14 y15 y16 (v_108.1) y14) fun y17 y18 y19=>B_81_3 (L_81_3 4611686018427387904 0 y17 y18 y19) fun y20 y21=>some (y20,PUnit.unit))
noncomputable def Sp.p_81(a0 a1:(List Int)):Bool:=(F_81 a0 a1).isSome
noncomputable def Sp.v_81(a0 a1:(List Int)):(List Int)×Unit:=(F_81 a0 a1).getD (dfH R_81)
noncomputable def s_81:Summ:=shN A_81 R_81 (fun x=>p_81 x.1 x.2.1) (fun x=>v_81 x.1 x.2.1)
theorem pv_81(a0 a1:(List Int)){y:(List Int)×Unit}(h:F_81 a0 a1=some y):p_81 a0 a1=true/\v_81 a0 a1=y:=pvG h
theorem run_81(x:HDen A_81)(y:HDen R_81)(h:F_81 x.1 x.2.1=some y):rnF sm_81 1 81 A_81 R_81 x y:=runG noO_ok (os:=[O_81_0,O_81_1,O_81_2,O_81_3]) ⟨OK_81_0,OK_81_1,OK_81_2,OK_81_3,trivial⟩ (Eq.trans (by kernel_rfl) h)
end
noncomputable section
abbrev A_53:List Ty:=[(.slice (.int .u8))]
abbrev R_53:List Ty:=[(.arr 32 (.int .u8))]
noncomputable def sm_53:Nat->Option Summ:=smL [(80,s_80),(81,s_81)]
noncomputable def T_53_0:PS:=⟨42,[(2,.kc (.ptr 0 [])),(3,.kc (.ptr 1 [])),(4,.hv (.slice (.int .u8))),(5,.hv (.int .i64))],[.mem (.hv (.arr 32 (.int .u8))),.mem (.hv (.arr 8 (.int .u32)))],0⟩
inductive Sp.E_53_0 where
 |e0 (p2 p3:List Int)
noncomputable def Sp.B_53_0{R:Type}(r:Option E_53_0)(k0:List Int->List Int->Option R):Option R:=match r with
 |none=>none
 |some (.e0 p2 p3)=>k0 p2 p3
noncomputable def Y_53_0{R:Type}(k:Ex->St->Option R):E_53_0->Option R
 | .e0 p2 p3=>k (Ex.exit 0) (sx 42 [(2,CV.ptr 0 []),(3,CV.ptr 1 [])] [Blk.mem (CV.pure (Ty.arr 32 (Ty.int u8)) p2),Blk.mem (CV.pure (Ty.arr 8 (Ty.int u32)) p3)])
noncomputable def Sp.S_53_0{R:Type}(K:List Int->Int->List Int->List Int->Option R)(k:E_53_0->Option R)(p0:List Int)(p1:Int)(p2 p3:List Int):Option R:=
 bif decide (p1<(↑(length p0):Int))then gd (sl3 p1 (wrap i64 (p1+64)) (↑(length p0):Int)) (gd (p_81 p3 (take (toNat (wrap i64 (p1+64))-toNat p1) (drop (toNat p1) p0))) (K p0 (wrap i64 (p1+64)) p2 ((v_81 p3 (take (toNat (wrap i64 (p1+64))-toNat p1) (drop (toNat p1) p0))).1)))else k (E_53_0.e0 p2 p3)
noncomputable def Sp.L_53_0:Nat->List Int->Int->List Int->List Int->Option E_53_0
 |0,_,_,_,_=>none
 |m+1,p0,p1,p2,p3=>S_53_0 (L_53_0 m) some p0 p1 p2 p3
noncomputable def l_53_0(m:Nat)(a:T_53_0.E):Option E_53_0:=L_53_0 m a.1 a.2.1 a.2.2.1 a.2.2.2.1
noncomputable def O_53_0{R:Type}:Orc R:=orL T_53_0 (l_53_0 FU) Y_53_0
theorem OK_53_0{R:Type}:okF (R:=R) sm_53 0 (nf 53 0) O_53_0:=lp0 T_53_0 l_53_0 (fun R K k a=>S_53_0 (fun p0 p1 p2 p3=>K (p0,p1,p2,p3,())) k a.1 a.2.1 a.2.2.1 a.2.2.2.1) Y_53_0 (fun _ _ _=>by kernel_rfl) (fun _ _ _=>by
 unfold S_53_0
 repeat' first|apply gdN|apply condN|rfl) (ok0 _)
noncomputable def T_53_1:PS:=⟨42,[(2,.kc (.ptr 0 [])),(3,.kc (.ptr 1 [])),(6,.kc (.ptr 2 [])),(7,.hv (.int .i64))],[.mem (.hv (.arr 32 (.int .u8))),.mem (.hv (.arr 8 (.int .u32))),.mem (.hv (.arr 32 (.int .u8)))],0⟩
inductive Sp.E_53_1 where
 |e0 (p1 p3:List Int)
noncomputable def Sp.B_53_1{R:Type}(r:Option E_53_1)(k0:List Int->List Int->Option R):Option R:=match r with
 |none=>none
 |some (.e0 p1 p3)=>k0 p1 p3
noncomputable def Y_53_1{R:Type}(k:Ex->St->Option R):E_53_1->Option R
 | .e0 p1 p3=>k (Ex.exit 2) (sx 42 [(2,CV.ptr 0 []),(6,CV.ptr 1 [])] [Blk.mem (CV.pure (Ty.arr 32 (Ty.int u8)) p1),Blk.mem (CV.pure (Ty.arr 32 (Ty.int u8)) p3)])
noncomputable def Sp.S_53_1{R:Type}(K:Int->List Int->List Int->List Int->Option R)(k:E_53_1->Option R)(p0:Int)(p1 p2 p3:List Int):Option R:=
 bif decide (p0<32)then gd (inB (wrap i64 (Int.tdiv p0 4)) 8) (gd (decide (toNat (wrap i64 (Int.tdiv p0 4))<8)&&true) (gd (decide (0<=wrap u64 (wrap i64 (24-wrap i64 (Int.tmod p0 (4:Int)*(8:Int)))))) (gd (inB p0 32) (gd (decide (toNat p0<32)&&true) (K (wrap i64 (p0+1)) p1 p2 (List.set p3 (toNat p0) (wrap u8 (Int.fdiv (getD p2 (toNat (wrap i64 (Int.tdiv p0 4))) 0) (2^Nat.min (toNat (wrap u64 (wrap i64 (24-wrap i64 (Int.tmod p0 (4:Int)*(8:Int)))))) 32)))))))))else k (E_53_1.e0 p1 p3)
noncomputable def Sp.L_53_1:Nat->Int->List Int->List Int->List Int->Option E_53_1
 |0,_,_,_,_=>none
 |m+1,p0,p1,p2,p3=>S_53_1 (L_53_1 m) some p0 p1 p2 p3
noncomputable def l_53_1(m:Nat)(a:T_53_1.E):Option E_53_1:=L_53_1 m a.1 a.2.1 a.2.2.1 a.2.2.2.1
noncomputable def O_53_1{R:Type}:Orc R:=orL T_53_1 (l_53_1 FU) Y_53_1
theorem OK_53_1{R:Type}:okF (R:=R) sm_53 0 (nf 53 1) O_53_1:=lp0 T_53_1 l_53_1 (fun R K k a=>S_53_1 (fun p0 p1 p2 p3=>K (p0,p1,p2,p3,())) k a.1 a.2.1 a.2.2.1 a.2.2.2.1) Y_53_1 (fun _ _ _=>by kernel_rfl) (fun _ _ _=>by
 unfold S_53_1
 repeat' first|apply gdN|apply condN|rfl) (ok0 _)
noncomputable def F_53(a0:(List Int)):Option ((List Int)×Unit) :=
 gd (p_80 a0) (B_53_0 (L_53_0 4611686018427387904 ((v_80 a0).1) 0 (replicate 32 (0:Int)) [1779033703,3144134277,1013904242,2773480762,1359893119,2600822924,528734635,1541459225]) fun y4 y5=>B_53_1 (L_53_1 4611686018427387904 0 y4 y5 (replicate 32 (0:Int))) fun y6 y7=>some (y7,PUnit.unit))
noncomputable def Sp.p_53(a0:(List Int)):Bool:=(F_53 a0).isSome
noncomputable def Sp.v_53(a0:(List Int)):(List Int)×Unit:=(F_53 a0).getD (dfH R_53)
noncomputable def s_53:Summ:=shN A_53 R_53 (fun x=>p_53 x.1) (fun x=>v_53 x.1)
theorem pv_53(a0:(List Int)){y:(List Int)×Unit}(h:F_53 a0=some y):p_53 a0=true/\v_53 a0=y:=pvG h
theorem run_53(x:HDen A_53)(y:HDen R_53)(h:F_53 x.1=some y):rnF sm_53 1 53 A_53 R_53 x y:=runG noO_ok (os:=[O_53_0,O_53_1]) ⟨OK_53_0,OK_53_1,trivial⟩ (Eq.trans (by kernel_rfl) h)
end
noncomputable section
abbrev A_23:List Ty:=[(.int .i64),(.slice (.int .u32))]
abbrev R_23:List Ty:=[(.arr 32 (.int .u8))]
noncomputable def sm_23:Nat->Option Summ:=smL [(53,s_53)]
noncomputable def T_23_52_1_0:PS:=⟨30,[(0,.kc (.whole 2)),(1,.kc (.whole 1)),(5,.hv (.int .i64)),(6,.hv (.int .i64))],[.mem (.hv (.arr 32 (.int .u8))),.vec 42 (.int .u32),.vec 5 (.int .u8)],2⟩
inductive Sp.E_23_52_1_0 where
 |e0 (p0:Int) (p2 p3 p4:List Int)
noncomputable def Sp.B_23_52_1_0{R:Type}(r:Option E_23_52_1_0)(k0:Int->List Int->List Int->List Int->Option R):Option R:=match r with
 |none=>none
 |some (.e0 p0 p2 p3 p4)=>k0 p0 p2 p3 p4
theorem Bn_23_52_1_0{A R:Type}{r:Option E_23_52_1_0}{f:A->Option R}{k0:Int->List Int->List Int->List Int->Option A}{l0:Int->List Int->List Int->List Int->Option R}(h0:∀p0 p2 p3 p4,(k0 p0 p2 p3 p4).bind f=l0 p0 p2 p3 p4):(B_23_52_1_0 r k0).bind f=B_23_52_1_0 r l0:=by
 cases r with
 |none=>rfl
 |some e=>cases e<;>first|apply h0
noncomputable def Y_23_52_1_0{R:Type}(k:Ex->St->Option R):E_23_52_1_0->Option R
 | .e0 p0 p2 p3 p4=>k (Ex.exit 2) (sx 30 [(0,CV.whole 2),(1,CV.whole 1),(5,CV.int i64 p0)] [Blk.mem (CV.pure (Ty.arr 32 (Ty.int u8)) p2),Blk.vec 42 (Ty.int u32) p3,Blk.vec 5 (Ty.int u8) p4] 2)
noncomputable def Sp.S_23_52_1_0{R:Type}(K:Int->Int->List Int->List Int->List Int->Option R)(k:E_23_52_1_0->Option R)(p0 p1:Int)(p2 p3 p4:List Int):Option R:=
 bif decide (p1<4)then gd (inB p0 (length p3)) (gd (decide (toNat p0<length p3)&&true) (gd (decide (0<=wrap i64 (24-wrap i64 (8*p1)))) (gd (room (length p4+1) 1) (K p0 (wrap i64 (p1+1)) p2 p3 (p4++[wrap u8 (Int.fdiv (getD p3 (toNat p0) 0) (2^Nat.min (toNat (wrap i64 (24-wrap i64 (8*p1)))) 32))])))))else k (E_23_52_1_0.e0 p0 p2 p3 p4)
noncomputable def Sp.L_23_52_1_0:Nat->Int->Int->List Int->List Int->List Int->Option E_23_52_1_0
 |0,_,_,_,_,_=>none
 |m+1,p0,p1,p2,p3,p4=>S_23_52_1_0 (L_23_52_1_0 m) some p0 p1 p2 p3 p4
noncomputable def l_23_52_1_0(m:Nat)(a:T_23_52_1_0.E):Option E_23_52_1_0:=L_23_52_1_0 m a.1 a.2.1 a.2.2.1 a.2.2.2.1 a.2.2.2.2.1
noncomputable def O_23_52_1_0{R:Type}:Orc R:=orL T_23_52_1_0 (l_23_52_1_0 FU) Y_23_52_1_0
theorem OK_23_52_1_0{R:Type}:okF (R:=R) sm_23 0 (ni (nf 52 0) 0) O_23_52_1_0:=lp0 T_23_52_1_0 l_23_52_1_0 (fun R K k a=>S_23_52_1_0 (fun p0 p1 p2 p3 p4=>K (p0,p1,p2,p3,p4,())) k a.1 a.2.1 a.2.2.1 a.2.2.2.1 a.2.2.2.2.1) Y_23_52_1_0 (fun _ _ _=>by kernel_rfl) (fun _ _ _=>by
 unfold S_23_52_1_0
 repeat' first|apply gdN|apply condN|rfl) (ok0 _)
noncomputable def T_23_52_1_2:PS:=⟨30,[(0,.kc (.whole 3)),(1,.hv (.slice (.int .u32))),(5,.hv (.int .i64)),(6,.hv (.int .i64))],[.mem (.hv (.arr 32 (.int .u8))),.vec 42 (.int .u32),.dead,.vec 5 (.int .u8)],3⟩
inductive Sp.E_23_52_1_2 where
 |e0 (p0:List Int) (p1:Int) (p3 p4 p5:List Int)
noncomputable def Sp.B_23_52_1_2{R:Type}(r:Option E_23_52_1_2)(k0:List Int->Int->List Int->List Int->List Int->Option R):Option R:=match r with
 |none=>none
 |some (.e0 p0 p1 p3 p4 p5)=>k0 p0 p1 p3 p4 p5
theorem Bn_23_52_1_2{A R:Type}{r:Option E_23_52_1_2}{f:A->Option R}{k0:List Int->Int->List Int->List Int->List Int->Option A}{l0:List Int->Int->List Int->List Int->List Int->Option R}(h0:∀p0 p1 p3 p4 p5,(k0 p0 p1 p3 p4 p5).bind f=l0 p0 p1 p3 p4 p5):(B_23_52_1_2 r k0).bind f=B_23_52_1_2 r l0:=by
 cases r with
 |none=>rfl
 |some e=>cases e<;>first|apply h0
noncomputable def Y_23_52_1_2{R:Type}(k:Ex->St->Option R):E_23_52_1_2->Option R
 | .e0 p0 p1 p3 p4 p5=>k (Ex.exit 2) (sx 30 [(0,CV.whole 3),(1,CV.pure (Ty.slice (Ty.int u32)) p0),(5,CV.int i64 p1)] [Blk.mem (CV.pure (Ty.arr 32 (Ty.int u8)) p3),Blk.vec 42 (Ty.int u32) p4,Blk.dead,Blk.vec 5 (Ty.int u8) p5] 3)
noncomputable def Sp.S_23_52_1_2{R:Type}(K:List Int->Int->Int->List Int->List Int->List Int->Option R)(k:E_23_52_1_2->Option R)(p0:List Int)(p1 p2:Int)(p3 p4 p5:List Int):Option R:=
 bif decide (p2<4)then gd (inB p1 (length p0)) (gd (decide (0<=wrap i64 (24-wrap i64 (8*p2)))) (gd (room (length p5+1) 1) (K p0 p1 (wrap i64 (p2+1)) p3 p4 (p5++[wrap u8 (Int.fdiv (getD p0 (toNat p1) 0) (2^Nat.min (toNat (wrap i64 (24-wrap i64 (8*p2)))) 32))]))))else k (E_23_52_1_2.e0 p0 p1 p3 p4 p5)
noncomputable def Sp.L_23_52_1_2:Nat->List Int->Int->Int->List Int->List Int->List Int->Option E_23_52_1_2
 |0,_,_,_,_,_,_=>none
 |m+1,p0,p1,p2,p3,p4,p5=>S_23_52_1_2 (L_23_52_1_2 m) some p0 p1 p2 p3 p4 p5
noncomputable def l_23_52_1_2(m:Nat)(a:T_23_52_1_2.E):Option E_23_52_1_2:=L_23_52_1_2 m a.1 a.2.1 a.2.2.1 a.2.2.2.1 a.2.2.2.2.1 a.2.2.2.2.2.1
noncomputable def O_23_52_1_2{R:Type}:Orc R:=orL T_23_52_1_2 (l_23_52_1_2 FU) Y_23_52_1_2 O_23_52_1_0
theorem loop_23_52_1_2{R:Type}(k:Ex->St->Option R):∀m a,evLoopN (evCodeL sm_23 FU (ovr noO (evFn sm_23 fns FU 0)) (mkT (inner (ni (nf 52 0) 0)) []) (inner (ni (nf 52 0) 0))) (St.norm (lv (ni (nf 52 0) 0))) m (T_23_52_1_2.inst a) k=(l_23_52_1_2 m a).bind (Y_23_52_1_2 k):=lpN l_23_52_1_2 (fun R K k a=>S_23_52_1_2 (fun p0 p1 p2 p3 p4 p5=>K (p0,p1,p2,p3,p4,p5,())) k a.1 a.2.1 a.2.2.1 a.2.2.2.1 a.2.2.2.2.1 a.2.2.2.2.2.1) (fun _=>rfl) (fun _ _=>rfl) (fun K a=>by kernel_rfl) (fun K a=>by
 unfold S_23_52_1_2
 repeat' first|apply gdN|apply condN|rfl)
theorem OK_23_52_1_2{R:Type}:okF (R:=R) sm_23 0 (ni (nf 52 0) 0) O_23_52_1_2:=lp0 T_23_52_1_2 l_23_52_1_2 (fun R K k a=>S_23_52_1_2 (fun p0 p1 p2 p3 p4 p5=>K (p0,p1,p2,p3,p4,p5,())) k a.1 a.2.1 a.2.2.1 a.2.2.2.1 a.2.2.2.2.1 a.2.2.2.2.2.1) Y_23_52_1_2 (fun _ _ _=>by kernel_rfl) (fun _ _ _=>by
 unfold S_23_52_1_2
 repeat' first|apply gdN|apply condN|rfl) OK_23_52_1_0
noncomputable def T_23_52_1_1:PS:=⟨30,[(0,.kc (.whole 2)),(1,.hv (.slice (.int .u32))),(5,.hv (.int .i64)),(6,.hv (.int .i64))],[.mem (.hv (.arr 32 (.int .u8))),.vec 42 (.int .u32),.vec 5 (.int .u8)],3⟩
inductive Sp.E_23_52_1_1 where
 |e0 (p0:List Int) (p1:Int) (p3 p4 p5:List Int)
 |e1 (p0:List Int) (p1:Int) (p3 p4 p5:List Int)
noncomputable def Sp.B_23_52_1_1{R:Type}(r:Option E_23_52_1_1)(k0 k1:List Int->Int->List Int->List Int->List Int->Option R):Option R:=match r with
 |none=>none
 |some (.e0 p0 p1 p3 p4 p5)=>k0 p0 p1 p3 p4 p5
 |some (.e1 p0 p1 p3 p4 p5)=>k1 p0 p1 p3 p4 p5
theorem Bn_23_52_1_1{A R:Type}{r:Option E_23_52_1_1}{f:A->Option R}{k0:List Int->Int->List Int->List Int->List Int->Option A}{k1:List Int->Int->List Int->List Int->List Int->Option A}{l0:List Int->Int->List Int->List Int->List Int->Option R}{l1:List Int->Int->List Int->List Int->List Int->Option R}(h0:∀p0 p1 p3 p4 p5,(k0 p0 p1 p3 p4 p5).bind f=l0 p0 p1 p3 p4 p5)(h1:∀p0 p1 p3 p4 p5,(k1 p0 p1 p3 p4 p5).bind f=l1 p0 p1 p3 p4 p5):(B_23_52_1_1 r k0 k1).bind f=B_23_52_1_1 r l0 l1:=by
 cases r with
 |none=>rfl
 |some e=>cases e<;>first|apply h0|apply h1
noncomputable def Y_23_52_1_1{R:Type}(k:Ex->St->Option R):E_23_52_1_1->Option R
 | .e0 p0 p1 p3 p4 p5=>k (Ex.exit 2) (sx 30 [(0,CV.whole 2),(1,CV.pure (Ty.slice (Ty.int u32)) p0),(5,CV.int i64 p1)] [Blk.mem (CV.pure (Ty.arr 32 (Ty.int u8)) p3),Blk.vec 42 (Ty.int u32) p4,Blk.vec 5 (Ty.int u8) p5] 3)
 | .e1 p0 p1 p3 p4 p5=>k (Ex.exit 2) (sx 30 [(0,CV.whole 3),(1,CV.pure (Ty.slice (Ty.int u32)) p0),(5,CV.int i64 p1)] [Blk.mem (CV.pure (Ty.arr 32 (Ty.int u8)) p3),Blk.vec 42 (Ty.int u32) p4,Blk.dead,Blk.vec 5 (Ty.int u8) p5] 3)
noncomputable def Sp.S_23_52_1_1{R:Type}(K KB:List Int->Int->Int->List Int->List Int->List Int->Option R)(k:E_23_52_1_1->Option R)(p0:List Int)(p1 p2:Int)(p3 p4 p5:List Int):Option R:=
 bif decide (p2<4)then gd (inB p1 (length p0)) (gd (decide (0<=wrap i64 (24-wrap i64 (8*p2)))) (gd (room (length p5+1) 1) (KB p0 p1 (wrap i64 (p2+1)) p3 p4 (p5++[wrap u8 (Int.fdiv (getD p0 (toNat p1) 0) (2^Nat.min (toNat (wrap i64 (24-wrap i64 (8*p2)))) 32))]))))else k (E_23_52_1_1.e0 p0 p1 p3 p4 p5)
noncomputable def C_23_52_1_1:E_23_52_1_2->E_23_52_1_1
 | .e0 p0 p1 p3 p4 p5=> .e1 p0 p1 p3 p4 p5
theorem BC_23_52_1_1(r:Option E_23_52_1_2):B_23_52_1_2 r (fun p0 p1 p3 p4 p5=>some (E_23_52_1_1.e1 p0 p1 p3 p4 p5))=r.bind fun e=>some (C_23_52_1_1 e):=by
 cases r with
 |none=>rfl
 |some e=>cases e<;>rfl
noncomputable def Sp.L_23_52_1_1:Nat->List Int->Int->Int->List Int->List Int->List Int->Option E_23_52_1_1
 |0,_,_,_,_,_,_=>none
 |m+1,p0,p1,p2,p3,p4,p5=>S_23_52_1_1 (L_23_52_1_1 m) (fun q0 q1 q2 q3 q4 q5=>B_23_52_1_2 (L_23_52_1_2 m q0 q1 q2 q3 q4 q5) (fun p0 p1 p3 p4 p5=>some (E_23_52_1_1.e1 p0 p1 p3 p4 p5))) some p0 p1 p2 p3 p4 p5
noncomputable def l_23_52_1_1(m:Nat)(a:T_23_52_1_1.E):Option E_23_52_1_1:=L_23_52_1_1 m a.1 a.2.1 a.2.2.1 a.2.2.2.1 a.2.2.2.2.1 a.2.2.2.2.2.1
noncomputable def O_23_52_1_1{R:Type}:Orc R:=orL T_23_52_1_1 (l_23_52_1_1 FU) Y_23_52_1_1 O_23_52_1_2
theorem OK_23_52_1_1{R:Type}:okF (R:=R) sm_23 0 (ni (nf 52 0) 0) O_23_52_1_1:=lp2 noO_ok (os:=[]) trivial T_23_52_1_1 T_23_52_1_2 l_23_52_1_1 l_23_52_1_2 (fun R K KB k a=>S_23_52_1_1 (fun p0 p1 p2 p3 p4 p5=>K (p0,p1,p2,p3,p4,p5,())) (fun q0 q1 q2 q3 q4 q5=>KB (q0,q1,q2,q3,q4,q5,())) k a.1 a.2.1 a.2.2.1 a.2.2.2.1 a.2.2.2.2.1 a.2.2.2.2.2.1) Y_23_52_1_1 Y_23_52_1_2 C_23_52_1_1 (fun _=>rfl) (fun m a=>by
 unfold l_23_52_1_1
 rw[L_23_52_1_1]
 simp only[BC_23_52_1_1]
 rfl) (fun k e=>by cases e<;>rfl) (fun k=>loop_23_52_1_2 k) (fun k K a=>by kernel_rfl) (fun Y K KB a=>by
 unfold S_23_52_1_1
 repeat' first|apply gdN|apply condN|rfl) OK_23_52_1_2
noncomputable def T_23_52_0_0:PS:=⟨30,[(0,.kc (.whole 2)),(1,.kc (.whole 1)),(5,.hv (.int .i64))],[.mem (.hv (.arr 32 (.int .u8))),.vec 42 (.int .u32),.vec 5 (.int .u8)],2⟩
inductive Sp.E_23_52_0_0 where
 |e0 (p1 p2 p3:List Int)
noncomputable def Sp.B_23_52_0_0{R:Type}(r:Option E_23_52_0_0)(k0:List Int->List Int->List Int->Option R):Option R:=match r with
 |none=>none
 |some (.e0 p1 p2 p3)=>k0 p1 p2 p3
noncomputable def Y_23_52_0_0{R:Type}(k:Ex->St->Option R):E_23_52_0_0->Option R
 | .e0 p1 p2 p3=>k (Ex.exit 0) (sx 30 [(0,CV.whole 2)] [Blk.mem (CV.pure (Ty.arr 32 (Ty.int u8)) p1),Blk.vec 42 (Ty.int u32) p2,Blk.vec 5 (Ty.int u8) p3] 2)
noncomputable def Sp.S_23_52_0_0{R:Type}(K:Int->List Int->List Int->List Int->Option R)(k:E_23_52_0_0->Option R)(p0:Int)(p1 p2 p3:List Int):Option R:=
 bif decide (p0<(↑(length p2):Int))then B_23_52_1_0 (L_23_52_1_0 4611686018427387904 p0 0 p1 p2 p3) fun y8 y9 y10 y11=>K (wrap i64 (y8+1)) y9 y10 y11 else k (E_23_52_0_0.e0 p1 p2 p3)
noncomputable def Sp.L_23_52_0_0:Nat->Int->List Int->List Int->List Int->Option E_23_52_0_0
 |0,_,_,_,_=>none
 |m+1,p0,p1,p2,p3=>S_23_52_0_0 (L_23_52_0_0 m) some p0 p1 p2 p3
noncomputable def l_23_52_0_0(m:Nat)(a:T_23_52_0_0.E):Option E_23_52_0_0:=L_23_52_0_0 m a.1 a.2.1 a.2.2.1 a.2.2.2.1
noncomputable def O_23_52_0_0{R:Type}:Orc R:=orL T_23_52_0_0 (l_23_52_0_0 FU) Y_23_52_0_0
theorem OK_23_52_0_0{R:Type}:okF (R:=R) sm_23 0 (nf 52 0) O_23_52_0_0:=lp noO_ok (os:=[O_23_52_1_1]) ⟨OK_23_52_1_1,trivial⟩ T_23_52_0_0 l_23_52_0_0 (fun R K k a=>S_23_52_0_0 (fun p0 p1 p2 p3=>K (p0,p1,p2,p3,())) k a.1 a.2.1 a.2.2.1 a.2.2.2.1) Y_23_52_0_0 (fun _=>rfl) (fun _ _=>rfl) (fun k K a=>by kernel_rfl) (fun Y K a=>by
 unfold S_23_52_0_0
 repeat' first|apply gdN|apply condN|(apply Bn_23_52_1_0<;>intros)|rfl) (ok0 _)
noncomputable def T_23_52_0_2:PS:=⟨30,[(0,.kc (.whole 3)),(1,.hv (.slice (.int .u32))),(5,.hv (.int .i64))],[.mem (.hv (.arr 32 (.int .u8))),.vec 42 (.int .u32),.dead,.vec 5 (.int .u8)],3⟩
inductive Sp.E_23_52_0_2 where
 |e0 (p2 p3 p4:List Int)
noncomputable def Sp.B_23_52_0_2{R:Type}(r:Option E_23_52_0_2)(k0:List Int->List Int->List Int->Option R):Option R:=match r with
 |none=>none
 |some (.e0 p2 p3 p4)=>k0 p2 p3 p4
noncomputable def Y_23_52_0_2{R:Type}(k:Ex->St->Option R):E_23_52_0_2->Option R
 | .e0 p2 p3 p4=>k (Ex.exit 0) (sx 30 [(0,CV.whole 3)] [Blk.mem (CV.pure (Ty.arr 32 (Ty.int u8)) p2),Blk.vec 42 (Ty.int u32) p3,Blk.dead,Blk.vec 5 (Ty.int u8) p4] 3)
noncomputable def Sp.S_23_52_0_2{R:Type}(K:List Int->Int->List Int->List Int->List Int->Option R)(k:E_23_52_0_2->Option R)(p0:List Int)(p1:Int)(p2 p3 p4:List Int):Option R:=
 bif decide (p1<(↑(length p0):Int))then B_23_52_1_2 (L_23_52_1_2 4611686018427387904 p0 p1 0 p2 p3 p4) fun y9 y10 y11 y12 y13=>K y9 (wrap i64 (y10+1)) y11 y12 y13 else k (E_23_52_0_2.e0 p2 p3 p4)
noncomputable def Sp.L_23_52_0_2:Nat->List Int->Int->List Int->List Int->List Int->Option E_23_52_0_2
 |0,_,_,_,_,_=>none
 |m+1,p0,p1,p2,p3,p4=>S_23_52_0_2 (L_23_52_0_2 m) some p0 p1 p2 p3 p4
noncomputable def l_23_52_0_2(m:Nat)(a:T_23_52_0_2.E):Option E_23_52_0_2:=L_23_52_0_2 m a.1 a.2.1 a.2.2.1 a.2.2.2.1 a.2.2.2.2.1
noncomputable def O_23_52_0_2{R:Type}:Orc R:=orL T_23_52_0_2 (l_23_52_0_2 FU) Y_23_52_0_2 O_23_52_0_0
theorem loop_23_52_0_2{R:Type}(k:Ex->St->Option R):∀m a,evLoopN (evCodeL sm_23 FU (ovr noO (evFn sm_23 fns FU 0)) (mkT (inner (nf 52 0)) [O_23_52_1_1]) (inner (nf 52 0))) (St.norm (lv (nf 52 0))) m (T_23_52_0_2.inst a) k=(l_23_52_0_2 m a).bind (Y_23_52_0_2 k):=lpN l_23_52_0_2 (fun R K k a=>S_23_52_0_2 (fun p0 p1 p2 p3 p4=>K (p0,p1,p2,p3,p4,())) k a.1 a.2.1 a.2.2.1 a.2.2.2.1 a.2.2.2.2.1) (fun _=>rfl) (fun _ _=>rfl) (fun K a=>by kernel_rfl) (fun K a=>by
 unfold S_23_52_0_2
 repeat' first|apply gdN|apply condN|(apply Bn_23_52_1_2<;>intros)|rfl)
theorem OK_23_52_0_2{R:Type}:okF (R:=R) sm_23 0 (nf 52 0) O_23_52_0_2:=lp noO_ok (os:=[O_23_52_1_1]) ⟨OK_23_52_1_1,trivial⟩ T_23_52_0_2 l_23_52_0_2 (fun R K k a=>S_23_52_0_2 (fun p0 p1 p2 p3 p4=>K (p0,p1,p2,p3,p4,())) k a.1 a.2.1 a.2.2.1 a.2.2.2.1 a.2.2.2.2.1) Y_23_52_0_2 (fun _=>rfl) (fun _ _=>rfl) (fun k K a=>by kernel_rfl) (fun Y K a=>by
 unfold S_23_52_0_2
 repeat' first|apply gdN|apply condN|(apply Bn_23_52_1_2<;>intros)|rfl) OK_23_52_0_0
noncomputable def T_23_52_0_1:PS:=⟨30,[(0,.kc (.whole 2)),(1,.hv (.slice (.int .u32))),(5,.hv (.int .i64))],[.mem (.hv (.arr 32 (.int .u8))),.vec 42 (.int .u32),.vec 5 (.int .u8)],3⟩
inductive Sp.E_23_52_0_1 where
 |e0 (p2 p3 p4:List Int)
 |e1 (p2 p3 p4:List Int)
noncomputable def Sp.B_23_52_0_1{R:Type}(r:Option E_23_52_0_1)(k0 k1:List Int->List Int->List Int->Option R):Option R:=match r with
 |none=>none
 |some (.e0 p2 p3 p4)=>k0 p2 p3 p4
 |some (.e1 p2 p3 p4)=>k1 p2 p3 p4
noncomputable def Y_23_52_0_1{R:Type}(k:Ex->St->Option R):E_23_52_0_1->Option R
 | .e0 p2 p3 p4=>k (Ex.exit 0) (sx 30 [(0,CV.whole 2)] [Blk.mem (CV.pure (Ty.arr 32 (Ty.int u8)) p2),Blk.vec 42 (Ty.int u32) p3,Blk.vec 5 (Ty.int u8) p4] 3)
 | .e1 p2 p3 p4=>k (Ex.exit 0) (sx 30 [(0,CV.whole 3)] [Blk.mem (CV.pure (Ty.arr 32 (Ty.int u8)) p2),Blk.vec 42 (Ty.int u32) p3,Blk.dead,Blk.vec 5 (Ty.int u8) p4] 3)
noncomputable def Sp.S_23_52_0_1{R:Type}(K KB:List Int->Int->List Int->List Int->List Int->Option R)(k:E_23_52_0_1->Option R)(p0:List Int)(p1:Int)(p2 p3 p4:List Int):Option R:=
 bif decide (p1<(↑(length p0):Int))then B_23_52_1_1 (L_23_52_1_1 4611686018427387904 p0 p1 0 p2 p3 p4) (fun y14 y15 y16 y17 y18=>K y14 (wrap i64 (y15+1)) y16 y17 y18) fun y19 y20 y21 y22 y23=>KB y19 (wrap i64 (y20+1)) y21 y22 y23 else k (E_23_52_0_1.e0 p2 p3 p4)
noncomputable def C_23_52_0_1:E_23_52_0_2->E_23_52_0_1
 | .e0 p2 p3 p4=> .e1 p2 p3 p4
theorem BC_23_52_0_1(r:Option E_23_52_0_2):B_23_52_0_2 r (fun p2 p3 p4=>some (E_23_52_0_1.e1 p2 p3 p4))=r.bind fun e=>some (C_23_52_0_1 e):=by
 cases r with
 |none=>rfl
 |some e=>cases e<;>rfl
noncomputable def Sp.L_23_52_0_1:Nat->List Int->Int->List Int->List Int->List Int->Option E_23_52_0_1
 |0,_,_,_,_,_=>none
 |m+1,p0,p1,p2,p3,p4=>S_23_52_0_1 (L_23_52_0_1 m) (fun q0 q1 q2 q3 q4=>B_23_52_0_2 (L_23_52_0_2 m q0 q1 q2 q3 q4) (fun p2 p3 p4=>some (E_23_52_0_1.e1 p2 p3 p4))) some p0 p1 p2 p3 p4
noncomputable def l_23_52_0_1(m:Nat)(a:T_23_52_0_1.E):Option E_23_52_0_1:=L_23_52_0_1 m a.1 a.2.1 a.2.2.1 a.2.2.2.1 a.2.2.2.2.1
noncomputable def O_23_52_0_1{R:Type}:Orc R:=orL T_23_52_0_1 (l_23_52_0_1 FU) Y_23_52_0_1 O_23_52_0_2
theorem OK_23_52_0_1{R:Type}:okF (R:=R) sm_23 0 (nf 52 0) O_23_52_0_1:=lp2 noO_ok (os:=[O_23_52_1_1]) ⟨OK_23_52_1_1,trivial⟩ T_23_52_0_1 T_23_52_0_2 l_23_52_0_1 l_23_52_0_2 (fun R K KB k a=>S_23_52_0_1 (fun p0 p1 p2 p3 p4=>K (p0,p1,p2,p3,p4,())) (fun q0 q1 q2 q3 q4=>KB (q0,q1,q2,q3,q4,())) k a.1 a.2.1 a.2.2.1 a.2.2.2.1 a.2.2.2.2.1) Y_23_52_0_1 Y_23_52_0_2 C_23_52_0_1 (fun _=>rfl) (fun m a=>by
 unfold l_23_52_0_1
 rw[L_23_52_0_1]
 simp only[BC_23_52_0_1]
 rfl) (fun k e=>by cases e<;>rfl) (fun k=>loop_23_52_0_2 k) (fun k K a=>by kernel_rfl) (fun Y K KB a=>by
 unfold S_23_52_0_1
 repeat' first|apply gdN|apply condN|(apply Bn_23_52_1_1<;>intros)|rfl) OK_23_52_0_2
noncomputable def g_23_52{R:Type}:List CV->List Blk->(CV->List Blk->Option R)->Option R:=evFnL sm_23 FU (ovr noO (evFn sm_23 fns FU 0)) (mkT (fB fns 52) [O_23_52_0_1]) (fO fns 52)
theorem g_23_52_ok{R:Type}(args:List CV)(hp:List Blk)(k:CV->List Blk->Option R)(r:R)(h:g_23_52 args hp k=some r):evFn sm_23 fns FU 1 52 args hp k=some r:=runG noO_ok (os:=[O_23_52_0_1]) ⟨OK_23_52_0_1,trivial⟩ h
noncomputable def ov_23_23{R:Type}:Nat->Option (List CV->List Blk->(CV->List Blk->Option R)->Option R):=fun f'=>bif Nat.beq f' 52 then some g_23_52 else none
theorem ov_23_23_ok{R:Type}:OvrOK (R:=R) ov_23_23 (evFn sm_23 fns FU 1):=by
 intro f' g h args hp k r hg
 dsimp only[ov_23_23]at h
 by_cases h52:f'=52
 ·subst h52
  injection h with h
  subst h
  exact evFn_le 0 (g_23_52_ok _ _ _ _ hg)
 rw[nbeq_ne h52,cond_false]at h
 cases h
noncomputable def F_23(a0:Int)(a1:(List Int)):Option ((List Int)×Unit) :=
 B_23_52_0_0 (L_23_52_0_0 4611686018427387904 0 (replicate 32 (0:Int)) [wrap u32 a0,wrap u32 (↑(length a1):Int)] []) fun y9 y10 y11=>B_23_52_0_1 (L_23_52_0_1 4611686018427387904 a1 0 y9 y10 y11) (fun y12 y13 y14=>gd (p_53 y14) (some ((v_53 y14).1,PUnit.unit))) fun y15 y16 y17=>gd (p_53 y17) (some ((v_53 y17).1,PUnit.unit))
noncomputable def Sp.p_23(a0:Int)(a1:(List Int)):Bool:=(F_23 a0 a1).isSome
noncomputable def Sp.v_23(a0:Int)(a1:(List Int)):(List Int)×Unit:=(F_23 a0 a1).getD (dfH R_23)
noncomputable def s_23:Summ:=shN A_23 R_23 (fun x=>p_23 x.1 x.2.1) (fun x=>v_23 x.1 x.2.1)
theorem pv_23(a0:Int)(a1:(List Int)){y:(List Int)×Unit}(h:F_23 a0 a1=some y):p_23 a0 a1=true/\v_23 a0 a1=y:=pvG h
theorem run_23(x:HDen A_23)(y:HDen R_23)(h:F_23 x.1 x.2.1=some y):rnF sm_23 2 23 A_23 R_23 x y:=runG ov_23_23_ok (os:=[]) trivial (Eq.trans (by kernel_rfl) h)
end
noncomputable section
abbrev A_83:List Ty:=[(.pair (.pair (.slice (.int .u32)) (.pair (.slice (.int .i64)) (.pair (.int .i64) .unit))) (.pair (.arr 32 (.int .u8)) .unit)),(.int .i64)]
abbrev R_83:List Ty:=[(.int .i64)]
noncomputable def sm_83:Nat->Option Summ:=smL [(33,s_33),(97,s_97),(109,s_109)]
noncomputable def F_83(a0:(((List Int)×((List Int)×(Int×Unit)))×((List Int)×Unit)))(a1:Int):Option (Int×Unit) :=
 gd (p_33 a0) (bif !(v_33 a0).1 then some (1,PUnit.unit)else gd (p_97 a1) (bif !(v_97 a1).1 then some (2,PUnit.unit)else gd (p_109 a0 a1) (bif !(v_109 a0 a1).1 then some (14,PUnit.unit)else some (0,PUnit.unit))))
noncomputable def Sp.p_83(a0:(((List Int)×((List Int)×(Int×Unit)))×((List Int)×Unit)))(a1:Int):Bool:=(F_83 a0 a1).isSome
noncomputable def Sp.v_83(a0:(((List Int)×((List Int)×(Int×Unit)))×((List Int)×Unit)))(a1:Int):Int×Unit:=(F_83 a0 a1).getD (dfH R_83)
noncomputable def s_83:Summ:=shN A_83 R_83 (fun x=>p_83 x.1 x.2.1) (fun x=>v_83 x.1 x.2.1)
theorem pv_83(a0:(((List Int)×((List Int)×(Int×Unit)))×((List Int)×Unit)))(a1:Int){y:Int×Unit}(h:F_83 a0 a1=some y):p_83 a0 a1=true/\v_83 a0 a1=y:=pvG h
theorem run_83(x:HDen A_83)(y:HDen R_83)(h:F_83 x.1 x.2.1=some y):rnF sm_83 1 83 A_83 R_83 x y:=runG noO_ok (os:=[]) trivial (Eq.trans (by kernel_rfl) h)
end
noncomputable section
abbrev A_55:List Ty:=[(.pair (.pair (.slice (.int .u32)) (.pair (.slice (.int .i64)) (.pair (.int .i64) .unit))) (.pair (.arr 32 (.int .u8)) .unit)),(.int .i64)]
abbrev R_55:List Ty:=[(.slice (.int .u32)),(.int .i64)]
noncomputable def sm_55:Nat->Option Summ:=smL [(25,s_25),(83,s_83),(84,s_84)]
noncomputable def F_55(a0:(((List Int)×((List Int)×(Int×Unit)))×((List Int)×Unit)))(a1:Int):Option ((List Int)×Int×Unit) :=
 gd (p_83 a0 a1) (bif(v_83 a0 a1).1 !=0 then some ([],(v_83 a0 a1).1,PUnit.unit)else gd (p_84 a0 a1) (gd (inB 2 (length ((v_84 a0 a1).1))) (gd (sl3 564 (wrap i64 (564+wrap i64 (getD ((v_84 a0 a1).1) 2 0))) (↑(length ((v_84 a0 a1).1)):Int)) (gd (room (length (take (toNat (wrap i64 (564+wrap i64 (getD ((v_84 a0 a1).1) 2 0)))-564) (drop 564 ((v_84 a0 a1).1)))) 4) (some (take (toNat (wrap i64 (564+wrap i64 (getD ((v_84 a0 a1).1) 2 0)))-564) (drop 564 ((v_84 a0 a1).1)),0,PUnit.unit))))))
noncomputable def Sp.p_55(a0:(((List Int)×((List Int)×(Int×Unit)))×((List Int)×Unit)))(a1:Int):Bool:=(F_55 a0 a1).isSome
noncomputable def Sp.v_55(a0:(((List Int)×((List Int)×(Int×Unit)))×((List Int)×Unit)))(a1:Int):(List Int)×Int×Unit:=(F_55 a0 a1).getD (dfH R_55)
noncomputable def s_55:Summ:=shS A_55 R_55 (fun x=>p_55 x.1 x.2.1) (fun x=>v_55 x.1 x.2.1)
theorem pv_55(a0:(((List Int)×((List Int)×(Int×Unit)))×((List Int)×Unit)))(a1:Int){y:(List Int)×Int×Unit}(h:F_55 a0 a1=some y):p_55 a0 a1=true/\v_55 a0 a1=y:=pvG h
theorem run_55(x:HDen A_55)(y:HDen R_55)(h:F_55 x.1 x.2.1=some y):rnF sm_55 1 55 A_55 R_55 x y:=runG noO_ok (os:=[]) trivial (Eq.trans (by kernel_rfl) h)
end
noncomputable section
abbrev A_24:List Ty:=[(.pair (.pair (.slice (.int .u32)) (.pair (.slice (.int .i64)) (.pair (.int .i64) .unit))) (.pair (.arr 32 (.int .u8)) .unit))]
abbrev R_24:List Ty:=[(.slice (.int .u32)),(.int .i64),.bool]
noncomputable def sm_24:Nat->Option Summ:=smL [(34,s_34),(54,s_54),(55,s_55)]
noncomputable def F_24(a0:(((List Int)×((List Int)×(Int×Unit)))×((List Int)×Unit))):Option ((List Int)×Int×Bool×Unit) :=
 gd (p_54 a0) (bif !(v_54 a0).2.1 then some ([],0,false,PUnit.unit)else gd (p_55 a0 ((v_54 a0).1)) (gd (p_34 a0) (some ((v_55 a0 ((v_54 a0).1)).1,(v_34 a0).1,(v_55 a0 ((v_54 a0).1)).2.1==0,PUnit.unit))))
noncomputable def Sp.p_24(a0:(((List Int)×((List Int)×(Int×Unit)))×((List Int)×Unit))):Bool:=(F_24 a0).isSome
noncomputable def Sp.v_24(a0:(((List Int)×((List Int)×(Int×Unit)))×((List Int)×Unit))):(List Int)×Int×Bool×Unit:=(F_24 a0).getD (dfH R_24)
noncomputable def s_24:Summ:=shS A_24 R_24 (fun x=>p_24 x.1) (fun x=>v_24 x.1)
theorem pv_24(a0:(((List Int)×((List Int)×(Int×Unit)))×((List Int)×Unit))){y:(List Int)×Int×Bool×Unit}(h:F_24 a0=some y):p_24 a0=true/\v_24 a0=y:=pvG h
theorem run_24(x:HDen A_24)(y:HDen R_24)(h:F_24 x.1=some y):rnF sm_24 1 24 A_24 R_24 x y:=runG noO_ok (os:=[]) trivial (Eq.trans (by kernel_rfl) h)
end
noncomputable section
abbrev A_56:List Ty:=[(.pair (.int .i64) (.pair (.slice (.arr 32 (.int .u8))) (.pair (.slice (.arr 32 (.int .u8))) .unit)))]
abbrev R_56:List Ty:=[.bool]
noncomputable def sm_56:Nat->Option Summ:=smL []
noncomputable def F_56(a0:(Int×((List (List Int))×((List (List Int))×Unit)))):Option (Bool×Unit) :=
 bif decide (a0.1>=0)then bif decide (a0.1<=3)then bif(↑(length (a0.2.1)):Int)==67 then some ((↑(length (a0.2.2.1)):Int)==2,PUnit.unit)else some (false,PUnit.unit)else some (false,PUnit.unit)else some (false,PUnit.unit)
noncomputable def Sp.p_56(a0:(Int×((List (List Int))×((List (List Int))×Unit)))):Bool:=(F_56 a0).isSome
noncomputable def Sp.v_56(a0:(Int×((List (List Int))×((List (List Int))×Unit)))):Bool×Unit:=(F_56 a0).getD (dfH R_56)
noncomputable def s_56:Summ:=shN A_56 R_56 (fun x=>p_56 x.1) (fun x=>v_56 x.1)
theorem pv_56(a0:(Int×((List (List Int))×((List (List Int))×Unit)))){y:Bool×Unit}(h:F_56 a0=some y):p_56 a0=true/\v_56 a0=y:=pvG h
theorem run_56(x:HDen A_56)(y:HDen R_56)(h:F_56 x.1=some y):rnF sm_56 1 56 A_56 R_56 x y:=runG noO_ok (os:=[]) trivial (Eq.trans (by kernel_rfl) h)
end
noncomputable section
abbrev A_57:List Ty:=[(.arr 32 (.int .u8))]
abbrev R_57:List Ty:=[(.slice (.int .i64))]
noncomputable def sm_57:Nat->Option Summ:=smL []
noncomputable def T_57_0:PS:=⟨44,[(1,.kc (.ptr 0 [])),(3,.kc (.whole 1)),(4,.hv (.int .i64)),(5,.hv (.int .i64))],[.mem (.hv (.arr 32 (.int .u8))),.vec 3 (.int .i64)],0⟩
inductive Sp.E_57_0 where
 |e0 (p0:Int) (p3:List Int)
noncomputable def Sp.B_57_0{R:Type}(r:Option E_57_0)(k0:Int->List Int->Option R):Option R:=match r with
 |none=>none
 |some (.e0 p0 p3)=>k0 p0 p3
noncomputable def Y_57_0{R:Type}(k:Ex->St->Option R):E_57_0->Option R
 | .e0 p0 p3=>k (Ex.exit 0) (sx 44 [(3,CV.whole 0),(4,CV.int i64 p0)] [Blk.vec 3 (Ty.int i64) p3])
noncomputable def Sp.S_57_0{R:Type}(K:Int->Int->List Int->List Int->Option R)(k:E_57_0->Option R)(p0 p1:Int)(p2 p3:List Int):Option R:=
 bif decide (p1<64)then gd (inB (wrap i64 (Int.tdiv p1 2)) 32) (gd (decide (toNat (wrap i64 (Int.tdiv p1 2))<32)&&true) (bif Int.tmod p1 (2:Int)==(1:Int)then gd (inB (wrap i64 (Int.tdiv p1 2)) 32) (gd (decide (toNat (wrap i64 (Int.tdiv p1 2))<32)&&true) (gd (room (length p3+1) 8) (K (wrap i64 (wrap i64 (p0+15)-wrap i64 (Sp.andI u8 (getD p2 (toNat (wrap i64 (Int.tdiv p1 2))) 0) 15))) (wrap i64 (p1+1)) p2 (p3++[wrap i64 (Sp.andI u8 (getD p2 (toNat (wrap i64 (Int.tdiv p1 2))) 0) 15)]))))else gd (room (length p3+1) 8) (K (wrap i64 (wrap i64 (p0+15)-wrap i64 (Int.fdiv (getD p2 (toNat (wrap i64 (Int.tdiv p1 2))) 0) 16))) (wrap i64 (p1+1)) p2 (p3++[wrap i64 (Int.fdiv (getD p2 (toNat (wrap i64 (Int.tdiv p1 2))) 0) 16)]))))else k (E_57_0.e0 p0 p3)
noncomputable def Sp.L_57_0:Nat->Int->Int->List Int->List Int->Option E_57_0
 |0,_,_,_,_=>none
 |m+1,p0,p1,p2,p3=>S_57_0 (L_57_0 m) some p0 p1 p2 p3
noncomputable def l_57_0(m:Nat)(a:T_57_0.E):Option E_57_0:=L_57_0 m a.1 a.2.1 a.2.2.1 a.2.2.2.1
noncomputable def O_57_0{R:Type}:Orc R:=orL T_57_0 (l_57_0 FU) Y_57_0
theorem OK_57_0{R:Type}:okF (R:=R) sm_57 0 (nf 57 0) O_57_0:=lp0 T_57_0 l_57_0 (fun R K k a=>S_57_0 (fun p0 p1 p2 p3=>K (p0,p1,p2,p3,())) k a.1 a.2.1 a.2.2.1 a.2.2.2.1) Y_57_0 (fun _ _ _=>by kernel_rfl) (fun _ _ _=>by
 unfold S_57_0
 repeat' first|apply gdN|apply condN|rfl) (ok0 _)
noncomputable def F_57(a0:(List Int)):Option ((List Int)×Unit) :=
 B_57_0 (L_57_0 4611686018427387904 0 0 a0 []) fun y2 y3=>gd (room (length y3+3) 8) (some (y3++[wrap i64 (Int.tdiv y2 256),Int.tmod (wrap i64 (Int.tdiv y2 16)) 16,Int.tmod y2 16],PUnit.unit))
noncomputable def Sp.p_57(a0:(List Int)):Bool:=(F_57 a0).isSome
noncomputable def Sp.v_57(a0:(List Int)):(List Int)×Unit:=(F_57 a0).getD (dfH R_57)
noncomputable def s_57:Summ:=shS A_57 R_57 (fun x=>p_57 x.1) (fun x=>v_57 x.1)
theorem pv_57(a0:(List Int)){y:(List Int)×Unit}(h:F_57 a0=some y):p_57 a0=true/\v_57 a0=y:=pvG h
theorem run_57(x:HDen A_57)(y:HDen R_57)(h:F_57 x.1=some y):rnF sm_57 1 57 A_57 R_57 x y:=runG noO_ok (os:=[O_57_0]) ⟨OK_57_0,trivial⟩ (Eq.trans (by kernel_rfl) h)
end
noncomputable section
abbrev A_58:List Ty:=[(.arr 32 (.int .u8)),(.int .i64),(.int .i64)]
abbrev R_58:List Ty:=[(.arr 32 (.int .u8))]
noncomputable def sm_58:Nat->Option Summ:=smL [(53,s_53)]
noncomputable def T_58_0:PS:=⟨21,[(2,.hv (.int .i64)),(3,.kc (.ptr 0 [])),(6,.kc (.ptr 1 [])),(7,.hv (.int .i64))],[.mem (.hv (.arr 32 (.int .u8))),.mem (.hv (.arr 32 (.int .u8)))],0⟩
inductive Sp.E_58_0 where
 |e0 (p2 p3:List Int)
noncomputable def Sp.B_58_0{R:Type}(r:Option E_58_0)(k0:List Int->List Int->Option R):Option R:=match r with
 |none=>none
 |some (.e0 p2 p3)=>k0 p2 p3
noncomputable def Y_58_0{R:Type}(k:Ex->St->Option R):E_58_0->Option R
 | .e0 p2 p3=>k (Ex.exit 0) (sx 21 [(3,CV.ptr 0 []),(6,CV.ptr 1 [])] [Blk.mem (CV.pure (Ty.arr 32 (Ty.int u8)) p2),Blk.mem (CV.pure (Ty.arr 32 (Ty.int u8)) p3)])
noncomputable def Sp.S_58_0{R:Type}(K:Int->Int->List Int->List Int->Option R)(k:E_58_0->Option R)(p0 p1:Int)(p2 p3:List Int):Option R:=
 bif decide (p1<p0)then gd (room (1+length (take 32 (drop 0 p2))) 1) (gd (p_53 ([wrap u8 p1]++take 32 (drop 0 p2))) (K p0 (wrap i64 (p1+1)) ((v_53 ([wrap u8 p1]++take 32 (drop 0 p2))).1) p3))else k (E_58_0.e0 p2 p3)
noncomputable def Sp.L_58_0:Nat->Int->Int->List Int->List Int->Option E_58_0
 |0,_,_,_,_=>none
 |m+1,p0,p1,p2,p3=>S_58_0 (L_58_0 m) some p0 p1 p2 p3
noncomputable def l_58_0(m:Nat)(a:T_58_0.E):Option E_58_0:=L_58_0 m a.1 a.2.1 a.2.2.1 a.2.2.2.1
noncomputable def O_58_0{R:Type}:Orc R:=orL T_58_0 (l_58_0 FU) Y_58_0
theorem OK_58_0{R:Type}:okF (R:=R) sm_58 0 (nf 58 0) O_58_0:=lp0 T_58_0 l_58_0 (fun R K k a=>S_58_0 (fun p0 p1 p2 p3=>K (p0,p1,p2,p3,())) k a.1 a.2.1 a.2.2.1 a.2.2.2.1) Y_58_0 (fun _ _ _=>by kernel_rfl) (fun _ _ _=>by
 unfold S_58_0
 repeat' first|apply gdN|apply condN|rfl) (ok0 _)
noncomputable def F_58(a0:(List Int))(a1 a2:Int):Option ((List Int)×Unit) :=
 B_58_0 (L_58_0 4611686018427387904 a2 a1 a0 (replicate 32 (0:Int))) fun y2 y3=>some (y2,PUnit.unit)
noncomputable def Sp.p_58(a0:(List Int))(a1 a2:Int):Bool:=(F_58 a0 a1 a2).isSome
noncomputable def Sp.v_58(a0:(List Int))(a1 a2:Int):(List Int)×Unit:=(F_58 a0 a1 a2).getD (dfH R_58)
noncomputable def s_58:Summ:=shN A_58 R_58 (fun x=>p_58 x.1 x.2.1 x.2.2.1) (fun x=>v_58 x.1 x.2.1 x.2.2.1)
theorem pv_58(a0:(List Int))(a1 a2:Int){y:(List Int)×Unit}(h:F_58 a0 a1 a2=some y):p_58 a0 a1 a2=true/\v_58 a0 a1 a2=y:=pvG h
theorem run_58(x:HDen A_58)(y:HDen R_58)(h:F_58 x.1 x.2.1 x.2.2.1=some y):rnF sm_58 1 58 A_58 R_58 x y:=runG noO_ok (os:=[O_58_0]) ⟨OK_58_0,trivial⟩ (Eq.trans (by kernel_rfl) h)
end
noncomputable section
abbrev A_59:List Ty:=[(.slice (.arr 32 (.int .u8)))]
abbrev R_59:List Ty:=[(.arr 32 (.int .u8))]
noncomputable def sm_59:Nat->Option Summ:=smL [(53,s_53)]
noncomputable def T_59_0:PS:=⟨19,[(0,.hv (.slice (.arr 32 (.int .u8)))),(2,.kc (.ptr 0 [])),(3,.kc (.whole 1)),(4,.hv (.int .i64))],[.mem (.hv (.arr 32 (.int .u8))),.vec 5 (.int .u8)],0⟩
inductive Sp.E_59_0 where
 |e0 (p2 p3:List Int)
noncomputable def Sp.B_59_0{R:Type}(r:Option E_59_0)(k0:List Int->List Int->Option R):Option R:=match r with
 |none=>none
 |some (.e0 p2 p3)=>k0 p2 p3
noncomputable def Y_59_0{R:Type}(k:Ex->St->Option R):E_59_0->Option R
 | .e0 p2 p3=>k (Ex.exit 0) (sx 19 [(2,CV.ptr 0 []),(3,CV.whole 1)] [Blk.mem (CV.pure (Ty.arr 32 (Ty.int u8)) p2),Blk.vec 5 (Ty.int u8) p3])
noncomputable def Sp.S_59_0{R:Type}(K:List (List Int)->Int->List Int->List Int->Option R)(k:E_59_0->Option R)(p0:List (List Int))(p1:Int)(p2 p3:List Int):Option R:=
 bif decide (p1<(↑(length p0):Int))then gd (inB p1 (length p0)) (gd (room (length p3+length (take 32 (drop 0 (getD p0 (toNat p1) (Ty.dflt (Ty.arr 32 (Ty.int u8))))))) 1) (K p0 (wrap i64 (p1+1)) p2 (p3++take 32 (drop 0 (getD p0 (toNat p1) (Ty.dflt (Ty.arr 32 (Ty.int u8))))))))else k (E_59_0.e0 p2 p3)
noncomputable def Sp.L_59_0:Nat->List (List Int)->Int->List Int->List Int->Option E_59_0
 |0,_,_,_,_=>none
 |m+1,p0,p1,p2,p3=>S_59_0 (L_59_0 m) some p0 p1 p2 p3
noncomputable def l_59_0(m:Nat)(a:T_59_0.E):Option E_59_0:=L_59_0 m a.1 a.2.1 a.2.2.1 a.2.2.2.1
noncomputable def O_59_0{R:Type}:Orc R:=orL T_59_0 (l_59_0 FU) Y_59_0
theorem OK_59_0{R:Type}:okF (R:=R) sm_59 0 (nf 59 0) O_59_0:=lp0 T_59_0 l_59_0 (fun R K k a=>S_59_0 (fun p0 p1 p2 p3=>K (p0,p1,p2,p3,())) k a.1 a.2.1 a.2.2.1 a.2.2.2.1) Y_59_0 (fun _ _ _=>by kernel_rfl) (fun _ _ _=>by
 unfold S_59_0
 repeat' first|apply gdN|apply condN|rfl) (ok0 _)
noncomputable def F_59(a0:(List (List Int))):Option ((List Int)×Unit) :=
 B_59_0 (L_59_0 4611686018427387904 a0 0 (replicate 32 (0:Int)) []) fun y2 y3=>gd (p_53 y3) (some ((v_53 y3).1,PUnit.unit))
noncomputable def Sp.p_59(a0:(List (List Int))):Bool:=(F_59 a0).isSome
noncomputable def Sp.v_59(a0:(List (List Int))):(List Int)×Unit:=(F_59 a0).getD (dfH R_59)
noncomputable def s_59:Summ:=shN A_59 R_59 (fun x=>p_59 x.1) (fun x=>v_59 x.1)
theorem pv_59(a0:(List (List Int))){y:(List Int)×Unit}(h:F_59 a0=some y):p_59 a0=true/\v_59 a0=y:=pvG h
theorem run_59(x:HDen A_59)(y:HDen R_59)(h:F_59 x.1=some y):rnF sm_59 1 59 A_59 R_59 x y:=runG noO_ok (os:=[O_59_0]) ⟨OK_59_0,trivial⟩ (Eq.trans (by kernel_rfl) h)
end
noncomputable section
abbrev A_60:List Ty:=[(.arr 32 (.int .u8)),(.arr 32 (.int .u8))]
abbrev R_60:List Ty:=[(.arr 32 (.int .u8))]
noncomputable def sm_60:Nat->Option Summ:=smL [(53,s_53)]
noncomputable def F_60(a0 a1:(List Int)):Option ((List Int)×Unit) :=
 gd (room (1+length (take 32 (drop 0 a0))) 1) (gd (room (length ([255]++take 32 (drop 0 a0))+length (take 32 (drop 0 a1))) 1) (gd (p_53 ([255]++take 32 (drop 0 a0)++take 32 (drop 0 a1))) (some ((v_53 ([255]++take 32 (drop 0 a0)++take 32 (drop 0 a1))).1,PUnit.unit))))
noncomputable def Sp.p_60(a0 a1:(List Int)):Bool:=(F_60 a0 a1).isSome
noncomputable def Sp.v_60(a0 a1:(List Int)):(List Int)×Unit:=(F_60 a0 a1).getD (dfH R_60)
noncomputable def s_60:Summ:=shN A_60 R_60 (fun x=>p_60 x.1 x.2.1) (fun x=>v_60 x.1 x.2.1)
theorem pv_60(a0 a1:(List Int)){y:(List Int)×Unit}(h:F_60 a0 a1=some y):p_60 a0 a1=true/\v_60 a0 a1=y:=pvG h
theorem run_60(x:HDen A_60)(y:HDen R_60)(h:F_60 x.1 x.2.1=some y):rnF sm_60 1 60 A_60 R_60 x y:=runG noO_ok (os:=[]) trivial (Eq.trans (by kernel_rfl) h)
end
noncomputable section
abbrev Zt26_0:Type:=Int×List (List Int)×List (List Int)×Unit
abbrev Zy26_1:Ty:=(.pair (.int .i64) (.pair (.slice (.arr 32 (.int .u8))) (.pair (.slice (.arr 32 (.int .u8))) .unit)))
abbrev A_26:List Ty:=[(.arr 32 (.int .u8)),(.arr 32 (.int .u8)),(.pair (.int .i64) (.pair (.slice (.arr 32 (.int .u8))) (.pair (.slice (.arr 32 (.int .u8))) .unit)))]
abbrev R_26:List Ty:=[.bool]
noncomputable def sm_26:Nat->Option Summ:=smL [(56,s_56),(57,s_57),(58,s_58),(59,s_59),(60,s_60)]
noncomputable def T_26_0:PS:=⟨70,[(3,.kc (.ptr 0 [])),(5,.kc (.ptr 1 [])),(7,.hv (.slice (.int .i64))),(8,.kc (.whole 2)),(9,.hv (.int .i64))],[.mem (.hv (.arr 32 (.int .u8))),.mem (.hv Zy26_1),.vec 23 (.arr 32 (.int .u8))],0⟩
inductive Sp.E_26_0 where
 |e0 (p2:List Int) (p3:Zt26_0) (p4:List (List Int))
noncomputable def Sp.B_26_0{R:Type}(r:Option E_26_0)(k0:List Int->Zt26_0->List (List Int)->Option R):Option R:=match r with
 |none=>none
 |some (.e0 p2 p3 p4)=>k0 p2 p3 p4
noncomputable def Y_26_0{R:Type}(k:Ex->St->Option R):E_26_0->Option R
 | .e0 p2 p3 p4=>k (Ex.exit 0) (sx 70 [(3,CV.ptr 0 []),(5,CV.ptr 1 []),(8,CV.whole 2)] [Blk.mem (CV.pure (Ty.arr 32 (Ty.int u8)) p2),Blk.mem (CV.pure (Ty.pair (Ty.int i64) (Ty.pair (Ty.slice (Ty.arr 32 (Ty.int u8))) (Ty.pair (Ty.slice (Ty.arr 32 (Ty.int u8))) Ty.unit))) p3),Blk.vec 23 (Ty.arr 32 (Ty.int u8)) p4])
noncomputable def Sp.S_26_0{R:Type}(K:List Int->Int->List Int->(Int×List (List Int)×List (List Int)×Unit)->List (List Int)->Option R)(k:E_26_0->Option R)(p0:List Int)(p1:Int)(p2:List Int)(p3:Int×List (List Int)×List (List Int)×Unit)(p4:List (List Int)):Option R:=
 bif decide (p1<67)then gd (inB p1 (length (p3.2.1))) (gd (inB p1 (length p0)) (gd (p_58 (getD (p3.2.1) (toNat p1) (Ty.dflt (Ty.arr 32 (Ty.int u8)))) (getD p0 (toNat p1) 0) 15) (gd (room (length p4+1) 32) (K p0 (wrap i64 (p1+1)) p2 p3 (p4++[(v_58 (getD (p3.2.1) (toNat p1) (Ty.dflt (Ty.arr 32 (Ty.int u8)))) (getD p0 (toNat p1) 0) 15).1])))))else k (E_26_0.e0 p2 p3 p4)
noncomputable def Sp.L_26_0:Nat->List Int->Int->List Int->(Int×List (List Int)×List (List Int)×Unit)->List (List Int)->Option E_26_0
 |0,_,_,_,_,_=>none
 |m+1,p0,p1,p2,p3,p4=>S_26_0 (L_26_0 m) some p0 p1 p2 p3 p4
noncomputable def l_26_0(m:Nat)(a:T_26_0.E):Option E_26_0:=L_26_0 m a.1 a.2.1 a.2.2.1 a.2.2.2.1 a.2.2.2.2.1
noncomputable def O_26_0{R:Type}:Orc R:=orL T_26_0 (l_26_0 FU) Y_26_0
theorem OK_26_0{R:Type}:okF (R:=R) sm_26 0 (nf 26 0) O_26_0:=lp0 T_26_0 l_26_0 (fun R K k a=>S_26_0 (fun p0 p1 p2 p3 p4=>K (p0,p1,p2,p3,p4,())) k a.1 a.2.1 a.2.2.1 a.2.2.2.1 a.2.2.2.2.1) Y_26_0 (fun _ _ _=>by kernel_rfl) (fun _ _ _=>by
 unfold S_26_0
 repeat' first|apply gdN|apply condN|rfl) (ok0 _)
noncomputable def T_26_1:PS:=⟨70,[(3,.kc (.ptr 0 [])),(5,.kc (.ptr 1 [])),(10,.kc (.ptr 2 []))],[.mem (.hv (.arr 32 (.int .u8))),.mem (.hv Zy26_1),.mem (.hv (.arr 32 (.int .u8)))],0⟩
inductive Sp.E_26_1 where
 |e0 (p0:List Int) (p1:Zt26_0) (p2:List Int)
 |e1 (p0:List Int) (p1:Zt26_0) (p2:List Int)
noncomputable def Sp.B_26_1{R:Type}(r:Option E_26_1)(k0 k1:List Int->Zt26_0->List Int->Option R):Option R:=match r with
 |none=>none
 |some (.e0 p0 p1 p2)=>k0 p0 p1 p2
 |some (.e1 p0 p1 p2)=>k1 p0 p1 p2
noncomputable def Y_26_1{R:Type}(k:Ex->St->Option R):E_26_1->Option R
 | .e0 p0 p1 p2=>k Ex.ret (sx 70 [(6,CV.bool (Ty.beq (Ty.arr 32 (Ty.int u8)) ((v_60 (getD (p1.2.2.1) 1 (Ty.dflt (Ty.arr 32 (Ty.int u8)))) p2).1) p0))] [])
 | .e1 p0 p1 p2=>k Ex.ret (sx 70 [(6,CV.bool (Ty.beq (Ty.arr 32 (Ty.int u8)) ((v_60 p2 (getD (p1.2.2.1) 1 (Ty.dflt (Ty.arr 32 (Ty.int u8))))).1) p0))] [])
noncomputable def Sp.S_26_1{R:Type}(k:E_26_1->Option R)(p0:List Int)(p1:Int×List (List Int)×List (List Int)×Unit)(p2:List Int):Option R:=
 bif wrap i64 (Int.tdiv (p1.1) 2)==1 then gd (inB 1 (length (p1.2.2.1))) (gd (p_60 (getD (p1.2.2.1) 1 (Ty.dflt (Ty.arr 32 (Ty.int u8)))) p2) (k (E_26_1.e0 p0 p1 p2)))else gd (inB 1 (length (p1.2.2.1))) (gd (p_60 p2 (getD (p1.2.2.1) 1 (Ty.dflt (Ty.arr 32 (Ty.int u8))))) (k (E_26_1.e1 p0 p1 p2)))
noncomputable def Sp.J_26_1(p0:List Int)(p1:Int×List (List Int)×List (List Int)×Unit)(p2:List Int):Option E_26_1:=S_26_1 some p0 p1 p2
noncomputable def O_26_1{R:Type}:Orc R:=orL T_26_1 (fun a=>J_26_1 a.1 a.2.1 a.2.2.1) Y_26_1
theorem OK_26_1{R:Type}:okF (R:=R) sm_26 0 (nf 26 1) O_26_1:=jp noO_ok (os:=[]) trivial T_26_1 (fun R k a=>S_26_1 k a.1 a.2.1 a.2.2.1) Y_26_1 (fun k a=>by kernel_rfl) (fun Y a=>by
 unfold S_26_1
 repeat' first|apply gdN|apply condN|rfl) (ok0 _)
noncomputable def F_26(a0 a1:(List Int))(a2:(Int×((List (List Int))×((List (List Int))×Unit)))):Option (Bool×Unit) :=
 gd (p_56 a2) (bif !(v_56 a2).1 then some (false,PUnit.unit)else gd (p_57 a1) (B_26_0 (L_26_0 4611686018427387904 ((v_57 a1).1) 0 a0 a2 []) fun y15 y16 y17=>gd (p_59 y17) (bif Int.tmod (y16.1) (2:Int)==(1:Int)then gd (inB 0 (length (y16.2.2.1))) (gd (p_60 (getD (y16.2.2.1) 0 (Ty.dflt (Ty.arr 32 (Ty.int u8)))) ((v_59 y17).1)) (B_26_1 (J_26_1 y15 y16 ((v_60 (getD (y16.2.2.1) 0 (Ty.dflt (Ty.arr 32 (Ty.int u8)))) ((v_59 y17).1)).1)) (fun y18 y19 y20=>some (Ty.beq (Ty.arr 32 (Ty.int u8)) ((v_60 (getD (y19.2.2.1) 1 (Ty.dflt (Ty.arr 32 (Ty.int u8)))) y20).1) y18,PUnit.unit)) fun y21 y22 y23=>some (Ty.beq (Ty.arr 32 (Ty.int u8)) ((v_60 y23 (getD (y22.2.2.1) 1 (Ty.dflt (Ty.arr 32 (Ty.int u8))))).1) y21,PUnit.unit)))else gd (inB 0 (length (y16.2.2.1))) (gd (p_60 ((v_59 y17).1) (getD (y16.2.2.1) 0 (Ty.dflt (Ty.arr 32 (Ty.int u8))))) (B_26_1 (J_26_1 y15 y16 ((v_60 ((v_59 y17).1) (getD (y16.2.2.1) 0 (Ty.dflt (Ty.arr 32 (Ty.int u8))))).1)) (fun y24 y25 y26=>some (Ty.beq (Ty.arr 32 (Ty.int u8)) ((v_60 (getD (y25.2.2.1) 1 (Ty.dflt (Ty.arr 32 (Ty.int u8)))) y26).1) y24,PUnit.unit)) fun y27 y28 y29=>some (Ty.beq (Ty.arr 32 (Ty.int u8)) ((v_60 y29 (getD (y28.2.2.1) 1 (Ty.dflt (Ty.arr 32 (Ty.int u8))))).1) y27,PUnit.unit))))))
noncomputable def Sp.p_26(a0 a1:(List Int))(a2:(Int×((List (List Int))×((List (List Int))×Unit)))):Bool:=(F_26 a0 a1 a2).isSome
noncomputable def Sp.v_26(a0 a1:(List Int))(a2:(Int×((List (List Int))×((List (List Int))×Unit)))):Bool×Unit:=(F_26 a0 a1 a2).getD (dfH R_26)
noncomputable def s_26:Summ:=shN A_26 R_26 (fun x=>p_26 x.1 x.2.1 x.2.2.1) (fun x=>v_26 x.1 x.2.1 x.2.2.1)
theorem pv_26(a0 a1:(List Int))(a2:(Int×((List (List Int))×((List (List Int))×Unit)))){y:Bool×Unit}(h:F_26 a0 a1 a2=some y):p_26 a0 a1 a2=true/\v_26 a0 a1 a2=y:=pvG h
theorem run_26(x:HDen A_26)(y:HDen R_26)(h:F_26 x.1 x.2.1 x.2.2.1=some y):rnF sm_26 1 26 A_26 R_26 x y:=runG noO_ok (os:=[O_26_0,O_26_1]) ⟨OK_26_0,OK_26_1,trivial⟩ (Eq.trans (by kernel_rfl) h)
end
end Go.Ev
