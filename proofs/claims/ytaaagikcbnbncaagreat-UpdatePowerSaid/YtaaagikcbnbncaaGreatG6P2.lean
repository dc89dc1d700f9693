/- Helpers: functions of the program as Lean functions, and what they compute. No condition. -/
import Derived.Test.YtaaagikcbnbncaaGreatG6P1
set_option maxRecDepth 10000
set_option linter.unusedVariables false
set_option linter.unusedSimpArgs false
open Go.IntKind (wrap i64 i32 i16 i8 u64 u32 u16 u8)
open List (getD length take drop replicate)
open Int (toNat)
open Go.Ev.Sp
namespace Go.Ev
open Go
set_option maxRecDepth 100000
set_option maxHeartbeats 4000000
set_option linter.unusedVariables false
noncomputable section
abbrev Zt10_0:Type:=((List Int×List Int×Int×Unit)×List Int×Unit)×(Int×Int×Unit)×Int×Unit
abbrev Zt10_1:Type:=Int×Int×List Int×(Int×List (List Int)×List (List Int)×Unit)×Unit
abbrev Zt10_2:Type:=(List Int×List Int×Int×Unit)×List Int×Unit
abbrev Zy10_3:Ty:=(.pair (.int .i64) (.pair (.int .i64) (.pair (.arr 32 (.int .u8)) (.pair (.pair (.int .i64) (.pair (.slice (.arr 32 (.int .u8))) (.pair (.slice (.arr 32 (.int .u8))) .unit))) .unit))))
abbrev Zt10_4:Type:=List (List Int)
abbrev Zy10_5:Ty:=(.pair (.pair (.slice (.int .u32)) (.pair (.slice (.int .i64)) (.pair (.int .i64) .unit))) (.pair (.arr 32 (.int .u8)) .unit))
abbrev Zt10_6:Type:=List Int×Unit
abbrev Zy10_7:Ty:=(.pair (.pair (.pair (.slice (.int .u32)) (.pair (.slice (.int .i64)) (.pair (.int .i64) .unit))) (.pair (.arr 32 (.int .u8)) .unit)) (.pair (.pair (.int .i64) (.pair (.int .u32) .unit)) (.pair (.int .i64) .unit)))
abbrev Zt10_8:Type:=(Int×Int×Unit)×Int×Unit
abbrev Zt10_9:Type:=Int×Int×Unit
abbrev Zt10_10:Type:=Int×(Int×(Int×((Int×(Int×((List Int)×((Int×((List (List Int))×((List (List Int))×Unit)))×Unit))))×Unit)))
abbrev Zy10_11:Ty:=(.pair (.int .i64) (.pair (.int .u32) .unit))
abbrev Zy10_12:Ty:=(.pair (.arr 32 (.int .u8)) .unit)
abbrev Zt10_13:Type:=(((List Int)×((List Int)×(Int×Unit)))×((List Int)×Unit))
abbrev Zt10_14:Type:=(Int×(Int×(Int×((Int×(Int×((List Int)×((Int×((List (List Int))×((List (List Int))×Unit)))×Unit))))×Unit))))
abbrev Zy10_15:Ty:=(.pair (.pair (.int .i64) (.pair (.int .u32) .unit)) (.pair (.int .i64) .unit))
abbrev Zt10_16:Type:=(Int×(Int×Unit))
abbrev A_10:List Ty:=[(.pair (.int .i64) (.pair (.int .i64) (.pair (.int .i64) (.pair (.pair (.int .i64) (.pair (.int .i64) (.pair (.arr 32 (.int .u8)) (.pair (.pair (.int .i64) (.pair (.slice (.arr 32 (.int .u8))) (.pair (.slice (.arr 32 (.int .u8))) .unit))) .unit)))) .unit)))),(.pair (.pair (.slice (.int .u32)) (.pair (.slice (.int .i64)) (.pair (.int .i64) .unit))) (.pair (.arr 32 (.int .u8)) .unit)),(.pair (.int .i64) (.pair (.int .i64) (.pair (.arr 32 (.int .u8)) (.pair (.pair (.int .i64) (.pair (.slice (.arr 32 (.int .u8))) (.pair (.slice (.arr 32 (.int .u8))) .unit))) .unit)))),(.pair (.int .i64) (.pair (.int .u32) .unit))]
abbrev R_10:List Ty:=[(.pair (.int .i64) (.pair (.int .i64) (.pair (.int .i64) (.pair (.pair (.int .i64) (.pair (.int .i64) (.pair (.arr 32 (.int .u8)) (.pair (.pair (.int .i64) (.pair (.slice (.arr 32 (.int .u8))) (.pair (.slice (.arr 32 (.int .u8))) .unit))) .unit)))) .unit)))),(.pair (.pair (.slice (.int .u32)) (.pair (.slice (.int .i64)) (.pair (.int .i64) .unit))) (.pair (.arr 32 (.int .u8)) .unit)),(.pair (.int .i64) (.pair (.int .u32) .unit)),(.int .i64)]
noncomputable def sm_10:Nat->Option Summ:=smL [(29,s_29),(37,s_37),(39,s_39),(40,s_40),(41,s_41),(42,s_42),(43,s_43),(44,s_44),(45,s_45),(46,s_46),(47,s_47),(51,s_51),(90,s_90),(91,s_91),(92,s_92),(93,s_93)]
noncomputable def T_10_50_0_1:PS:=⟨49,[(0,.kc (.ptr 9 [])),(1,.hv (.int .i64)),(8,.hv (.slice (.int .u32))),(9,.hv (.int .i64)),(10,.hv (.int .i64))],[.mem (.hv Zy10_5),.mem (.hv Zy10_3),.mem (.pr (.hv (.int .i64)) (.pr (.hv (.int .i64)) (.pr (.hv (.int .i64)) (.pr (.pr (.hv (.int .i64)) (.pr (.hv (.int .i64)) (.pr (.hv (.arr 32 (.int .u8))) (.pr (.pr (.hv (.int .i64)) (.kc (.pair (.whole 3) (.pair (.whole 4) (.pure .unit PUnit.unit))))) (.kc (.pure .unit PUnit.unit)))))) (.kc (.pure .unit PUnit.unit)))))),.vec 23 (.arr 32 (.int .u8)),.vec 23 (.arr 32 (.int .u8)),.mem (.pr (.pr (.kc (.whole 6)) (.pr (.kc (.whole 7)) (.hv (.pair (.int .i64) .unit)))) (.hv Zy10_12)),.vec 37 (.int .u32),.vec 3 (.int .i64),.mem (.hv Zy10_11),.mem (.hv Zy10_7),.fvec 37 (.int .u32),.fvec 3 (.int .i64),.fresh,.fresh],14⟩
inductive Sp.E_10_50_0_1 where
 |e0 (p4:Zt10_2) (p5:Zt10_1) (p6 p7 p8 p9 p10:Int) (p11:List Int) (p12:Int) (p13 p14:Zt10_4) (p15:Int×Unit) (p16:Zt10_6) (p17 p18:List Int) (p19:Zt10_9) (p20:Zt10_0) (p21 p22:List Int)
noncomputable def Sp.B_10_50_0_1{R:Type}(r:Option E_10_50_0_1)(k0:Zt10_2->Zt10_1->Int->Int->Int->Int->Int->List Int->Int->Zt10_4->Zt10_4->(Int×Unit)->Zt10_6->List Int->List Int->Zt10_9->Zt10_0->List Int->List Int->Option R):Option R:=match r with
 |none=>none
 |some (.e0 p4 p5 p6 p7 p8 p9 p10 p11 p12 p13 p14 p15 p16 p17 p18 p19 p20 p21 p22)=>k0 p4 p5 p6 p7 p8 p9 p10 p11 p12 p13 p14 p15 p16 p17 p18 p19 p20 p21 p22
noncomputable def Y_10_50_0_1{R:Type}(k:Ex->St->Option R):E_10_50_0_1->Option R
 | .e0 p4 p5 p6 p7 p8 p9 p10 p11 p12 p13 p14 p15 p16 p17 p18 p19 p20 p21 p22=>k (Ex.exit 0) (sx 49 [] [Blk.mem (CV.pure (Ty.pair (Ty.pair (Ty.slice (Ty.int u32)) (Ty.pair (Ty.slice (Ty.int i64)) (Ty.pair (Ty.int i64) Ty.unit))) (Ty.pair (Ty.arr 32 (Ty.int u8)) Ty.unit)) p4),Blk.mem (CV.pure (Ty.pair (Ty.int i64) (Ty.pair (Ty.int i64) (Ty.pair (Ty.arr 32 (Ty.int u8)) (Ty.pair (Ty.pair (Ty.int i64) (Ty.pair (Ty.slice (Ty.arr 32 (Ty.int u8))) (Ty.pair (Ty.slice (Ty.arr 32 (Ty.int u8))) Ty.unit))) Ty.unit)))) p5),Blk.mem (CV.pair (CV.int i64 p6) (CV.pair (CV.int i64 p7) (CV.pair (CV.int i64 p8) (CV.pair (CV.pair (CV.int i64 p9) (CV.pair (CV.int i64 p10) (CV.pair (CV.pure (Ty.arr 32 (Ty.int u8)) p11) (CV.pair (CV.pair (CV.int i64 p12) (CV.pair (CV.whole 3) (CV.pair (CV.whole 4) (CV.pure Ty.unit PUnit.unit)))) (CV.pure Ty.unit PUnit.unit))))) (CV.pure Ty.unit PUnit.unit))))),Blk.vec 23 (Ty.arr 32 (Ty.int u8)) p13,Blk.vec 23 (Ty.arr 32 (Ty.int u8)) p14,Blk.mem (CV.pair (CV.pair (CV.whole 6) (CV.pair (CV.whole 7) (CV.pure (Ty.pair (Ty.int i64) Ty.unit) p15))) (CV.pure (Ty.pair (Ty.arr 32 (Ty.int u8)) Ty.unit) p16)),Blk.vec 37 (Ty.int u32) p17,Blk.vec 3 (Ty.int i64) p18,Blk.mem (CV.pure (Ty.pair (Ty.int i64) (Ty.pair (Ty.int u32) Ty.unit)) p19),Blk.mem (CV.pure (Ty.pair (Ty.pair (Ty.pair (Ty.slice (Ty.int u32)) (Ty.pair (Ty.slice (Ty.int i64)) (Ty.pair (Ty.int i64) Ty.unit))) (Ty.pair (Ty.arr 32 (Ty.int u8)) Ty.unit)) (Ty.pair (Ty.pair (Ty.int i64) (Ty.pair (Ty.int u32) Ty.unit)) (Ty.pair (Ty.int i64) Ty.unit))) p20),Blk.fvec 37 (Ty.int u32) p21,Blk.fvec 3 (Ty.int i64) p22,Blk.fresh,Blk.fresh] 14)
noncomputable def Sp.S_10_50_0_1{R:Type}(K:Int->List Int->Int->Int->((List Int×List Int×Int×Unit)×List Int×Unit)->(Int×Int×List Int×(Int×List (List Int)×List (List Int)×Unit)×Unit)->Int->Int->Int->Int->Int->List Int->Int->List (List Int)->List (List Int)->(Int×Unit)->(List Int×Unit)->List Int->List Int->(Int×Int×Unit)->(((List Int×List Int×Int×Unit)×List Int×Unit)×(Int×Int×Unit)×Int×Unit)->List Int->List Int->Option R)(k:E_10_50_0_1->Option R)(p0:Int)(p1:List Int)(p2 p3:Int)(p4:(List Int×List Int×Int×Unit)×List Int×Unit)(p5:Int×Int×List Int×(Int×List (List Int)×List (List Int)×Unit)×Unit)(p6 p7 p8 p9 p10:Int)(p11:List Int)(p12:Int)(p13 p14:List (List Int))(p15:Int×Unit)(p16:List Int×Unit)(p17 p18:List Int)(p19:Int×Int×Unit)(p20:((List Int×List Int×Int×Unit)×List Int×Unit)×(Int×Int×Unit)×Int×Unit)(p21 p22:List Int):Option R:=
 bif decide (p3<p2)then gd (inB p3 (length p1)) (bif p20.2.2.1==0 then gd (p_93 (p20.1.1) (wrap i64 (p0+p3)) (getD p1 (toNat p3) 0) (p20.2.1)) (K p0 p1 p2 (wrap i64 (p3+1)) p4 p5 p6 p7 p8 p9 p10 p11 p12 p13 p14 p15 p16 p17 p18 p19 (((v_93 (p20.1.1) (wrap i64 (p0+p3)) (getD p1 (toNat p3) 0) (p20.2.1)).1,p20.1.2),(v_93 (p20.1.1) (wrap i64 (p0+p3)) (getD p1 (toNat p3) 0) (p20.2.1)).2.1,(v_93 (p20.1.1) (wrap i64 (p0+p3)) (getD p1 (toNat p3) 0) (p20.2.1)).2.2.1,p20.2.2.2) p21 p22)else K p0 p1 p2 (wrap i64 (p3+1)) p4 p5 p6 p7 p8 p9 p10 p11 p12 p13 p14 p15 p16 p17 p18 p19 p20 p21 p22)else k (E_10_50_0_1.e0 p4 p5 p6 p7 p8 p9 p10 p11 p12 p13 p14 p15 p16 p17 p18 p19 p20 p21 p22)
noncomputable def Sp.L_10_50_0_1:Nat->Int->List Int->Int->Int->((List Int×List Int×Int×Unit)×List Int×Unit)->(Int×Int×List Int×(Int×List (List Int)×List (List Int)×Unit)×Unit)->Int->Int->Int->Int->Int->List Int->Int->List (List Int)->List (List Int)->(Int×Unit)->(List Int×Unit)->List Int->List Int->(Int×Int×Unit)->(((List Int×List Int×Int×Unit)×List Int×Unit)×(Int×Int×Unit)×Int×Unit)->List Int->List Int->Option E_10_50_0_1
 |0,_,_,_,_,_,_,_,_,_,_,_,_,_,_,_,_,_,_,_,_,_,_,_=>none
 |m+1,p0,p1,p2,p3,p4,p5,p6,p7,p8,p9,p10,p11,p12,p13,p14,p15,p16,p17,p18,p19,p20,p21,p22=>S_10_50_0_1 (L_10_50_0_1 m) some p0 p1 p2 p3 p4 p5 p6 p7 p8 p9 p10 p11 p12 p13 p14 p15 p16 p17 p18 p19 p20 p21 p22
noncomputable def l_10_50_0_1(m:Nat)(a:T_10_50_0_1.E):Option E_10_50_0_1:=L_10_50_0_1 m a.1 a.2.1 a.2.2.1 a.2.2.2.1 a.2.2.2.2.1 a.2.2.2.2.2.1 a.2.2.2.2.2.2.1 a.2.2.2.2.2.2.2.1 a.2.2.2.2.2.2.2.2.1 a.2.2.2.2.2.2.2.2.2.1 a.2.2.2.2.2.2.2.2.2.2.1 a.2.2.2.2.2.2.2.2.2.2.2.1 a.2.2.2.2.2.2.2.2.2.2.2.2.1 a.2.2.2.2.2.2.2.2.2.2.2.2.2.1 a.2.2.2.2.2.2.2.2.2.2.2.2.2.2.1 a.2.2.2.2.2.2.2.2.2.2.2.2.2.2.2.1 a.2.2.2.2.2.2.2.2.2.2.2.2.2.2.2.2.1 a.2.2.2.2.2.2.2.2.2.2.2.2.2.2.2.2.2.1 a.2.2.2.2.2.2.2.2.2.2.2.2.2.2.2.2.2.2.1 a.2.2.2.2.2.2.2.2.2.2.2.2.2.2.2.2.2.2.2.1 a.2.2.2.2.2.2.2.2.2.2.2.2.2.2.2.2.2.2.2.2.1 a.2.2.2.2.2.2.2.2.2.2.2.2.2.2.2.2.2.2.2.2.2.1 a.2.2.2.2.2.2.2.2.2.2.2.2.2.2.2.2.2.2.2.2.2.2.1
noncomputable def O_10_50_0_1{R:Type}:Orc R:=orL T_10_50_0_1 (l_10_50_0_1 FU) Y_10_50_0_1
theorem loop_10_50_0_1{R:Type}(k:Ex->St->Option R):∀m a,evLoopN (evCodeL sm_10 FU (ovr noO (evFn sm_10 fns FU 0)) (mkT (inner (nf 50 0)) []) (inner (nf 50 0))) (St.norm (lv (nf 50 0))) m (T_10_50_0_1.inst a) k=(l_10_50_0_1 m a).bind (Y_10_50_0_1 k):=lpN l_10_50_0_1 (fun R K k a=>S_10_50_0_1 (fun p0 p1 p2 p3 p4 p5 p6 p7 p8 p9 p10 p11 p12 p13 p14 p15 p16 p17 p18 p19 p20 p21 p22=>K (p0,p1,p2,p3,p4,p5,p6,p7,p8,p9,p10,p11,p12,p13,p14,p15,p16,p17,p18,p19,p20,p21,p22,())) k a.1 a.2.1 a.2.2.1 a.2.2.2.1 a.2.2.2.2.1 a.2.2.2.2.2.1 a.2.2.2.2.2.2.1 a.2.2.2.2.2.2.2.1 a.2.2.2.2.2.2.2.2.1 a.2.2.2.2.2.2.2.2.2.1 a.2.2.2.2.2.2.2.2.2.2.1 a.2.2.2.2.2.2.2.2.2.2.2.1 a.2.2.2.2.2.2.2.2.2.2.2.2.1 a.2.2.2.2.2.2.2.2.2.2.2.2.2.1 a.2.2.2.2.2.2.2.2.2.2.2.2.2.2.1 a.2.2.2.2.2.2.2.2.2.2.2.2.2.2.2.1 a.2.2.2.2.2.2.2.2.2.2.2.2.2.2.2.2.1 a.2.2.2.2.2.2.2.2.2.2.2.2.2.2.2.2.2.1 a.2.2.2.2.2.2.2.2.2.2.2.2.2.2.2.2.2.2.1 a.2.2.2.2.2.2.2.2.2.2.2.2.2.2.2.2.2.2.2.1 a.2.2.2.2.2.2.2.2.2.2.2.2.2.2.2.2.2.2.2.2.1 a.2.2.2.2.2.2.2.2.2.2.2.2.2.2.2.2.2.2.2.2.2.1 a.2.2.2.2.2.2.2.2.2.2.2.2.2.2.2.2.2.2.2.2.2.2.1) (fun _=>rfl) (fun _ _=>rfl) (fun K a=>by kernel_rfl) (fun K a=>by
 unfold S_10_50_0_1
 repeat' first|apply gdN|apply condN|rfl)
theorem OK_10_50_0_1{R:Type}:okF (R:=R) sm_10 0 (nf 50 0) O_10_50_0_1:=lp0 T_10_50_0_1 l_10_50_0_1 (fun R K k a=>S_10_50_0_1 (fun p0 p1 p2 p3 p4 p5 p6 p7 p8 p9 p10 p11 p12 p13 p14 p15 p16 p17 p18 p19 p20 p21 p22=>K (p0,p1,p2,p3,p4,p5,p6,p7,p8,p9,p10,p11,p12,p13,p14,p15,p16,p17,p18,p19,p20,p21,p22,())) k a.1 a.2.1 a.2.2.1 a.2.2.2.1 a.2.2.2.2.1 a.2.2.2.2.2.1 a.2.2.2.2.2.2.1 a.2.2.2.2.2.2.2.1 a.2.2.2.2.2.2.2.2.1 a.2.2.2.2.2.2.2.2.2.1 a.2.2.2.2.2.2.2.2.2.2.1 a.2.2.2.2.2.2.2.2.2.2.2.1 a.2.2.2.2.2.2.2.2.2.2.2.2.1 a.2.2.2.2.2.2.2.2.2.2.2.2.2.1 a.2.2.2.2.2.2.2.2.2.2.2.2.2.2.1 a.2.2.2.2.2.2.2.2.2.2.2.2.2.2.2.1 a.2.2.2.2.2.2.2.2.2.2.2.2.2.2.2.2.1 a.2.2.2.2.2.2.2.2.2.2.2.2.2.2.2.2.2.1 a.2.2.2.2.2.2.2.2.2.2.2.2.2.2.2.2.2.2.1 a.2.2.2.2.2.2.2.2.2.2.2.2.2.2.2.2.2.2.2.1 a.2.2.2.2.2.2.2.2.2.2.2.2.2.2.2.2.2.2.2.2.1 a.2.2.2.2.2.2.2.2.2.2.2.2.2.2.2.2.2.2.2.2.2.1 a.2.2.2.2.2.2.2.2.2.2.2.2.2.2.2.2.2.2.2.2.2.2.1) Y_10_50_0_1 (fun _ _ _=>by kernel_rfl) (fun _ _ _=>by
 unfold S_10_50_0_1
 repeat' first|apply gdN|apply condN|rfl) (ok0 _)
noncomputable def T_10_50_0_0:PS:=⟨49,[(0,.kc (.ptr 9 [])),(1,.hv (.int .i64)),(8,.hv (.slice (.int .u32))),(9,.hv (.int .i64)),(10,.hv (.int .i64))],[.mem (.hv Zy10_5),.mem (.hv Zy10_3),.mem (.pr (.hv (.int .i64)) (.pr (.hv (.int .i64)) (.pr (.hv (.int .i64)) (.pr (.pr (.hv (.int .i64)) (.pr (.hv (.int .i64)) (.pr (.hv (.arr 32 (.int .u8))) (.pr (.pr (.hv (.int .i64)) (.kc (.pair (.whole 3) (.pair (.whole 4) (.pure .unit PUnit.unit))))) (.kc (.pure .unit PUnit.unit)))))) (.kc (.pure .unit PUnit.unit)))))),.vec 23 (.arr 32 (.int .u8)),.vec 23 (.arr 32 (.int .u8)),.mem (.pr (.pr (.kc (.whole 6)) (.pr (.kc (.whole 7)) (.hv (.pair (.int .i64) .unit)))) (.hv Zy10_12)),.vec 37 (.int .u32),.vec 3 (.int .i64),.mem (.hv Zy10_11),.mem (.pr (.pr (.pr (.kc (.whole 10)) (.pr (.kc (.whole 11)) (.hv (.pair (.int .i64) .unit)))) (.hv Zy10_12)) (.hv Zy10_15)),.vec 37 (.int .u32),.vec 3 (.int .i64),.fresh,.fresh],14⟩
inductive Sp.E_10_50_0_0 where
 |e0 (p4:Zt10_2) (p5:Zt10_1) (p6 p7 p8 p9 p10:Int) (p11:List Int) (p12:Int) (p13 p14:Zt10_4) (p15:Int×Unit) (p16:Zt10_6) (p17 p18:List Int) (p19:Zt10_9) (p20:Int×Unit) (p21:Zt10_6) (p22:Zt10_8) (p23 p24:List Int)
 |e1 (p4:Zt10_2) (p5:Zt10_1) (p6 p7 p8 p9 p10:Int) (p11:List Int) (p12:Int) (p13 p14:Zt10_4) (p15:Int×Unit) (p16:Zt10_6) (p17 p18:List Int) (p19:Zt10_9) (p20:Zt10_0) (p21 p22:List Int)
noncomputable def Sp.B_10_50_0_0{R:Type}(r:Option E_10_50_0_0)(k0:Zt10_2->Zt10_1->Int->Int->Int->Int->Int->List Int->Int->Zt10_4->Zt10_4->(Int×Unit)->Zt10_6->List Int->List Int->Zt10_9->(Int×Unit)->Zt10_6->Zt10_8->List Int->List Int->Option R)(k1:Zt10_2->Zt10_1->Int->Int->Int->Int->Int->List Int->Int->Zt10_4->Zt10_4->(Int×Unit)->Zt10_6->List Int->List Int->Zt10_9->Zt10_0->List Int->List Int->Option R):Option R:=match r with
 |none=>none
 |some (.e0 p4 p5 p6 p7 p8 p9 p10 p11 p12 p13 p14 p15 p16 p17 p18 p19 p20 p21 p22 p23 p24)=>k0 p4 p5 p6 p7 p8 p9 p10 p11 p12 p13 p14 p15 p16 p17 p18 p19 p20 p21 p22 p23 p24
 |some (.e1 p4 p5 p6 p7 p8 p9 p10 p11 p12 p13 p14 p15 p16 p17 p18 p19 p20 p21 p22)=>k1 p4 p5 p6 p7 p8 p9 p10 p11 p12 p13 p14 p15 p16 p17 p18 p19 p20 p21 p22
theorem Bn_10_50_0_0{A R:Type}{r:Option E_10_50_0_0}{f:A->Option R}{k0:Zt10_2->Zt10_1->Int->Int->Int->Int->Int->List Int->Int->Zt10_4->Zt10_4->(Int×Unit)->Zt10_6->List Int->List Int->Zt10_9->(Int×Unit)->Zt10_6->Zt10_8->List Int->List Int->Option A}{k1:Zt10_2->Zt10_1->Int->Int->Int->Int->Int->List Int->Int->Zt10_4->Zt10_4->(Int×Unit)->Zt10_6->List Int->List Int->Zt10_9->Zt10_0->List Int->List Int->Option A}{l0:Zt10_2->Zt10_1->Int->Int->Int->Int->Int->List Int->Int->Zt10_4->Zt10_4->(Int×Unit)->Zt10_6->List Int->List Int->Zt10_9->(Int×Unit)->Zt10_6->Zt10_8->List Int->List Int->Option R}{l1:Zt10_2->Zt10_1->Int->Int->Int->Int->Int->List Int->Int->Zt10_4->Zt10_4->(Int×Unit)->Zt10_6->List Int->List Int->Zt10_9->Zt10_0->List Int->List Int->Option R}(h0:∀p4 p5 p6 p7 p8 p9 p10 p11 p12 p13 p14 p15 p16 p17 p18 p19 p20 p21 p22 p23 p24,(k0 p4 p5 p6 p7 p8 p9 p10 p11 p12 p13 p14 p15 p16 p17 p18 p19 p20 p21 p22 p23 p24).bind f=l0 p4 p5 p6 p7 p8 p9 p10 p11 p12 p13 p14 p15 p16 p17 p18 p19 p20 p21 p22 p23 p24)(h1:∀p4 p5 p6 p7 p8 p9 p10 p11 p12 p13 p14 p15 p16 p17 p18 p19 p20 p21 p22,(k1 p4 p5 p6 p7 p8 p9 p10 p11 p12 p13 p14 p15 p16 p17 p18 p19 p20 p21 p22).bind f=l1 p4 p5 p6 p7 p8 p9 p10 p11 p12 p13 p14 p15 p16 p17 p18 p19 p20 p21 p22):(B_10_50_0_0 r k0 k1).bind f=B_10_50_0_0 r l0 l1:=by
 cases r with
 |none=>rfl
 |some e=>cases e<;>first|apply h0|apply h1
noncomputable def Y_10_50_0_0{R:Type}(k:Ex->St->Option R):E_10_50_0_0->Option R
 | .e0 p4 p5 p6 p7 p8 p9 p10 p11 p12 p13 p14 p15 p16 p17 p18 p19 p20 p21 p22 p23 p24=>k (Ex.exit 0) (sx 49 [] [Blk.mem (CV.pure (Ty.pair (Ty.pair (Ty.slice (Ty.int u32)) (Ty.pair (Ty.slice (Ty.int i64)) (Ty.pair (Ty.int i64) Ty.unit))) (Ty.pair (Ty.arr 32 (Ty.int u8)) Ty.unit)) p4),Blk.mem (CV.pure (Ty.pair (Ty.int i64) (Ty.pair (Ty.int i64) (Ty.pair (Ty.arr 32 (Ty.int u8)) (Ty.pair (Ty.pair (Ty.int i64) (Ty.pair (Ty.slice (Ty.arr 32 (Ty.int u8))) (Ty.pair (Ty.slice (Ty.arr 32 (Ty.int u8))) Ty.unit))) Ty.unit)))) p5),Blk.mem (CV.pair (CV.int i64 p6) (CV.pair (CV.int i64 p7) (CV.pair (CV.int i64 p8) (CV.pair (CV.pair (CV.int i64 p9) (CV.pair (CV.int i64 p10) (CV.pair (CV.pure (Ty.arr 32 (Ty.int u8)) p11) (CV.pair (CV.pair (CV.int i64 p12) (CV.pair (CV.whole 3) (CV.pair (CV.whole 4) (CV.pure Ty.unit PUnit.unit)))) (CV.pure Ty.unit PUnit.unit))))) (CV.pure Ty.unit PUnit.unit))))),Blk.vec 23 (Ty.arr 32 (Ty.int u8)) p13,Blk.vec 23 (Ty.arr 32 (Ty.int u8)) p14,Blk.mem (CV.pair (CV.pair (CV.whole 6) (CV.pair (CV.whole 7) (CV.pure (Ty.pair (Ty.int i64) Ty.unit) p15))) (CV.pure (Ty.pair (Ty.arr 32 (Ty.int u8)) Ty.unit) p16)),Blk.vec 37 (Ty.int u32) p17,Blk.vec 3 (Ty.int i64) p18,Blk.mem (CV.pure (Ty.pair (Ty.int i64) (Ty.pair (Ty.int u32) Ty.unit)) p19),Blk.mem (CV.pair (CV.pair (CV.pair (CV.whole 10) (CV.pair (CV.whole 11) (CV.pure (Ty.pair (Ty.int i64) Ty.unit) p20))) (CV.pure (Ty.pair (Ty.arr 32 (Ty.int u8)) Ty.unit) p21)) (CV.pure (Ty.pair (Ty.pair (Ty.int i64) (Ty.pair (Ty.int u32) Ty.unit)) (Ty.pair (Ty.int i64) Ty.unit)) p22)),Blk.vec 37 (Ty.int u32) p23,Blk.vec 3 (Ty.int i64) p24,Blk.fresh,Blk.fresh] 14)
 | .e1 p4 p5 p6 p7 p8 p9 p10 p11 p12 p13 p14 p15 p16 p17 p18 p19 p20 p21 p22=>k (Ex.exit 0) (sx 49 [] [Blk.mem (CV.pure (Ty.pair (Ty.pair (Ty.slice (Ty.int u32)) (Ty.pair (Ty.slice (Ty.int i64)) (Ty.pair (Ty.int i64) Ty.unit))) (Ty.pair (Ty.arr 32 (Ty.int u8)) Ty.unit)) p4),Blk.mem (CV.pure (Ty.pair (Ty.int i64) (Ty.pair (Ty.int i64) (Ty.pair (Ty.arr 32 (Ty.int u8)) (Ty.pair (Ty.pair (Ty.int i64) (Ty.pair (Ty.slice (Ty.arr 32 (Ty.int u8))) (Ty.pair (Ty.slice (Ty.arr 32 (Ty.int u8))) Ty.unit))) Ty.unit)))) p5),Blk.mem (CV.pair (CV.int i64 p6) (CV.pair (CV.int i64 p7) (CV.pair (CV.int i64 p8) (CV.pair (CV.pair (CV.int i64 p9) (CV.pair (CV.int i64 p10) (CV.pair (CV.pure (Ty.arr 32 (Ty.int u8)) p11) (CV.pair (CV.pair (CV.int i64 p12) (CV.pair (CV.whole 3) (CV.pair (CV.whole 4) (CV.pure Ty.unit PUnit.unit)))) (CV.pure Ty.unit PUnit.unit))))) (CV.pure Ty.unit PUnit.unit))))),Blk.vec 23 (Ty.arr 32 (Ty.int u8)) p13,Blk.vec 23 (Ty.arr 32 (Ty.int u8)) p14,Blk.mem (CV.pair (CV.pair (CV.whole 6) (CV.pair (CV.whole 7) (CV.pure (Ty.pair (Ty.int i64) Ty.unit) p15))) (CV.pure (Ty.pair (Ty.arr 32 (Ty.int u8)) Ty.unit) p16)),Blk.vec 37 (Ty.int u32) p17,Blk.vec 3 (Ty.int i64) p18,Blk.mem (CV.pure (Ty.pair (Ty.int i64) (Ty.pair (Ty.int u32) Ty.unit)) p19),Blk.mem (CV.pure (Ty.pair (Ty.pair (Ty.pair (Ty.slice (Ty.int u32)) (Ty.pair (Ty.slice (Ty.int i64)) (Ty.pair (Ty.int i64) Ty.unit))) (Ty.pair (Ty.arr 32 (Ty.int u8)) Ty.unit)) (Ty.pair (Ty.pair (Ty.int i64) (Ty.pair (Ty.int u32) Ty.unit)) (Ty.pair (Ty.int i64) Ty.unit))) p20),Blk.fvec 37 (Ty.int u32) p21,Blk.fvec 3 (Ty.int i64) p22,Blk.fresh,Blk.fresh] 14)
noncomputable def Sp.S_10_50_0_0{R:Type}(K:Int->List Int->Int->Int->((List Int×List Int×Int×Unit)×List Int×Unit)->(Int×Int×List Int×(Int×List (List Int)×List (List Int)×Unit)×Unit)->Int->Int->Int->Int->Int->List Int->Int->List (List Int)->List (List Int)->(Int×Unit)->(List Int×Unit)->List Int->List Int->(Int×Int×Unit)->(Int×Unit)->(List Int×Unit)->((Int×Int×Unit)×Int×Unit)->List Int->List Int->Option R)(KB:Int->List Int->Int->Int->((List Int×List Int×Int×Unit)×List Int×Unit)->(Int×Int×List Int×(Int×List (List Int)×List (List Int)×Unit)×Unit)->Int->Int->Int->Int->Int->List Int->Int->List (List Int)->List (List Int)->(Int×Unit)->(List Int×Unit)->List Int->List Int->(Int×Int×Unit)->(((List Int×List Int×Int×Unit)×List Int×Unit)×(Int×Int×Unit)×Int×Unit)->List Int->List Int->Option R)(k:E_10_50_0_0->Option R)(p0:Int)(p1:List Int)(p2 p3:Int)(p4:(List Int×List Int×Int×Unit)×List Int×Unit)(p5:Int×Int×List Int×(Int×List (List Int)×List (List Int)×Unit)×Unit)(p6 p7 p8 p9 p10:Int)(p11:List Int)(p12:Int)(p13 p14:List (List Int))(p15:Int×Unit)(p16:List Int×Unit)(p17 p18:List Int)(p19:Int×Int×Unit)(p20:Int×Unit)(p21:List Int×Unit)(p22:(Int×Int×Unit)×Int×Unit)(p23 p24:List Int):Option R:=
 bif decide (p3<p2)then gd (inB p3 (length p1)) (bif p22.2.1==0 then gd (p_93 (p23,p24,p20) (wrap i64 (p0+p3)) (getD p1 (toNat p3) 0) (p22.1)) (KB p0 p1 p2 (wrap i64 (p3+1)) p4 p5 p6 p7 p8 p9 p10 p11 p12 p13 p14 p15 p16 p17 p18 p19 (((v_93 (p23,p24,p20) (wrap i64 (p0+p3)) (getD p1 (toNat p3) 0) (p22.1)).1,p21),(v_93 (p23,p24,p20) (wrap i64 (p0+p3)) (getD p1 (toNat p3) 0) (p22.1)).2.1,(v_93 (p23,p24,p20) (wrap i64 (p0+p3)) (getD p1 (toNat p3) 0) (p22.1)).2.2.1,p22.2.2) p23 p24)else K p0 p1 p2 (wrap i64 (p3+1)) p4 p5 p6 p7 p8 p9 p10 p11 p12 p13 p14 p15 p16 p17 p18 p19 p20 p21 p22 p23 p24)else k (E_10_50_0_0.e0 p4 p5 p6 p7 p8 p9 p10 p11 p12 p13 p14 p15 p16 p17 p18 p19 p20 p21 p22 p23 p24)
noncomputable def C_10_50_0_0:E_10_50_0_1->E_10_50_0_0
 | .e0 p4 p5 p6 p7 p8 p9 p10 p11 p12 p13 p14 p15 p16 p17 p18 p19 p20 p21 p22=> .e1 p4 p5 p6 p7 p8 p9 p10 p11 p12 p13 p14 p15 p16 p17 p18 p19 p20 p21 p22
theorem BC_10_50_0_0(r:Option E_10_50_0_1):B_10_50_0_1 r (fun p4 p5 p6 p7 p8 p9 p10 p11 p12 p13 p14 p15 p16 p17 p18 p19 p20 p21 p22=>some (E_10_50_0_0.e1 p4 p5 p6 p7 p8 p9 p10 p11 p12 p13 p14 p15 p16 p17 p18 p19 p20 p21 p22))=r.bind fun e=>some (C_10_50_0_0 e):=by
 cases r with
 |none=>rfl
 |some e=>cases e<;>rfl
noncomputable def Sp.L_10_50_0_0:Nat->Int->List Int->Int->Int->((List Int×List Int×Int×Unit)×List Int×Unit)->(Int×Int×List Int×(Int×List (List Int)×List (List Int)×Unit)×Unit)->Int->Int->Int->Int->Int->List Int->Int->List (List Int)->List (List Int)->(Int×Unit)->(List Int×Unit)->List Int->List Int->(Int×Int×Unit)->(Int×Unit)->(List Int×Unit)->((Int×Int×Unit)×Int×Unit)->List Int->List Int->Option E_10_50_0_0
 |0,_,_,_,_,_,_,_,_,_,_,_,_,_,_,_,_,_,_,_,_,_,_,_,_,_=>none
 |m+1,p0,p1,p2,p3,p4,p5,p6,p7,p8,p9,p10,p11,p12,p13,p14,p15,p16,p17,p18,p19,p20,p21,p22,p23,p24=>S_10_50_0_0 (L_10_50_0_0 m) (fun q0 q1 q2 q3 q4 q5 q6 q7 q8 q9 q10 q11 q12 q13 q14 q15 q16 q17 q18 q19 q20 q21 q22=>B_10_50_0_1 (L_10_50_0_1 m q0 q1 q2 q3 q4 q5 q6 q7 q8 q9 q10 q11 q12 q13 q14 q15 q16 q17 q18 q19 q20 q21 q22) (fun p4 p5 p6 p7 p8 p9 p10 p11 p12 p13 p14 p15 p16 p17 p18 p19 p20 p21 p22=>some (E_10_50_0_0.e1 p4 p5 p6 p7 p8 p9 p10 p11 p12 p13 p14 p15 p16 p17 p18 p19 p20 p21 p22))) some p0 p1 p2 p3 p4 p5 p6 p7 p8 p9 p10 p11 p12 p13 p14 p15 p16 p17 p18 p19 p20 p21 p22 p23 p24
noncomputable def l_10_50_0_0(m:Nat)(a:T_10_50_0_0.E):Option E_10_50_0_0:=L_10_50_0_0 m a.1 a.2.1 a.2.2.1 a.2.2.2.1 a.2.2.2.2.1 a.2.2.2.2.2.1 a.2.2.2.2.2.2.1 a.2.2.2.2.2.2.2.1 a.2.2.2.2.2.2.2.2.1 a.2.2.2.2.2.2.2.2.2.1 a.2.2.2.2.2.2.2.2.2.2.1 a.2.2.2.2.2.2.2.2.2.2.2.1 a.2.2.2.2.2.2.2.2.2.2.2.2.1 a.2.2.2.2.2.2.2.2.2.2.2.2.2.1 a.2.2.2.2.2.2.2.2.2.2.2.2.2.2.1 a.2.2.2.2.2.2.2.2.2.2.2.2.2.2.2.1 a.2.2.2.2.2.2.2.2.2.2.2.2.2.2.2.2.1 a.2.2.2.2.2.2.2.2.2.2.2.2.2.2.2.2.2.1 a.2.2.2.2.2.2.2.2.2.2.2.2.2.2.2.2.2.2.1 a.2.2.2.2.2.2.2.2.2.2.2.2.2.2.2.2.2.2.2.1 a.2.2.2.2.2.2.2.2.2.2.2.2.2.2.2.2.2.2.2.2.1 a.2.2.2.2.2.2.2.2.2.2.2.2.2.2.2.2.2.2.2.2.2.1 a.2.2.2.2.2.2.2.2.2.2.2.2.2.2.2.2.2.2.2.2.2.2.1 a.2.2.2.2.2.2.2.2.2.2.2.2.2.2.2.2.2.2.2.2.2.2.2.1 a.2.2.2.2.2.2.2.2.2.2.2.2.2.2.2.2.2.2.2.2.2.2.2.2.1
noncomputable def O_10_50_0_0{R:Type}:Orc R:=orL T_10_50_0_0 (l_10_50_0_0 FU) Y_10_50_0_0 O_10_50_0_1
theorem OK_10_50_0_0{R:Type}:okF (R:=R) sm_10 0 (nf 50 0) O_10_50_0_0:=lp2 noO_ok (os:=[]) trivial T_10_50_0_0 T_10_50_0_1 l_10_50_0_0 l_10_50_0_1 (fun R K KB k a=>S_10_50_0_0 (fun p0 p1 p2 p3 p4 p5 p6 p7 p8 p9 p10 p11 p12 p13 p14 p15 p16 p17 p18 p19 p20 p21 p22 p23 p24=>K (p0,p1,p2,p3,p4,p5,p6,p7,p8,p9,p10,p11,p12,p13,p14,p15,p16,p17,p18,p19,p20,p21,p22,p23,p24,())) (fun q0 q1 q2 q3 q4 q5 q6 q7 q8 q9 q10 q11 q12 q13 q14 q15 q16 q17 q18 q19 q20 q21 q22=>KB (q0,q1,q2,q3,q4,q5,q6,q7,q8,q9,q10,q11,q12,q13,q14,q15,q16,q17,q18,q19,q20,q21,q22,())) k a.1 a.2.1 a.2.2.1 a.2.2.2.1 a.2.2.2.2.1 a.2.2.2.2.2.1 a.2.2.2.2.2.2.1 a.2.2.2.2.2.2.2.1 a.2.2.2.2.2.2.2.2.1 a.2.2.2.2.2.2.2.2.2.1 a.2.2.2.2.2.2.2.2.2.2.1 a.2.2.2.2.2.2.2.2.2.2.2.1 a.2.2.2.2.2.2.2.2.2.2.2.2.1 a.2.2.2.2.2.2.2.2.2.2.2.2.2.1 a.2.2.2.2.2.2.2.2.2.2.2.2.2.2.1 a.2.2.2.2.2.2.2.2.2.2.2.2.2.2.2.1 a.2.2.2.2.2.2.2.2.2.2.2.2.2.2.2.2.1 a.2.2.2.2.2.2.2.2.2.2.2.2.2.2.2.2.2.1 a.2.2.2.2.2.2.2.2.2.2.2.2.2.2.2.2.2.2.1 a.2.2.2.2.2.2.2.2.2.2.2.2.2.2.2.2.2.2.2.1 a.2.2.2.2.2.2.2.2.2.2.2.2.2.2.2.2.2.2.2.2.1 a.2.2.2.2.2.2.2.2.2.2.2.2.2.2.2.2.2.2.2.2.2.1 a.2.2.2.2.2.2.2.2.2.2.2.2.2.2.2.2.2.2.2.2.2.2.1 a.2.2.2.2.2.2.2.2.2.2.2.2.2.2.2.2.2.2.2.2.2.2.2.1 a.2.2.2.2.2.2.2.2.2.2.2.2.2.2.2.2.2.2.2.2.2.2.2.2.1) Y_10_50_0_0 Y_10_50_0_1 C_10_50_0_0 (fun _=>rfl) (fun m a=>by
 unfold l_10_50_0_0
 rw[L_10_50_0_0]
 simp only[BC_10_50_0_0]
 rfl) (fun k e=>by cases e<;>rfl) (fun k=>loop_10_50_0_1 k) (fun k K a=>by kernel_rfl) (fun Y K KB a=>by
 unfold S_10_50_0_0
 repeat' first|apply gdN|apply condN|rfl) OK_10_50_0_1
noncomputable def T_10_50_0_2:PS:=⟨49,[(0,.kc (.ptr 9 [])),(1,.hv (.int .i64)),(8,.hv (.slice (.int .u32))),(9,.hv (.int .i64)),(10,.hv (.int .i64))],[.mem (.hv Zy10_5),.mem (.hv Zy10_3),.mem (.pr (.hv (.int .i64)) (.pr (.hv (.int .i64)) (.pr (.hv (.int .i64)) (.pr (.pr (.hv (.int .i64)) (.pr (.hv (.int .i64)) (.pr (.hv (.arr 32 (.int .u8))) (.pr (.pr (.hv (.int .i64)) (.kc (.pair (.whole 3) (.pair (.whole 4) (.pure .unit PUnit.unit))))) (.kc (.pure .unit PUnit.unit)))))) (.kc (.pure .unit PUnit.unit)))))),.vec 23 (.arr 32 (.int .u8)),.vec 23 (.arr 32 (.int .u8)),.mem (.pr (.pr (.kc (.whole 6)) (.pr (.kc (.whole 7)) (.hv (.pair (.int .i64) .unit)))) (.hv Zy10_12)),.vec 37 (.int .u32),.vec 3 (.int .i64),.mem (.hv Zy10_11),.mem (.hv Zy10_7),.fresh,.fresh],12⟩
inductive Sp.E_10_50_0_2 where
 |e0 (p4:Zt10_2) (p5:Zt10_1) (p6 p7 p8 p9 p10:Int) (p11:List Int) (p12:Int) (p13 p14:Zt10_4) (p15:Int×Unit) (p16:Zt10_6) (p17 p18:List Int) (p19:Zt10_9) (p20:Zt10_0)
noncomputable def Sp.B_10_50_0_2{R:Type}(r:Option E_10_50_0_2)(k0:Zt10_2->Zt10_1->Int->Int->Int->Int->Int->List Int->Int->Zt10_4->Zt10_4->(Int×Unit)->Zt10_6->List Int->List Int->Zt10_9->Zt10_0->Option R):Option R:=match r with
 |none=>none
 |some (.e0 p4 p5 p6 p7 p8 p9 p10 p11 p12 p13 p14 p15 p16 p17 p18 p19 p20)=>k0 p4 p5 p6 p7 p8 p9 p10 p11 p12 p13 p14 p15 p16 p17 p18 p19 p20
theorem Bn_10_50_0_2{A R:Type}{r:Option E_10_50_0_2}{f:A->Option R}{k0:Zt10_2->Zt10_1->Int->Int->Int->Int->Int->List Int->Int->Zt10_4->Zt10_4->(Int×Unit)->Zt10_6->List Int->List Int->Zt10_9->Zt10_0->Option A}{l0:Zt10_2->Zt10_1->Int->Int->Int->Int->Int->List Int->Int->Zt10_4->Zt10_4->(Int×Unit)->Zt10_6->List Int->List Int->Zt10_9->Zt10_0->Option R}(h0:∀p4 p5 p6 p7 p8 p9 p10 p11 p12 p13 p14 p15 p16 p17 p18 p19 p20,(k0 p4 p5 p6 p7 p8 p9 p10 p11 p12 p13 p14 p15 p16 p17 p18 p19 p20).bind f=l0 p4 p5 p6 p7 p8 p9 p10 p11 p12 p13 p14 p15 p16 p17 p18 p19 p20):(B_10_50_0_2 r k0).bind f=B_10_50_0_2 r l0:=by
 cases r with
 |none=>rfl
 |some e=>cases e<;>first|apply h0
noncomputable def Y_10_50_0_2{R:Type}(k:Ex->St->Option R):E_10_50_0_2->Option R
 | .e0 p4 p5 p6 p7 p8 p9 p10 p11 p12 p13 p14 p15 p16 p17 p18 p19 p20=>k (Ex.exit 0) (sx 49 [] [Blk.mem (CV.pure (Ty.pair (Ty.pair (Ty.slice (Ty.int u32)) (Ty.pair (Ty.slice (Ty.int i64)) (Ty.pair (Ty.int i64) Ty.unit))) (Ty.pair (Ty.arr 32 (Ty.int u8)) Ty.unit)) p4),Blk.mem (CV.pure (Ty.pair (Ty.int i64) (Ty.pair (Ty.int i64) (Ty.pair (Ty.arr 32 (Ty.int u8)) (Ty.pair (Ty.pair (Ty.int i64) (Ty.pair (Ty.slice (Ty.arr 32 (Ty.int u8))) (Ty.pair (Ty.slice (Ty.arr 32 (Ty.int u8))) Ty.unit))) Ty.unit)))) p5),Blk.mem (CV.pair (CV.int i64 p6) (CV.pair (CV.int i64 p7) (CV.pair (CV.int i64 p8) (CV.pair (CV.pair (CV.int i64 p9) (CV.pair (CV.int i64 p10) (CV.pair (CV.pure (Ty.arr 32 (Ty.int u8)) p11) (CV.pair (CV.pair (CV.int i64 p12) (CV.pair (CV.whole 3) (CV.pair (CV.whole 4) (CV.pure Ty.unit PUnit.unit)))) (CV.pure Ty.unit PUnit.unit))))) (CV.pure Ty.unit PUnit.unit))))),Blk.vec 23 (Ty.arr 32 (Ty.int u8)) p13,Blk.vec 23 (Ty.arr 32 (Ty.int u8)) p14,Blk.mem (CV.pair (CV.pair (CV.whole 6) (CV.pair (CV.whole 7) (CV.pure (Ty.pair (Ty.int i64) Ty.unit) p15))) (CV.pure (Ty.pair (Ty.arr 32 (Ty.int u8)) Ty.unit) p16)),Blk.vec 37 (Ty.int u32) p17,Blk.vec 3 (Ty.int i64) p18,Blk.mem (CV.pure (Ty.pair (Ty.int i64) (Ty.pair (Ty.int u32) Ty.unit)) p19),Blk.mem (CV.pure (Ty.pair (Ty.pair (Ty.pair (Ty.slice (Ty.int u32)) (Ty.pair (Ty.slice (Ty.int i64)) (Ty.pair (Ty.int i64) Ty.unit))) (Ty.pair (Ty.arr 32 (Ty.int u8)) Ty.unit)) (Ty.pair (Ty.pair (Ty.int i64) (Ty.pair (Ty.int u32) Ty.unit)) (Ty.pair (Ty.int i64) Ty.unit))) p20),Blk.fresh,Blk.fresh] 12)
noncomputable def Sp.S_10_50_0_2{R:Type}(K:Int->List Int->Int->Int->((List Int×List Int×Int×Unit)×List Int×Unit)->(Int×Int×List Int×(Int×List (List Int)×List (List Int)×Unit)×Unit)->Int->Int->Int->Int->Int->List Int->Int->List (List Int)->List (List Int)->(Int×Unit)->(List Int×Unit)->List Int->List Int->(Int×Int×Unit)->(((List Int×List Int×Int×Unit)×List Int×Unit)×(Int×Int×Unit)×Int×Unit)->Option R)(k:E_10_50_0_2->Option R)(p0:Int)(p1:List Int)(p2 p3:Int)(p4:(List Int×List Int×Int×Unit)×List Int×Unit)(p5:Int×Int×List Int×(Int×List (List Int)×List (List Int)×Unit)×Unit)(p6 p7 p8 p9 p10:Int)(p11:List Int)(p12:Int)(p13 p14:List (List Int))(p15:Int×Unit)(p16:List Int×Unit)(p17 p18:List Int)(p19:Int×Int×Unit)(p20:((List Int×List Int×Int×Unit)×List Int×Unit)×(Int×Int×Unit)×Int×Unit):Option R:=
 bif decide (p3<p2)then gd (inB p3 (length p1)) (bif p20.2.2.1==0 then gd (p_93 (p20.1.1) (wrap i64 (p0+p3)) (getD p1 (toNat p3) 0) (p20.2.1)) (K p0 p1 p2 (wrap i64 (p3+1)) p4 p5 p6 p7 p8 p9 p10 p11 p12 p13 p14 p15 p16 p17 p18 p19 (((v_93 (p20.1.1) (wrap i64 (p0+p3)) (getD p1 (toNat p3) 0) (p20.2.1)).1,p20.1.2),(v_93 (p20.1.1) (wrap i64 (p0+p3)) (getD p1 (toNat p3) 0) (p20.2.1)).2.1,(v_93 (p20.1.1) (wrap i64 (p0+p3)) (getD p1 (toNat p3) 0) (p20.2.1)).2.2.1,p20.2.2.2))else K p0 p1 p2 (wrap i64 (p3+1)) p4 p5 p6 p7 p8 p9 p10 p11 p12 p13 p14 p15 p16 p17 p18 p19 p20)else k (E_10_50_0_2.e0 p4 p5 p6 p7 p8 p9 p10 p11 p12 p13 p14 p15 p16 p17 p18 p19 p20)
noncomputable def Sp.L_10_50_0_2:Nat->Int->List Int->Int->Int->((List Int×List Int×Int×Unit)×List Int×Unit)->(Int×Int×List Int×(Int×List (List Int)×List (List Int)×Unit)×Unit)->Int->Int->Int->Int->Int->List Int->Int->List (List Int)->List (List Int)->(Int×Unit)->(List Int×Unit)->List Int->List Int->(Int×Int×Unit)->(((List Int×List Int×Int×Unit)×List Int×Unit)×(Int×Int×Unit)×Int×Unit)->Option E_10_50_0_2
 |0,_,_,_,_,_,_,_,_,_,_,_,_,_,_,_,_,_,_,_,_,_=>none
 |m+1,p0,p1,p2,p3,p4,p5,p6,p7,p8,p9,p10,p11,p12,p13,p14,p15,p16,p17,p18,p19,p20=>S_10_50_0_2 (L_10_50_0_2 m) some p0 p1 p2 p3 p4 p5 p6 p7 p8 p9 p10 p11 p12 p13 p14 p15 p16 p17 p18 p19 p20
noncomputable def l_10_50_0_2(m:Nat)(a:T_10_50_0_2.E):Option E_10_50_0_2:=L_10_50_0_2 m a.1 a.2.1 a.2.2.1 a.2.2.2.1 a.2.2.2.2.1 a.2.2.2.2.2.1 a.2.2.2.2.2.2.1 a.2.2.2.2.2.2.2.1 a.2.2.2.2.2.2.2.2.1 a.2.2.2.2.2.2.2.2.2.1 a.2.2.2.2.2.2.2.2.2.2.1 a.2.2.2.2.2.2.2.2.2.2.2.1 a.2.2.2.2.2.2.2.2.2.2.2.2.1 a.2.2.2.2.2.2.2.2.2.2.2.2.2.1 a.2.2.2.2.2.2.2.2.2.2.2.2.2.2.1 a.2.2.2.2.2.2.2.2.2.2.2.2.2.2.2.1 a.2.2.2.2.2.2.2.2.2.2.2.2.2.2.2.2.1 a.2.2.2.2.2.2.2.2.2.2.2.2.2.2.2.2.2.1 a.2.2.2.2.2.2.2.2.2.2.2.2.2.2.2.2.2.2.1 a.2.2.2.2.2.2.2.2.2.2.2.2.2.2.2.2.2.2.2.1 a.2.2.2.2.2.2.2.2.2.2.2.2.2.2.2.2.2.2.2.2.1
noncomputable def O_10_50_0_2{R:Type}:Orc R:=orL T_10_50_0_2 (l_10_50_0_2 FU) Y_10_50_0_2 O_10_50_0_0
theorem OK_10_50_0_2{R:Type}:okF (R:=R) sm_10 0 (nf 50 0) O_10_50_0_2:=lp0 T_10_50_0_2 l_10_50_0_2 (fun R K k a=>S_10_50_0_2 (fun p0 p1 p2 p3 p4 p5 p6 p7 p8 p9 p10 p11 p12 p13 p14 p15 p16 p17 p18 p19 p20=>K (p0,p1,p2,p3,p4,p5,p6,p7,p8,p9,p10,p11,p12,p13,p14,p15,p16,p17,p18,p19,p20,())) k a.1 a.2.1 a.2.2.1 a.2.2.2.1 a.2.2.2.2.1 a.2.2.2.2.2.1 a.2.2.2.2.2.2.1 a.2.2.2.2.2.2.2.1 a.2.2.2.2.2.2.2.2.1 a.2.2.2.2.2.2.2.2.2.1 a.2.2.2.2.2.2.2.2.2.2.1 a.2.2.2.2.2.2.2.2.2.2.2.1 a.2.2.2.2.2.2.2.2.2.2.2.2.1 a.2.2.2.2.2.2.2.2.2.2.2.2.2.1 a.2.2.2.2.2.2.2.2.2.2.2.2.2.2.1 a.2.2.2.2.2.2.2.2.2.2.2.2.2.2.2.1 a.2.2.2.2.2.2.2.2.2.2.2.2.2.2.2.2.1 a.2.2.2.2.2.2.2.2.2.2.2.2.2.2.2.2.2.1 a.2.2.2.2.2.2.2.2.2.2.2.2.2.2.2.2.2.2.1 a.2.2.2.2.2.2.2.2.2.2.2.2.2.2.2.2.2.2.2.1 a.2.2.2.2.2.2.2.2.2.2.2.2.2.2.2.2.2.2.2.2.1) Y_10_50_0_2 (fun _ _ _=>by kernel_rfl) (fun _ _ _=>by
 unfold S_10_50_0_2
 repeat' first|apply gdN|apply condN|rfl) OK_10_50_0_0
noncomputable def g_10_50{R:Type}:List CV->List Blk->(CV->List Blk->Option R)->Option R:=evFnL sm_10 FU (ovr noO (evFn sm_10 fns FU 0)) (mkT (fB fns 50) [O_10_50_0_2]) (fO fns 50)
theorem g_10_50_ok{R:Type}(args:List CV)(hp:List Blk)(k:CV->List Blk->Option R)(r:R)(h:g_10_50 args hp k=some r):evFn sm_10 fns FU 1 50 args hp k=some r:=runG noO_ok (os:=[O_10_50_0_2]) ⟨OK_10_50_0_2,trivial⟩ h
noncomputable def ov_10_10{R:Type}:Nat->Option (List CV->List Blk->(CV->List Blk->Option R)->Option R):=fun f'=>bif Nat.beq f' 50 then some g_10_50 else none
theorem ov_10_10_ok{R:Type}:OvrOK (R:=R) ov_10_10 (evFn sm_10 fns FU 1):=by
 intro f' g h args hp k r hg
 dsimp only[ov_10_10]at h
 by_cases h50:f'=50
 ·subst h50
  injection h with h
  subst h
  exact evFn_le 0 (g_10_50_ok _ _ _ _ hg)
 rw[nbeq_ne h50,cond_false]at h
 cases h
noncomputable def T_10_1_1:PS:=⟨145,[(5,.kc (.ptr 0 [])),(6,.kc (.ptr 1 [])),(8,.kc (.ptr 2 [])),(9,.kc (.ptr 5 [])),(10,.kc (.ptr 8 [])),(12,.hv (.int .i64)),(15,.hv (.int .i64)),(16,.kc (.ptr 9 [])),(115,.hv (.int .i64)),(116,.hv (.int .i64))],[.mem (.hv Zy10_5),.mem (.hv Zy10_3),.mem (.pr (.hv (.int .i64)) (.pr (.hv (.int .i64)) (.pr (.hv (.int .i64)) (.pr (.pr (.hv (.int .i64)) (.pr (.hv (.int .i64)) (.pr (.hv (.arr 32 (.int .u8))) (.pr (.pr (.hv (.int .i64)) (.kc (.pair (.whole 3) (.pair (.whole 4) (.pure .unit PUnit.unit))))) (.kc (.pure .unit PUnit.unit)))))) (.kc (.pure .unit PUnit.unit)))))),.vec 23 (.arr 32 (.int .u8)),.vec 23 (.arr 32 (.int .u8)),.mem (.pr (.pr (.kc (.whole 6)) (.pr (.kc (.whole 7)) (.hv (.pair (.int .i64) .unit)))) (.hv Zy10_12)),.vec 37 (.int .u32),.vec 3 (.int .i64),.mem (.hv Zy10_11),.mem (.hv Zy10_7)],0⟩
inductive Sp.E_10_1_1 where
 |e0 (p0:Int) (p4:Zt10_2) (p5:Zt10_1) (p6 p7 p8 p9 p10:Int) (p11:List Int) (p12:Int) (p13 p14:Zt10_4) (p15:Int×Unit) (p16:Zt10_6) (p17 p18:List Int) (p19:Zt10_9) (p20:Zt10_0)
noncomputable def Sp.B_10_1_1{R:Type}(r:Option E_10_1_1)(k0:Int->Zt10_2->Zt10_1->Int->Int->Int->Int->Int->List Int->Int->Zt10_4->Zt10_4->(Int×Unit)->Zt10_6->List Int->List Int->Zt10_9->Zt10_0->Option R):Option R:=match r with
 |none=>none
 |some (.e0 p0 p4 p5 p6 p7 p8 p9 p10 p11 p12 p13 p14 p15 p16 p17 p18 p19 p20)=>k0 p0 p4 p5 p6 p7 p8 p9 p10 p11 p12 p13 p14 p15 p16 p17 p18 p19 p20
noncomputable def Y_10_1_1{R:Type}(k:Ex->St->Option R):E_10_1_1->Option R
 | .e0 p0 p4 p5 p6 p7 p8 p9 p10 p11 p12 p13 p14 p15 p16 p17 p18 p19 p20=>k (Ex.exit 1) (sx 145 [(5,CV.ptr 0 []),(6,CV.ptr 1 []),(8,CV.ptr 2 []),(9,CV.ptr 5 []),(10,CV.ptr 8 []),(12,CV.int i64 p0),(16,CV.ptr 9 [])] [Blk.mem (CV.pure (Ty.pair (Ty.pair (Ty.slice (Ty.int u32)) (Ty.pair (Ty.slice (Ty.int i64)) (Ty.pair (Ty.int i64) Ty.unit))) (Ty.pair (Ty.arr 32 (Ty.int u8)) Ty.unit)) p4),Blk.mem (CV.pure (Ty.pair (Ty.int i64) (Ty.pair (Ty.int i64) (Ty.pair (Ty.arr 32 (Ty.int u8)) (Ty.pair (Ty.pair (Ty.int i64) (Ty.pair (Ty.slice (Ty.arr 32 (Ty.int u8))) (Ty.pair (Ty.slice (Ty.arr 32 (Ty.int u8))) Ty.unit))) Ty.unit)))) p5),Blk.mem (CV.pair (CV.int i64 p6) (CV.pair (CV.int i64 p7) (CV.pair (CV.int i64 p8) (CV.pair (CV.pair (CV.int i64 p9) (CV.pair (CV.int i64 p10) (CV.pair (CV.pure (Ty.arr 32 (Ty.int u8)) p11) (CV.pair (CV.pair (CV.int i64 p12) (CV.pair (CV.whole 3) (CV.pair (CV.whole 4) (CV.pure Ty.unit PUnit.unit)))) (CV.pure Ty.unit PUnit.unit))))) (CV.pure Ty.unit PUnit.unit))))),Blk.vec 23 (Ty.arr 32 (Ty.int u8)) p13,Blk.vec 23 (Ty.arr 32 (Ty.int u8)) p14,Blk.mem (CV.pair (CV.pair (CV.whole 6) (CV.pair (CV.whole 7) (CV.pure (Ty.pair (Ty.int i64) Ty.unit) p15))) (CV.pure (Ty.pair (Ty.arr 32 (Ty.int u8)) Ty.unit) p16)),Blk.vec 37 (Ty.int u32) p17,Blk.vec 3 (Ty.int i64) p18,Blk.mem (CV.pure (Ty.pair (Ty.int i64) (Ty.pair (Ty.int u32) Ty.unit)) p19),Blk.mem (CV.pure (Ty.pair (Ty.pair (Ty.pair (Ty.slice (Ty.int u32)) (Ty.pair (Ty.slice (Ty.int i64)) (Ty.pair (Ty.int i64) Ty.unit))) (Ty.pair (Ty.arr 32 (Ty.int u8)) Ty.unit)) (Ty.pair (Ty.pair (Ty.int i64) (Ty.pair (Ty.int u32) Ty.unit)) (Ty.pair (Ty.int i64) Ty.unit))) p20)])
noncomputable def Sp.S_10_1_1{R:Type}(K:Int->Int->Int->Int->((List Int×List Int×Int×Unit)×List Int×Unit)->(Int×Int×List Int×(Int×List (List Int)×List (List Int)×Unit)×Unit)->Int->Int->Int->Int->Int->List Int->Int->List (List Int)->List (List Int)->(Int×Unit)->(List Int×Unit)->List Int->List Int->(Int×Int×Unit)->(((List Int×List Int×Int×Unit)×List Int×Unit)×(Int×Int×Unit)×Int×Unit)->Option R)(k:E_10_1_1->Option R)(p0 p1 p2 p3:Int)(p4:(List Int×List Int×Int×Unit)×List Int×Unit)(p5:Int×Int×List Int×(Int×List (List Int)×List (List Int)×Unit)×Unit)(p6 p7 p8 p9 p10:Int)(p11:List Int)(p12:Int)(p13 p14:List (List Int))(p15:Int×Unit)(p16:List Int×Unit)(p17 p18:List Int)(p19:Int×Int×Unit)(p20:((List Int×List Int×Int×Unit)×List Int×Unit)×(Int×Int×Unit)×Int×Unit):Option R:=
 bif decide (p3<p2)then bif p20.2.2.1==0 then gd (p_92 (p20.1.1) (wrap i64 (wrap i64 (p0*p1)+p3)) (p20.2.1)) (K p0 p1 p2 (wrap i64 (p3+1)) p4 p5 p6 p7 p8 p9 p10 p11 p12 p13 p14 p15 p16 p17 p18 p19 (((v_92 (p20.1.1) (wrap i64 (wrap i64 (p0*p1)+p3)) (p20.2.1)).1,p20.1.2),(v_92 (p20.1.1) (wrap i64 (wrap i64 (p0*p1)+p3)) (p20.2.1)).2.1,(v_92 (p20.1.1) (wrap i64 (wrap i64 (p0*p1)+p3)) (p20.2.1)).2.2.1,p20.2.2.2))else K p0 p1 p2 (wrap i64 (p3+1)) p4 p5 p6 p7 p8 p9 p10 p11 p12 p13 p14 p15 p16 p17 p18 p19 p20 else k (E_10_1_1.e0 p0 p4 p5 p6 p7 p8 p9 p10 p11 p12 p13 p14 p15 p16 p17 p18 p19 p20)
noncomputable def Sp.L_10_1_1:Nat->Int->Int->Int->Int->((List Int×List Int×Int×Unit)×List Int×Unit)->(Int×Int×List Int×(Int×List (List Int)×List (List Int)×Unit)×Unit)->Int->Int->Int->Int->Int->List Int->Int->List (List Int)->List (List Int)->(Int×Unit)->(List Int×Unit)->List Int->List Int->(Int×Int×Unit)->(((List Int×List Int×Int×Unit)×List Int×Unit)×(Int×Int×Unit)×Int×Unit)->Option E_10_1_1
 |0,_,_,_,_,_,_,_,_,_,_,_,_,_,_,_,_,_,_,_,_,_=>none
 |m+1,p0,p1,p2,p3,p4,p5,p6,p7,p8,p9,p10,p11,p12,p13,p14,p15,p16,p17,p18,p19,p20=>S_10_1_1 (L_10_1_1 m) some p0 p1 p2 p3 p4 p5 p6 p7 p8 p9 p10 p11 p12 p13 p14 p15 p16 p17 p18 p19 p20
noncomputable def l_10_1_1(m:Nat)(a:T_10_1_1.E):Option E_10_1_1:=L_10_1_1 m a.1 a.2.1 a.2.2.1 a.2.2.2.1 a.2.2.2.2.1 a.2.2.2.2.2.1 a.2.2.2.2.2.2.1 a.2.2.2.2.2.2.2.1 a.2.2.2.2.2.2.2.2.1 a.2.2.2.2.2.2.2.2.2.1 a.2.2.2.2.2.2.2.2.2.2.1 a.2.2.2.2.2.2.2.2.2.2.2.1 a.2.2.2.2.2.2.2.2.2.2.2.2.1 a.2.2.2.2.2.2.2.2.2.2.2.2.2.1 a.2.2.2.2.2.2.2.2.2.2.2.2.2.2.1 a.2.2.2.2.2.2.2.2.2.2.2.2.2.2.2.1 a.2.2.2.2.2.2.2.2.2.2.2.2.2.2.2.2.1 a.2.2.2.2.2.2.2.2.2.2.2.2.2.2.2.2.2.1 a.2.2.2.2.2.2.2.2.2.2.2.2.2.2.2.2.2.2.1 a.2.2.2.2.2.2.2.2.2.2.2.2.2.2.2.2.2.2.2.1 a.2.2.2.2.2.2.2.2.2.2.2.2.2.2.2.2.2.2.2.2.1
noncomputable def O_10_1_1{R:Type}:Orc R:=orL T_10_1_1 (l_10_1_1 FU) Y_10_1_1
theorem loop_10_1_1{R:Type}(k:Ex->St->Option R):∀m a,evLoopN (evCodeL sm_10 FU (ovr ov_10_10 (evFn sm_10 fns FU 1)) (mkT (inner (ni (nf 10 0) 0)) []) (inner (ni (nf 10 0) 0))) (St.norm (lv (ni (nf 10 0) 0))) m (T_10_1_1.inst a) k=(l_10_1_1 m a).bind (Y_10_1_1 k):=lpN l_10_1_1 (fun R K k a=>S_10_1_1 (fun p0 p1 p2 p3 p4 p5 p6 p7 p8 p9 p10 p11 p12 p13 p14 p15 p16 p17 p18 p19 p20=>K (p0,p1,p2,p3,p4,p5,p6,p7,p8,p9,p10,p11,p12,p13,p14,p15,p16,p17,p18,p19,p20,())) k a.1 a.2.1 a.2.2.1 a.2.2.2.1 a.2.2.2.2.1 a.2.2.2.2.2.1 a.2.2.2.2.2.2.1 a.2.2.2.2.2.2.2.1 a.2.2.2.2.2.2.2.2.1 a.2.2.2.2.2.2.2.2.2.1 a.2.2.2.2.2.2.2.2.2.2.1 a.2.2.2.2.2.2.2.2.2.2.2.1 a.2.2.2.2.2.2.2.2.2.2.2.2.1 a.2.2.2.2.2.2.2.2.2.2.2.2.2.1 a.2.2.2.2.2.2.2.2.2.2.2.2.2.2.1 a.2.2.2.2.2.2.2.2.2.2.2.2.2.2.2.1 a.2.2.2.2.2.2.2.2.2.2.2.2.2.2.2.2.1 a.2.2.2.2.2.2.2.2.2.2.2.2.2.2.2.2.2.1 a.2.2.2.2.2.2.2.2.2.2.2.2.2.2.2.2.2.2.1 a.2.2.2.2.2.2.2.2.2.2.2.2.2.2.2.2.2.2.2.1 a.2.2.2.2.2.2.2.2.2.2.2.2.2.2.2.2.2.2.2.2.1) (fun _=>rfl) (fun _ _=>rfl) (fun K a=>by kernel_rfl) (fun K a=>by
 unfold S_10_1_1
 repeat' first|apply gdN|apply condN|rfl)
theorem OK_10_1_1{R:Type}:okF (R:=R) sm_10 1 (ni (nf 10 0) 0) O_10_1_1:=lp ov_10_10_ok (os:=[]) trivial T_10_1_1 l_10_1_1 (fun R K k a=>S_10_1_1 (fun p0 p1 p2 p3 p4 p5 p6 p7 p8 p9 p10 p11 p12 p13 p14 p15 p16 p17 p18 p19 p20=>K (p0,p1,p2,p3,p4,p5,p6,p7,p8,p9,p10,p11,p12,p13,p14,p15,p16,p17,p18,p19,p20,())) k a.1 a.2.1 a.2.2.1 a.2.2.2.1 a.2.2.2.2.1 a.2.2.2.2.2.1 a.2.2.2.2.2.2.1 a.2.2.2.2.2.2.2.1 a.2.2.2.2.2.2.2.2.1 a.2.2.2.2.2.2.2.2.2.1 a.2.2.2.2.2.2.2.2.2.2.1 a.2.2.2.2.2.2.2.2.2.2.2.1 a.2.2.2.2.2.2.2.2.2.2.2.2.1 a.2.2.2.2.2.2.2.2.2.2.2.2.2.1 a.2.2.2.2.2.2.2.2.2.2.2.2.2.2.1 a.2.2.2.2.2.2.2.2.2.2.2.2.2.2.2.1 a.2.2.2.2.2.2.2.2.2.2.2.2.2.2.2.2.1 a.2.2.2.2.2.2.2.2.2.2.2.2.2.2.2.2.2.1 a.2.2.2.2.2.2.2.2.2.2.2.2.2.2.2.2.2.2.1 a.2.2.2.2.2.2.2.2.2.2.2.2.2.2.2.2.2.2.2.1 a.2.2.2.2.2.2.2.2.2.2.2.2.2.2.2.2.2.2.2.2.1) Y_10_1_1 (fun _=>rfl) (fun _ _=>rfl) (fun k K a=>by kernel_rfl) (fun Y K a=>by
 unfold S_10_1_1
 repeat' first|apply gdN|apply condN|rfl) (ok0 _)
noncomputable def T_10_1:PS:=⟨145,[(5,.kc (.ptr 0 [])),(6,.kc (.ptr 1 [])),(8,.kc (.ptr 2 [])),(9,.kc (.ptr 5 [])),(10,.kc (.ptr 8 [])),(12,.hv (.int .i64)),(15,.hv (.int .i64)),(16,.kc (.ptr 9 [])),(115,.hv (.int .i64)),(116,.hv (.int .i64))],[.mem (.hv Zy10_5),.mem (.hv Zy10_3),.mem (.pr (.hv (.int .i64)) (.pr (.hv (.int .i64)) (.pr (.hv (.int .i64)) (.pr (.pr (.hv (.int .i64)) (.pr (.hv (.int .i64)) (.pr (.hv (.arr 32 (.int .u8))) (.pr (.pr (.hv (.int .i64)) (.kc (.pair (.whole 3) (.pair (.whole 4) (.pure .unit PUnit.unit))))) (.kc (.pure .unit PUnit.unit)))))) (.kc (.pure .unit PUnit.unit)))))),.vec 23 (.arr 32 (.int .u8)),.vec 23 (.arr 32 (.int .u8)),.mem (.pr (.pr (.kc (.whole 6)) (.pr (.kc (.whole 7)) (.hv (.pair (.int .i64) .unit)))) (.hv Zy10_12)),.vec 37 (.int .u32),.vec 3 (.int .i64),.mem (.hv Zy10_11),.mem (.pr (.pr (.pr (.kc (.whole 10)) (.pr (.kc (.whole 11)) (.hv (.pair (.int .i64) .unit)))) (.hv Zy10_12)) (.hv Zy10_15)),.vec 37 (.int .u32),.vec 3 (.int .i64)],0⟩
inductive Sp.E_10_1 where
 |e0 (p0:Int) (p4:Zt10_2) (p5:Zt10_1) (p6 p7 p8 p9 p10:Int) (p11:List Int) (p12:Int) (p13 p14:Zt10_4) (p15:Int×Unit) (p16:Zt10_6) (p17 p18:List Int) (p19:Zt10_9) (p20:Int×Unit) (p21:Zt10_6) (p22:Zt10_8) (p23 p24:List Int)
 |e1 (p0:Int) (p4:Zt10_2) (p5:Zt10_1) (p6 p7 p8 p9 p10:Int) (p11:List Int) (p12:Int) (p13 p14:Zt10_4) (p15:Int×Unit) (p16:Zt10_6) (p17 p18:List Int) (p19:Zt10_9) (p20:Zt10_0)
noncomputable def Sp.B_10_1{R:Type}(r:Option E_10_1)(k0:Int->Zt10_2->Zt10_1->Int->Int->Int->Int->Int->List Int->Int->Zt10_4->Zt10_4->(Int×Unit)->Zt10_6->List Int->List Int->Zt10_9->(Int×Unit)->Zt10_6->Zt10_8->List Int->List Int->Option R)(k1:Int->Zt10_2->Zt10_1->Int->Int->Int->Int->Int->List Int->Int->Zt10_4->Zt10_4->(Int×Unit)->Zt10_6->List Int->List Int->Zt10_9->Zt10_0->Option R):Option R:=match r with
 |none=>none
 |some (.e0 p0 p4 p5 p6 p7 p8 p9 p10 p11 p12 p13 p14 p15 p16 p17 p18 p19 p20 p21 p22 p23 p24)=>k0 p0 p4 p5 p6 p7 p8 p9 p10 p11 p12 p13 p14 p15 p16 p17 p18 p19 p20 p21 p22 p23 p24
 |some (.e1 p0 p4 p5 p6 p7 p8 p9 p10 p11 p12 p13 p14 p15 p16 p17 p18 p19 p20)=>k1 p0 p4 p5 p6 p7 p8 p9 p10 p11 p12 p13 p14 p15 p16 p17 p18 p19 p20
theorem Bn_10_1{A R:Type}{r:Option E_10_1}{f:A->Option R}{k0:Int->Zt10_2->Zt10_1->Int->Int->Int->Int->Int->List Int->Int->Zt10_4->Zt10_4->(Int×Unit)->Zt10_6->List Int->List Int->Zt10_9->(Int×Unit)->Zt10_6->Zt10_8->List Int->List Int->Option A}{k1:Int->Zt10_2->Zt10_1->Int->Int->Int->Int->Int->List Int->Int->Zt10_4->Zt10_4->(Int×Unit)->Zt10_6->List Int->List Int->Zt10_9->Zt10_0->Option A}{l0:Int->Zt10_2->Zt10_1->Int->Int->Int->Int->Int->List Int->Int->Zt10_4->Zt10_4->(Int×Unit)->Zt10_6->List Int->List Int->Zt10_9->(Int×Unit)->Zt10_6->Zt10_8->List Int->List Int->Option R}{l1:Int->Zt10_2->Zt10_1->Int->Int->Int->Int->Int->List Int->Int->Zt10_4->Zt10_4->(Int×Unit)->Zt10_6->List Int->List Int->Zt10_9->Zt10_0->Option R}(h0:∀p0 p4 p5 p6 p7 p8 p9 p10 p11 p12 p13 p14 p15 p16 p17 p18 p19 p20 p21 p22 p23 p24,(k0 p0 p4 p5 p6 p7 p8 p9 p10 p11 p12 p13 p14 p15 p16 p17 p18 p19 p20 p21 p22 p23 p24).bind f=l0 p0 p4 p5 p6 p7 p8 p9 p10 p11 p12 p13 p14 p15 p16 p17 p18 p19 p20 p21 p22 p23 p24)(h1:∀p0 p4 p5 p6 p7 p8 p9 p10 p11 p12 p13 p14 p15 p16 p17 p18 p19 p20,(k1 p0 p4 p5 p6 p7 p8 p9 p10 p11 p12 p13 p14 p15 p16 p17 p18 p19 p20).bind f=l1 p0 p4 p5 p6 p7 p8 p9 p10 p11 p12 p13 p14 p15 p16 p17 p18 p19 p20):(B_10_1 r k0 k1).bind f=B_10_1 r l0 l1:=by
 cases r with
 |none=>rfl
 |some e=>cases e<;>first|apply h0|apply h1
noncomputable def Y_10_1{R:Type}(k:Ex->St->Option R):E_10_1->Option R
 | .e0 p0 p4 p5 p6 p7 p8 p9 p10 p11 p12 p13 p14 p15 p16 p17 p18 p19 p20 p21 p22 p23 p24=>k (Ex.exit 1) (sx 145 [(5,CV.ptr 0 []),(6,CV.ptr 1 []),(8,CV.ptr 2 []),(9,CV.ptr 5 []),(10,CV.ptr 8 []),(12,CV.int i64 p0),(16,CV.ptr 9 [])] [Blk.mem (CV.pure (Ty.pair (Ty.pair (Ty.slice (Ty.int u32)) (Ty.pair (Ty.slice (Ty.int i64)) (Ty.pair (Ty.int i64) Ty.unit))) (Ty.pair (Ty.arr 32 (Ty.int u8)) Ty.unit)) p4),Blk.mem (CV.pure (Ty.pair (Ty.int i64) (Ty.pair (Ty.int i64) (Ty.pair (Ty.arr 32 (Ty.int u8)) (Ty.pair (Ty.pair (Ty.int i64) (Ty.pair (Ty.slice (Ty.arr 32 (Ty.int u8))) (Ty.pair (Ty.slice (Ty.arr 32 (Ty.int u8))) Ty.unit))) Ty.unit)))) p5),Blk.mem (CV.pair (CV.int i64 p6) (CV.pair (CV.int i64 p7) (CV.pair (CV.int i64 p8) (CV.pair (CV.pair (CV.int i64 p9) (CV.pair (CV.int i64 p10) (CV.pair (CV.pure (Ty.arr 32 (Ty.int u8)) p11) (CV.pair (CV.pair (CV.int i64 p12) (CV.pair (CV.whole 3) (CV.pair (CV.whole 4) (CV.pure Ty.unit PUnit.unit)))) (CV.pure Ty.unit PUnit.unit))))) (CV.pure Ty.unit PUnit.unit))))),Blk.vec 23 (Ty.arr 32 (Ty.int u8)) p13,Blk.vec 23 (Ty.arr 32 (Ty.int u8)) p14,Blk.mem (CV.pair (CV.pair (CV.whole 6) (CV.pair (CV.whole 7) (CV.pure (Ty.pair (Ty.int i64) Ty.unit) p15))) (CV.pure (Ty.pair (Ty.arr 32 (Ty.int u8)) Ty.unit) p16)),Blk.vec 37 (Ty.int u32) p17,Blk.vec 3 (Ty.int i64) p18,Blk.mem (CV.pure (Ty.pair (Ty.int i64) (Ty.pair (Ty.int u32) Ty.unit)) p19),Blk.mem (CV.pair (CV.pair (CV.pair (CV.whole 10) (CV.pair (CV.whole 11) (CV.pure (Ty.pair (Ty.int i64) Ty.unit) p20))) (CV.pure (Ty.pair (Ty.arr 32 (Ty.int u8)) Ty.unit) p21)) (CV.pure (Ty.pair (Ty.pair (Ty.int i64) (Ty.pair (Ty.int u32) Ty.unit)) (Ty.pair (Ty.int i64) Ty.unit)) p22)),Blk.vec 37 (Ty.int u32) p23,Blk.vec 3 (Ty.int i64) p24])
 | .e1 p0 p4 p5 p6 p7 p8 p9 p10 p11 p12 p13 p14 p15 p16 p17 p18 p19 p20=>k (Ex.exit 1) (sx 145 [(5,CV.ptr 0 []),(6,CV.ptr 1 []),(8,CV.ptr 2 []),(9,CV.ptr 5 []),(10,CV.ptr 8 []),(12,CV.int i64 p0),(16,CV.ptr 9 [])] [Blk.mem (CV.pure (Ty.pair (Ty.pair (Ty.slice (Ty.int u32)) (Ty.pair (Ty.slice (Ty.int i64)) (Ty.pair (Ty.int i64) Ty.unit))) (Ty.pair (Ty.arr 32 (Ty.int u8)) Ty.unit)) p4),Blk.mem (CV.pure (Ty.pair (Ty.int i64) (Ty.pair (Ty.int i64) (Ty.pair (Ty.arr 32 (Ty.int u8)) (Ty.pair (Ty.pair (Ty.int i64) (Ty.pair (Ty.slice (Ty.arr 32 (Ty.int u8))) (Ty.pair (Ty.slice (Ty.arr 32 (Ty.int u8))) Ty.unit))) Ty.unit)))) p5),Blk.mem (CV.pair (CV.int i64 p6) (CV.pair (CV.int i64 p7) (CV.pair (CV.int i64 p8) (CV.pair (CV.pair (CV.int i64 p9) (CV.pair (CV.int i64 p10) (CV.pair (CV.pure (Ty.arr 32 (Ty.int u8)) p11) (CV.pair (CV.pair (CV.int i64 p12) (CV.pair (CV.whole 3) (CV.pair (CV.whole 4) (CV.pure Ty.unit PUnit.unit)))) (CV.pure Ty.unit PUnit.unit))))) (CV.pure Ty.unit PUnit.unit))))),Blk.vec 23 (Ty.arr 32 (Ty.int u8)) p13,Blk.vec 23 (Ty.arr 32 (Ty.int u8)) p14,Blk.mem (CV.pair (CV.pair (CV.whole 6) (CV.pair (CV.whole 7) (CV.pure (Ty.pair (Ty.int i64) Ty.unit) p15))) (CV.pure (Ty.pair (Ty.arr 32 (Ty.int u8)) Ty.unit) p16)),Blk.vec 37 (Ty.int u32) p17,Blk.vec 3 (Ty.int i64) p18,Blk.mem (CV.pure (Ty.pair (Ty.int i64) (Ty.pair (Ty.int u32) Ty.unit)) p19),Blk.mem (CV.pure (Ty.pair (Ty.pair (Ty.pair (Ty.slice (Ty.int u32)) (Ty.pair (Ty.slice (Ty.int i64)) (Ty.pair (Ty.int i64) Ty.unit))) (Ty.pair (Ty.arr 32 (Ty.int u8)) Ty.unit)) (Ty.pair (Ty.pair (Ty.int i64) (Ty.pair (Ty.int u32) Ty.unit)) (Ty.pair (Ty.int i64) Ty.unit))) p20)])
noncomputable def Sp.S_10_1{R:Type}(K:Int->Int->Int->Int->((List Int×List Int×Int×Unit)×List Int×Unit)->(Int×Int×List Int×(Int×List (List Int)×List (List Int)×Unit)×Unit)->Int->Int->Int->Int->Int->List Int->Int->List (List Int)->List (List Int)->(Int×Unit)->(List Int×Unit)->List Int->List Int->(Int×Int×Unit)->(Int×Unit)->(List Int×Unit)->((Int×Int×Unit)×Int×Unit)->List Int->List Int->Option R)(KB:Int->Int->Int->Int->((List Int×List Int×Int×Unit)×List Int×Unit)->(Int×Int×List Int×(Int×List (List Int)×List (List Int)×Unit)×Unit)->Int->Int->Int->Int->Int->List Int->Int->List (List Int)->List (List Int)->(Int×Unit)->(List Int×Unit)->List Int->List Int->(Int×Int×Unit)->(((List Int×List Int×Int×Unit)×List Int×Unit)×(Int×Int×Unit)×Int×Unit)->Option R)(k:E_10_1->Option R)(p0 p1 p2 p3:Int)(p4:(List Int×List Int×Int×Unit)×List Int×Unit)(p5:Int×Int×List Int×(Int×List (List Int)×List (List Int)×Unit)×Unit)(p6 p7 p8 p9 p10:Int)(p11:List Int)(p12:Int)(p13 p14:List (List Int))(p15:Int×Unit)(p16:List Int×Unit)(p17 p18:List Int)(p19:Int×Int×Unit)(p20:Int×Unit)(p21:List Int×Unit)(p22:(Int×Int×Unit)×Int×Unit)(p23 p24:List Int):Option R:=
 bif decide (p3<p2)then bif p22.2.1==0 then gd (p_92 (p23,p24,p20) (wrap i64 (wrap i64 (p0*p1)+p3)) (p22.1)) (KB p0 p1 p2 (wrap i64 (p3+1)) p4 p5 p6 p7 p8 p9 p10 p11 p12 p13 p14 p15 p16 p17 p18 p19 (((v_92 (p23,p24,p20) (wrap i64 (wrap i64 (p0*p1)+p3)) (p22.1)).1,p21),(v_92 (p23,p24,p20) (wrap i64 (wrap i64 (p0*p1)+p3)) (p22.1)).2.1,(v_92 (p23,p24,p20) (wrap i64 (wrap i64 (p0*p1)+p3)) (p22.1)).2.2.1,p22.2.2))else K p0 p1 p2 (wrap i64 (p3+1)) p4 p5 p6 p7 p8 p9 p10 p11 p12 p13 p14 p15 p16 p17 p18 p19 p20 p21 p22 p23 p24 else k (E_10_1.e0 p0 p4 p5 p6 p7 p8 p9 p10 p11 p12 p13 p14 p15 p16 p17 p18 p19 p20 p21 p22 p23 p24)
noncomputable def C_10_1:E_10_1_1->E_10_1
 | .e0 p0 p4 p5 p6 p7 p8 p9 p10 p11 p12 p13 p14 p15 p16 p17 p18 p19 p20=> .e1 p0 p4 p5 p6 p7 p8 p9 p10 p11 p12 p13 p14 p15 p16 p17 p18 p19 p20
theorem BC_10_1(r:Option E_10_1_1):B_10_1_1 r (fun p0 p4 p5 p6 p7 p8 p9 p10 p11 p12 p13 p14 p15 p16 p17 p18 p19 p20=>some (E_10_1.e1 p0 p4 p5 p6 p7 p8 p9 p10 p11 p12 p13 p14 p15 p16 p17 p18 p19 p20))=r.bind fun e=>some (C_10_1 e):=by
 cases r with
 |none=>rfl
 |some e=>cases e<;>rfl
noncomputable def Sp.L_10_1:Nat->Int->Int->Int->Int->((List Int×List Int×Int×Unit)×List Int×Unit)->(Int×Int×List Int×(Int×List (List Int)×List (List Int)×Unit)×Unit)->Int->Int->Int->Int->Int->List Int->Int->List (List Int)->List (List Int)->(Int×Unit)->(List Int×Unit)->List Int->List Int->(Int×Int×Unit)->(Int×Unit)->(List Int×Unit)->((Int×Int×Unit)×Int×Unit)->List Int->List Int->Option E_10_1
 |0,_,_,_,_,_,_,_,_,_,_,_,_,_,_,_,_,_,_,_,_,_,_,_,_,_=>none
 |m+1,p0,p1,p2,p3,p4,p5,p6,p7,p8,p9,p10,p11,p12,p13,p14,p15,p16,p17,p18,p19,p20,p21,p22,p23,p24=>S_10_1 (L_10_1 m) (fun q0 q1 q2 q3 q4 q5 q6 q7 q8 q9 q10 q11 q12 q13 q14 q15 q16 q17 q18 q19 q20=>B_10_1_1 (L_10_1_1 m q0 q1 q2 q3 q4 q5 q6 q7 q8 q9 q10 q11 q12 q13 q14 q15 q16 q17 q18 q19 q20) (fun p0 p4 p5 p6 p7 p8 p9 p10 p11 p12 p13 p14 p15 p16 p17 p18 p19 p20=>some (E_10_1.e1 p0 p4 p5 p6 p7 p8 p9 p10 p11 p12 p13 p14 p15 p16 p17 p18 p19 p20))) some p0 p1 p2 p3 p4 p5 p6 p7 p8 p9 p10 p11 p12 p13 p14 p15 p16 p17 p18 p19 p20 p21 p22 p23 p24
noncomputable def l_10_1(m:Nat)(a:T_10_1.E):Option E_10_1:=L_10_1 m a.1 a.2.1 a.2.2.1 a.2.2.2.1 a.2.2.2.2.1 a.2.2.2.2.2.1 a.2.2.2.2.2.2.1 a.2.2.2.2.2.2.2.1 a.2.2.2.2.2.2.2.2.1 a.2.2.2.2.2.2.2.2.2.1 a.2.2.2.2.2.2.2.2.2.2.1 a.2.2.2.2.2.2.2.2.2.2.2.1 a.2.2.2.2.2.2.2.2.2.2.2.2.1 a.2.2.2.2.2.2.2.2.2.2.2.2.2.1 a.2.2.2.2.2.2.2.2.2.2.2.2.2.2.1 a.2.2.2.2.2.2.2.2.2.2.2.2.2.2.2.1 a.2.2.2.2.2.2.2.2.2.2.2.2.2.2.2.2.1 a.2.2.2.2.2.2.2.2.2.2.2.2.2.2.2.2.2.1 a.2.2.2.2.2.2.2.2.2.2.2.2.2.2.2.2.2.2.1 a.2.2.2.2.2.2.2.2.2.2.2.2.2.2.2.2.2.2.2.1 a.2.2.2.2.2.2.2.2.2.2.2.2.2.2.2.2.2.2.2.2.1 a.2.2.2.2.2.2.2.2.2.2.2.2.2.2.2.2.2.2.2.2.2.1 a.2.2.2.2.2.2.2.2.2.2.2.2.2.2.2.2.2.2.2.2.2.2.1 a.2.2.2.2.2.2.2.2.2.2.2.2.2.2.2.2.2.2.2.2.2.2.2.1 a.2.2.2.2.2.2.2.2.2.2.2.2.2.2.2.2.2.2.2.2.2.2.2.2.1
noncomputable def O_10_1{R:Type}:Orc R:=orL T_10_1 (l_10_1 FU) Y_10_1 O_10_1_1
theorem OK_10_1{R:Type}:okF (R:=R) sm_10 1 (ni (nf 10 0) 0) O_10_1:=lp2 ov_10_10_ok (os:=[]) trivial T_10_1 T_10_1_1 l_10_1 l_10_1_1 (fun R K KB k a=>S_10_1 (fun p0 p1 p2 p3 p4 p5 p6 p7 p8 p9 p10 p11 p12 p13 p14 p15 p16 p17 p18 p19 p20 p21 p22 p23 p24=>K (p0,p1,p2,p3,p4,p5,p6,p7,p8,p9,p10,p11,p12,p13,p14,p15,p16,p17,p18,p19,p20,p21,p22,p23,p24,())) (fun q0 q1 q2 q3 q4 q5 q6 q7 q8 q9 q10 q11 q12 q13 q14 q15 q16 q17 q18 q19 q20=>KB (q0,q1,q2,q3,q4,q5,q6,q7,q8,q9,q10,q11,q12,q13,q14,q15,q16,q17,q18,q19,q20,())) k a.1 a.2.1 a.2.2.1 a.2.2.2.1 a.2.2.2.2.1 a.2.2.2.2.2.1 a.2.2.2.2.2.2.1 a.2.2.2.2.2.2.2.1 a.2.2.2.2.2.2.2.2.1 a.2.2.2.2.2.2.2.2.2.1 a.2.2.2.2.2.2.2.2.2.2.1 a.2.2.2.2.2.2.2.2.2.2.2.1 a.2.2.2.2.2.2.2.2.2.2.2.2.1 a.2.2.2.2.2.2.2.2.2.2.2.2.2.1 a.2.2.2.2.2.2.2.2.2.2.2.2.2.2.1 a.2.2.2.2.2.2.2.2.2.2.2.2.2.2.2.1 a.2.2.2.2.2.2.2.2.2.2.2.2.2.2.2.2.1 a.2.2.2.2.2.2.2.2.2.2.2.2.2.2.2.2.2.1 a.2.2.2.2.2.2.2.2.2.2.2.2.2.2.2.2.2.2.1 a.2.2.2.2.2.2.2.2.2.2.2.2.2.2.2.2.2.2.2.1 a.2.2.2.2.2.2.2.2.2.2.2.2.2.2.2.2.2.2.2.2.1 a.2.2.2.2.2.2.2.2.2.2.2.2.2.2.2.2.2.2.2.2.2.1 a.2.2.2.2.2.2.2.2.2.2.2.2.2.2.2.2.2.2.2.2.2.2.1 a.2.2.2.2.2.2.2.2.2.2.2.2.2.2.2.2.2.2.2.2.2.2.2.1 a.2.2.2.2.2.2.2.2.2.2.2.2.2.2.2.2.2.2.2.2.2.2.2.2.1) Y_10_1 Y_10_1_1 C_10_1 (fun _=>rfl) (fun m a=>by
 unfold l_10_1
 rw[L_10_1]
 simp only[BC_10_1]
 rfl) (fun k e=>by cases e<;>rfl) (fun k=>loop_10_1_1 k) (fun k K a=>by kernel_rfl) (fun Y K KB a=>by
 unfold S_10_1
 repeat' first|apply gdN|apply condN|rfl) OK_10_1_1
noncomputable def T_10_0:PS:=⟨145,[(5,.kc (.ptr 0 [])),(6,.kc (.ptr 1 [])),(7,.kc (.ptr 2 [])),(8,.kc (.ptr 3 [])),(9,.kc (.ptr 6 [])),(10,.kc (.ptr 9 [])),(12,.hv (.int .i64))],[.mem (.hv Zy10_5),.mem (.hv Zy10_3),.mem (.hv Zy10_11),.mem (.pr (.hv (.int .i64)) (.pr (.hv (.int .i64)) (.pr (.hv (.int .i64)) (.pr (.pr (.hv (.int .i64)) (.pr (.hv (.int .i64)) (.pr (.hv (.arr 32 (.int .u8))) (.pr (.pr (.hv (.int .i64)) (.kc (.pair (.whole 4) (.pair (.whole 5) (.pure .unit PUnit.unit))))) (.kc (.pure .unit PUnit.unit)))))) (.kc (.pure .unit PUnit.unit)))))),.vec 23 (.arr 32 (.int .u8)),.vec 23 (.arr 32 (.int .u8)),.mem (.pr (.pr (.kc (.whole 7)) (.pr (.kc (.whole 8)) (.hv (.pair (.int .i64) .unit)))) (.hv Zy10_12)),.vec 37 (.int .u32),.vec 3 (.int .i64),.mem (.hv Zy10_11)],0⟩
inductive Sp.E_10_0 where
 |e0
 |e1 (y97:Int) (y120:Zt10_1) (y135:Int×Unit) (y136:Zt10_6) (y137:Zt10_8) (y138 y139:List Int)
 |e2 (y135:Int×Unit) (y136:Zt10_6) (y137:Zt10_8) (y138 y139:List Int)
 |e3 (y137:Zt10_8)
 |e4 (y97:Int) (y141:Zt10_1) (y156:Zt10_0)
 |e5 (y156:Zt10_0)
 |e6 (y156:Zt10_0)
noncomputable def Sp.B_10_0{R:Type}(r:Option E_10_0)(k0:Option R)(k1:Int->Zt10_1->(Int×Unit)->Zt10_6->Zt10_8->List Int->List Int->Option R)(k2:(Int×Unit)->Zt10_6->Zt10_8->List Int->List Int->Option R)(k3:Zt10_8->Option R)(k4:Int->Zt10_1->Zt10_0->Option R)(k5 k6:Zt10_0->Option R):Option R:=match r with
 |none=>none
 |some (.e0)=>k0
 |some (.e1 y97 y120 y135 y136 y137 y138 y139)=>k1 y97 y120 y135 y136 y137 y138 y139
 |some (.e2 y135 y136 y137 y138 y139)=>k2 y135 y136 y137 y138 y139
 |some (.e3 y137)=>k3 y137
 |some (.e4 y97 y141 y156)=>k4 y97 y141 y156
 |some (.e5 y156)=>k5 y156
 |some (.e6 y156)=>k6 y156
noncomputable def Y_10_0{R:Type}(k:Ex->St->Option R):E_10_0->Option R
 | .e0=>k Ex.ret (sx 145 [(8,CV.ptr 0 []),(9,CV.ptr 1 []),(10,CV.ptr 2 []),(11,CV.int i64 ((v_42 19).2.2.2.1))] [Blk.mem (CV.pure (Ty.pair (Ty.int i64) (Ty.pair (Ty.int i64) (Ty.pair (Ty.int i64) (Ty.pair (Ty.pair (Ty.int i64) (Ty.pair (Ty.int i64) (Ty.pair (Ty.arr 32 (Ty.int u8)) (Ty.pair (Ty.pair (Ty.int i64) (Ty.pair (Ty.slice (Ty.arr 32 (Ty.int u8))) (Ty.pair (Ty.slice (Ty.arr 32 (Ty.int u8))) Ty.unit))) Ty.unit)))) Ty.unit)))) (((v_42 19).1):(Zt10_10))),Blk.mem (CV.pure (Ty.pair (Ty.pair (Ty.slice (Ty.int u32)) (Ty.pair (Ty.slice (Ty.int i64)) (Ty.pair (Ty.int i64) Ty.unit))) (Ty.pair (Ty.arr 32 (Ty.int u8)) Ty.unit)) (((v_42 19).2.1):(((List Int)×((List Int)×(Int×Unit)))×((List Int)×Unit)))),Blk.mem (CV.pure (Ty.pair (Ty.int i64) (Ty.pair (Ty.int u32) Ty.unit)) (((v_42 19).2.2.1):(Int×(Int×Unit))))])
 | .e1 y97 y120 y135 y136 y137 y138 y139=>k Ex.ret (sx 145 [(8,CV.ptr 0 []),(9,CV.ptr 1 []),(10,CV.ptr 4 []),(11,CV.int i64 0)] [Blk.mem (CV.pure (Ty.pair (Ty.int i64) (Ty.pair (Ty.int i64) (Ty.pair (Ty.int i64) (Ty.pair (Ty.pair (Ty.int i64) (Ty.pair (Ty.int i64) (Ty.pair (Ty.arr 32 (Ty.int u8)) (Ty.pair (Ty.pair (Ty.int i64) (Ty.pair (Ty.slice (Ty.arr 32 (Ty.int u8))) (Ty.pair (Ty.slice (Ty.arr 32 (Ty.int u8))) Ty.unit))) Ty.unit)))) Ty.unit)))) ((1,y97,0,y120,PUnit.unit):(Zt10_10))),Blk.mem (CV.pair (CV.pair (CV.whole 2) (CV.pair (CV.whole 3) (CV.pure (Ty.pair (Ty.int i64) Ty.unit) y135))) (CV.pure (Ty.pair (Ty.arr 32 (Ty.int u8)) Ty.unit) y136)),Blk.vec 37 (Ty.int u32) y138,Blk.vec 3 (Ty.int i64) y139,Blk.mem (CV.pure (Ty.pair (Ty.int i64) (Ty.pair (Ty.int u32) Ty.unit)) ((y137.1):Zt10_16))])
 | .e2 y135 y136 y137 y138 y139=>k Ex.ret (sx 145 [(8,CV.ptr 0 []),(9,CV.ptr 3 []),(10,CV.ptr 6 []),(11,CV.int i64 18)] [Blk.mem (CV.pair (CV.int i64 0) (CV.pair (CV.int i64 0) (CV.pair (CV.int i64 0) (CV.pair (CV.pair (CV.int i64 0) (CV.pair (CV.int i64 0) (CV.pair (CV.pure (Ty.arr 32 (Ty.int u8)) ((replicate 32 (0:Int)):(List Int))) (CV.pair (CV.pair (CV.int i64 0) (CV.pair (CV.whole 1) (CV.pair (CV.whole 2) (CV.pure Ty.unit PUnit.unit)))) (CV.pure Ty.unit PUnit.unit))))) (CV.pure Ty.unit PUnit.unit))))),Blk.vec 23 (Ty.arr 32 (Ty.int u8)) [],Blk.vec 23 (Ty.arr 32 (Ty.int u8)) [],Blk.mem (CV.pair (CV.pair (CV.whole 4) (CV.pair (CV.whole 5) (CV.pure (Ty.pair (Ty.int i64) Ty.unit) y135))) (CV.pure (Ty.pair (Ty.arr 32 (Ty.int u8)) Ty.unit) y136)),Blk.vec 37 (Ty.int u32) y138,Blk.vec 3 (Ty.int i64) y139,Blk.mem (CV.pure (Ty.pair (Ty.int i64) (Ty.pair (Ty.int u32) Ty.unit)) ((y137.1):Zt10_16))])
 | .e3 y137=>k Ex.ret (sx 145 [(8,CV.ptr 0 []),(9,CV.ptr 1 []),(10,CV.ptr 2 []),(11,CV.int i64 ((v_42 (y137.2.1)).2.2.2.1))] [Blk.mem (CV.pure (Ty.pair (Ty.int i64) (Ty.pair (Ty.int i64) (Ty.pair (Ty.int i64) (Ty.pair (Ty.pair (Ty.int i64) (Ty.pair (Ty.int i64) (Ty.pair (Ty.arr 32 (Ty.int u8)) (Ty.pair (Ty.pair (Ty.int i64) (Ty.pair (Ty.slice (Ty.arr 32 (Ty.int u8))) (Ty.pair (Ty.slice (Ty.arr 32 (Ty.int u8))) Ty.unit))) Ty.unit)))) Ty.unit)))) (((v_42 (y137.2.1)).1):Zt10_14)),Blk.mem (CV.pure (Ty.pair (Ty.pair (Ty.slice (Ty.int u32)) (Ty.pair (Ty.slice (Ty.int i64)) (Ty.pair (Ty.int i64) Ty.unit))) (Ty.pair (Ty.arr 32 (Ty.int u8)) Ty.unit)) (((v_42 (y137.2.1)).2.1):Zt10_13)),Blk.mem (CV.pure (Ty.pair (Ty.int i64) (Ty.pair (Ty.int u32) Ty.unit)) (((v_42 (y137.2.1)).2.2.1):Zt10_16))])
 | .e4 y97 y141 y156=>k Ex.ret (sx 145 [(8,CV.ptr 0 []),(9,CV.ptr 1 []),(10,CV.ptr 2 []),(11,CV.int i64 0)] [Blk.mem (CV.pure (Ty.pair (Ty.int i64) (Ty.pair (Ty.int i64) (Ty.pair (Ty.int i64) (Ty.pair (Ty.pair (Ty.int i64) (Ty.pair (Ty.int i64) (Ty.pair (Ty.arr 32 (Ty.int u8)) (Ty.pair (Ty.pair (Ty.int i64) (Ty.pair (Ty.slice (Ty.arr 32 (Ty.int u8))) (Ty.pair (Ty.slice (Ty.arr 32 (Ty.int u8))) Ty.unit))) Ty.unit)))) Ty.unit)))) ((1,y97,0,y141,PUnit.unit):(Zt10_10))),Blk.mem (CV.pure (Ty.pair (Ty.pair (Ty.slice (Ty.int u32)) (Ty.pair (Ty.slice (Ty.int i64)) (Ty.pair (Ty.int i64) Ty.unit))) (Ty.pair (Ty.arr 32 (Ty.int u8)) Ty.unit)) ((y156.1):Zt10_13)),Blk.mem (CV.pure (Ty.pair (Ty.int i64) (Ty.pair (Ty.int u32) Ty.unit)) ((y156.2.1):Zt10_16))])
 | .e5 y156=>k Ex.ret (sx 145 [(8,CV.ptr 0 []),(9,CV.ptr 3 []),(10,CV.ptr 4 []),(11,CV.int i64 18)] [Blk.mem (CV.pair (CV.int i64 0) (CV.pair (CV.int i64 0) (CV.pair (CV.int i64 0) (CV.pair (CV.pair (CV.int i64 0) (CV.pair (CV.int i64 0) (CV.pair (CV.pure (Ty.arr 32 (Ty.int u8)) ((replicate 32 (0:Int)):(List Int))) (CV.pair (CV.pair (CV.int i64 0) (CV.pair (CV.whole 1) (CV.pair (CV.whole 2) (CV.pure Ty.unit PUnit.unit)))) (CV.pure Ty.unit PUnit.unit))))) (CV.pure Ty.unit PUnit.unit))))),Blk.vec 23 (Ty.arr 32 (Ty.int u8)) [],Blk.vec 23 (Ty.arr 32 (Ty.int u8)) [],Blk.mem (CV.pure (Ty.pair (Ty.pair (Ty.slice (Ty.int u32)) (Ty.pair (Ty.slice (Ty.int i64)) (Ty.pair (Ty.int i64) Ty.unit))) (Ty.pair (Ty.arr 32 (Ty.int u8)) Ty.unit)) ((y156.1):Zt10_13)),Blk.mem (CV.pure (Ty.pair (Ty.int i64) (Ty.pair (Ty.int u32) Ty.unit)) ((y156.2.1):Zt10_16))])
 | .e6 y156=>k Ex.ret (sx 145 [(8,CV.ptr 0 []),(9,CV.ptr 1 []),(10,CV.ptr 2 []),(11,CV.int i64 ((v_42 (y156.2.2.1)).2.2.2.1))] [Blk.mem (CV.pure (Ty.pair (Ty.int i64) (Ty.pair (Ty.int i64) (Ty.pair (Ty.int i64) (Ty.pair (Ty.pair (Ty.int i64) (Ty.pair (Ty.int i64) (Ty.pair (Ty.arr 32 (Ty.int u8)) (Ty.pair (Ty.pair (Ty.int i64) (Ty.pair (Ty.slice (Ty.arr 32 (Ty.int u8))) (Ty.pair (Ty.slice (Ty.arr 32 (Ty.int u8))) Ty.unit))) Ty.unit)))) Ty.unit)))) (((v_42 (y156.2.2.1)).1):Zt10_14)),Blk.mem (CV.pure (Ty.pair (Ty.pair (Ty.slice (Ty.int u32)) (Ty.pair (Ty.slice (Ty.int i64)) (Ty.pair (Ty.int i64) Ty.unit))) (Ty.pair (Ty.arr 32 (Ty.int u8)) Ty.unit)) (((v_42 (y156.2.2.1)).2.1):Zt10_13)),Blk.mem (CV.pure (Ty.pair (Ty.int i64) (Ty.pair (Ty.int u32) Ty.unit)) (((v_42 (y156.2.2.1)).2.2.1):Zt10_16))])
noncomputable def Sp.S_10_0{R:Type}(k:E_10_0->Option R)(p0:Int)(p1:(List Int×List Int×Int×Unit)×List Int×Unit)(p2:Int×Int×List Int×(Int×List (List Int)×List (List Int)×Unit)×Unit)(p3:Int×Int×Unit)(p4 p5 p6 p7 p8:Int)(p9:List Int)(p10:Int)(p11 p12:List (List Int))(p13:Int×Unit)(p14:List Int×Unit)(p15 p16:List Int)(p17:Int×Int×Unit):Option R:=
 gd (sl3 (wrap i64 (p0*wrap i64 (Int.tdiv (↑(length (p1.1.2.1)):Int) 2))) (wrap i64 (wrap i64 (p0*wrap i64 (Int.tdiv (↑(length (p1.1.2.1)):Int) 2))+wrap i64 (Int.tdiv (↑(length (p1.1.2.1)):Int) 2))) (↑(length (p1.1.2.1)):Int)) (gd (p_47 (take (toNat (wrap i64 (wrap i64 (p0*wrap i64 (Int.tdiv (↑(length (p1.1.2.1)):Int) 2))+wrap i64 (Int.tdiv (↑(length (p1.1.2.1)):Int) 2)))-toNat (wrap i64 (p0*wrap i64 (Int.tdiv (↑(length (p1.1.2.1)):Int) 2)))) (drop (toNat (wrap i64 (p0*wrap i64 (Int.tdiv (↑(length (p1.1.2.1)):Int) 2)))) (p1.1.2.1))) (p1.1.2.2.1)) (bif(v_47 (take (toNat (wrap i64 (wrap i64 (p0*wrap i64 (Int.tdiv (↑(length (p1.1.2.1)):Int) 2))+wrap i64 (Int.tdiv (↑(length (p1.1.2.1)):Int) 2)))-toNat (wrap i64 (p0*wrap i64 (Int.tdiv (↑(length (p1.1.2.1)):Int) 2)))) (drop (toNat (wrap i64 (p0*wrap i64 (Int.tdiv (↑(length (p1.1.2.1)):Int) 2)))) (p1.1.2.1))) (p1.1.2.2.1)).1 then gd (p_42 19) (k (E_10_0.e0))else gd (room (length (p1.1.1)) 4) (gd (room (length (p1.1.2.1)) 8) (B_10_1 (L_10_1 4611686018427387904 p0 (wrap i64 (Int.tdiv (↑(length (p1.1.2.1)):Int) 2)) (wrap i64 (Int.tdiv (↑(length (p1.1.2.1)):Int) 2)) 0 p1 p2 p4 p5 p6 p7 p8 p9 p10 p11 p12 p13 p14 p15 p16 p17 (p1.1.2.2.1,PUnit.unit) (p1.2) (p3,0,PUnit.unit) (p1.1.1) (p1.1.2.1)) (fun y97 y98 y99 y100 y101 y102 y103 y104 y105 y106 y107 y108 y109 y110 y111 y112 y113 y114 y115 y116 y117 y118=>gd (p_41 y98) (gd (p_51 y99) (B_10_50_0_0 (L_10_50_0_0 4611686018427387904 (wrap i64 (wrap i64 (y97*(v_41 y98).1)+1)) ((v_51 y99).1) (↑(length ((v_51 y99).1)):Int) 0 y98 y99 y100 y101 y102 y103 y104 y105 y106 y107 y108 y109 y110 y111 y112 y113 y114 y115 y116 y117 y118) (fun y119 y120 y121 y122 y123 y124 y125 y126 y127 y128 y129 y130 y131 y132 y133 y134 y135 y136 y137 y138 y139=>bif y137.2.1==0 then k (E_10_0.e1 y97 y120 y135 y136 y137 y138 y139)else bif y137.2.1==18 then k (E_10_0.e2 y135 y136 y137 y138 y139)else gd (p_42 (y137.2.1)) (k (E_10_0.e3 y137))) fun y140 y141 y142 y143 y144 y145 y146 y147 y148 y149 y150 y151 y152 y153 y154 y155 y156 y157 y158=>bif y156.2.2.1==0 then k (E_10_0.e4 y97 y141 y156)else bif y156.2.2.1==18 then k (E_10_0.e5 y156)else gd (p_42 (y156.2.2.1)) (k (E_10_0.e6 y156))))) fun y159 y160 y161 y162 y163 y164 y165 y166 y167 y168 y169 y170 y171 y172 y173 y174 y175 y176=>gd (p_41 y160) (gd (p_51 y161) (B_10_50_0_2 (L_10_50_0_2 4611686018427387904 (wrap i64 (wrap i64 (y159*(v_41 y160).1)+1)) ((v_51 y161).1) (↑(length ((v_51 y161).1)):Int) 0 y160 y161 y162 y163 y164 y165 y166 y167 y168 y169 y170 y171 y172 y173 y174 y175 y176) fun y177 y178 y179 y180 y181 y182 y183 y184 y185 y186 y187 y188 y189 y190 y191 y192 y193=>bif y193.2.2.1==0 then k (E_10_0.e4 y159 y178 y193)else bif y193.2.2.1==18 then k (E_10_0.e5 y193)else gd (p_42 (y193.2.2.1)) (k (E_10_0.e6 y193))))))))
noncomputable def Sp.J_10_0(p0:Int)(p1:(List Int×List Int×Int×Unit)×List Int×Unit)(p2:Int×Int×List Int×(Int×List (List Int)×List (List Int)×Unit)×Unit)(p3:Int×Int×Unit)(p4 p5 p6 p7 p8:Int)(p9:List Int)(p10:Int)(p11 p12:List (List Int))(p13:Int×Unit)(p14:List Int×Unit)(p15 p16:List Int)(p17:Int×Int×Unit):Option E_10_0:=S_10_0 some p0 p1 p2 p3 p4 p5 p6 p7 p8 p9 p10 p11 p12 p13 p14 p15 p16 p17
noncomputable def O_10_0{R:Type}:Orc R:=orL T_10_0 (fun a=>J_10_0 a.1 a.2.1 a.2.2.1 a.2.2.2.1 a.2.2.2.2.1 a.2.2.2.2.2.1 a.2.2.2.2.2.2.1 a.2.2.2.2.2.2.2.1 a.2.2.2.2.2.2.2.2.1 a.2.2.2.2.2.2.2.2.2.1 a.2.2.2.2.2.2.2.2.2.2.1 a.2.2.2.2.2.2.2.2.2.2.2.1 a.2.2.2.2.2.2.2.2.2.2.2.2.1 a.2.2.2.2.2.2.2.2.2.2.2.2.2.1 a.2.2.2.2.2.2.2.2.2.2.2.2.2.2.1 a.2.2.2.2.2.2.2.2.2.2.2.2.2.2.2.1 a.2.2.2.2.2.2.2.2.2.2.2.2.2.2.2.2.1 a.2.2.2.2.2.2.2.2.2.2.2.2.2.2.2.2.2.1) Y_10_0
theorem OK_10_0{R:Type}:okF (R:=R) sm_10 1 (nf 10 0) O_10_0:=jp ov_10_10_ok (os:=[O_10_1]) ⟨OK_10_1,trivial⟩ T_10_0 (fun R k a=>S_10_0 k a.1 a.2.1 a.2.2.1 a.2.2.2.1 a.2.2.2.2.1 a.2.2.2.2.2.1 a.2.2.2.2.2.2.1 a.2.2.2.2.2.2.2.1 a.2.2.2.2.2.2.2.2.1 a.2.2.2.2.2.2.2.2.2.1 a.2.2.2.2.2.2.2.2.2.2.1 a.2.2.2.2.2.2.2.2.2.2.2.1 a.2.2.2.2.2.2.2.2.2.2.2.2.1 a.2.2.2.2.2.2.2.2.2.2.2.2.2.1 a.2.2.2.2.2.2.2.2.2.2.2.2.2.2.1 a.2.2.2.2.2.2.2.2.2.2.2.2.2.2.2.1 a.2.2.2.2.2.2.2.2.2.2.2.2.2.2.2.2.1 a.2.2.2.2.2.2.2.2.2.2.2.2.2.2.2.2.2.1) Y_10_0 (fun k a=>by kernel_rfl) (fun Y a=>by
 unfold S_10_0
 repeat' first|apply gdN|apply condN|(apply Bn_10_1<;>intros)|(apply Bn_10_50_0_0<;>intros)|(apply Bn_10_50_0_2<;>intros)|rfl) (ok0 _)
noncomputable def F_10(a0:(Int×(Int×(Int×((Int×(Int×((List Int)×((Int×((List (List Int))×((List (List Int))×Unit)))×Unit))))×Unit)))))(a1:(((List Int)×((List Int)×(Int×Unit)))×((List Int)×Unit)))(a2:(Int×(Int×((List Int)×((Int×((List (List Int))×((List (List Int))×Unit)))×Unit)))))(a3:(Int×(Int×Unit))):Option ((Int×(Int×(Int×((Int×(Int×((List Int)×((Int×((List (List Int))×((List (List Int))×Unit)))×Unit))))×Unit))))×(((List Int)×((List Int)×(Int×Unit)))×((List Int)×Unit))×(Int×(Int×Unit))×Int×Unit) :=
 gd (p_37 a0) (bif !(v_37 a0).1 then gd (p_42 1) (some ((v_42 1).1,(v_42 1).2.1,(v_42 1).2.2.1,(v_42 1).2.2.2.1,PUnit.unit))else gd (p_29 a1) (bif !(v_29 a1).1 then gd (p_42 1) (some ((v_42 1).1,(v_42 1).2.1,(v_42 1).2.2.1,(v_42 1).2.2.2.1,PUnit.unit))else gd (p_39 a3) (bif !(v_39 a3).1 then gd (p_42 1) (some ((v_42 1).1,(v_42 1).2.1,(v_42 1).2.2.1,(v_42 1).2.2.2.1,PUnit.unit))else gd (p_41 a1) (gd (p_40 a2 (wrap i64 ((v_41 a1).1-564))) (bif !(v_40 a2 (wrap i64 ((v_41 a1).1-564))).1 then gd (p_42 1) (some ((v_42 1).1,(v_42 1).2.1,(v_42 1).2.2.1,(v_42 1).2.2.2.1,PUnit.unit))else gd (p_43 a0) (bif !(v_43 a0).1 then gd (p_42 6) (some ((v_42 6).1,(v_42 6).2.1,(v_42 6).2.2.1,(v_42 6).2.2.2.1,PUnit.unit))else gd (p_44 a1) (bif decide (a2.1<=(v_44 a1).1)then gd (p_42 20) (some ((v_42 20).1,(v_42 20).2.1,(v_42 20).2.2.1,(v_42 20).2.2.2.1,PUnit.unit))else gd (p_45 (a1.2.1) (a2.2.2.1) (a2.2.2.2.1)) (bif !(v_45 (a1.2.1) (a2.2.2.1) (a2.2.2.2.1)).1 then gd (p_42 14) (some ((v_42 14).1,(v_42 14).2.1,(v_42 14).2.2.1,(v_42 14).2.2.2.1,PUnit.unit))else gd (p_46 a1) (bif(v_46 a1).2.1 then B_10_0 (J_10_0 (wrap i64 (1-(v_46 a1).1)) a1 a2 a3 0 0 0 0 0 (replicate 32 (0:Int)) 0 [] [] (0,PUnit.unit) (replicate 32 (0:Int),PUnit.unit) [] [] (0,0,PUnit.unit)) (some ((v_42 19).1,(v_42 19).2.1,(v_42 19).2.2.1,(v_42 19).2.2.2.1,PUnit.unit)) (fun y36 y37 y38 y39 y40 y41 y42=>some ((1,y36,0,y37,PUnit.unit),((y41,y42,y38),y39),y40.1,0,PUnit.unit)) (fun y43 y44 y45 y46 y47=>some ((0,0,0,(0,0,replicate 32 (0:Int),(0,[],[],PUnit.unit),PUnit.unit),PUnit.unit),((y46,y47,y43),y44),y45.1,18,PUnit.unit)) (fun y48=>some ((v_42 (y48.2.1)).1,(v_42 (y48.2.1)).2.1,(v_42 (y48.2.1)).2.2.1,(v_42 (y48.2.1)).2.2.2.1,PUnit.unit)) (fun y49 y50 y51=>some ((1,y49,0,y50,PUnit.unit),y51.1,y51.2.1,0,PUnit.unit)) (fun y52=>some ((0,0,0,(0,0,replicate 32 (0:Int),(0,[],[],PUnit.unit),PUnit.unit),PUnit.unit),y52.1,y52.2.1,18,PUnit.unit)) fun y53=>some ((v_42 (y53.2.2.1)).1,(v_42 (y53.2.2.1)).2.1,(v_42 (y53.2.2.1)).2.2.1,(v_42 (y53.2.2.1)).2.2.2.1,PUnit.unit)else B_10_0 (J_10_0 0 a1 a2 a3 0 0 0 0 0 (replicate 32 (0:Int)) 0 [] [] (0,PUnit.unit) (replicate 32 (0:Int),PUnit.unit) [] [] (0,0,PUnit.unit)) (some ((v_42 19).1,(v_42 19).2.1,(v_42 19).2.2.1,(v_42 19).2.2.2.1,PUnit.unit)) (fun y54 y55 y56 y57 y58 y59 y60=>some ((1,y54,0,y55,PUnit.unit),((y59,y60,y56),y57),y58.1,0,PUnit.unit)) (fun y61 y62 y63 y64 y65=>some ((0,0,0,(0,0,replicate 32 (0:Int),(0,[],[],PUnit.unit),PUnit.unit),PUnit.unit),((y64,y65,y61),y62),y63.1,18,PUnit.unit)) (fun y66=>some ((v_42 (y66.2.1)).1,(v_42 (y66.2.1)).2.1,(v_42 (y66.2.1)).2.2.1,(v_42 (y66.2.1)).2.2.2.1,PUnit.unit)) (fun y67 y68 y69=>some ((1,y67,0,y68,PUnit.unit),y69.1,y69.2.1,0,PUnit.unit)) (fun y70=>some ((0,0,0,(0,0,replicate 32 (0:Int),(0,[],[],PUnit.unit),PUnit.unit),PUnit.unit),y70.1,y70.2.1,18,PUnit.unit)) fun y71=>some ((v_42 (y71.2.2.1)).1,(v_42 (y71.2.2.1)).2.1,(v_42 (y71.2.2.1)).2.2.1,(v_42 (y71.2.2.1)).2.2.2.1,PUnit.unit))))))))))
noncomputable def Sp.p_10(a0:(Int×(Int×(Int×((Int×(Int×((List Int)×((Int×((List (List Int))×((List (List Int))×Unit)))×Unit))))×Unit)))))(a1:(((List Int)×((List Int)×(Int×Unit)))×((List Int)×Unit)))(a2:(Int×(Int×((List Int)×((Int×((List (List Int))×((List (List Int))×Unit)))×Unit)))))(a3:(Int×(Int×Unit))):Bool:=(F_10 a0 a1 a2 a3).isSome
noncomputable def Sp.v_10(a0:(Int×(Int×(Int×((Int×(Int×((List Int)×((Int×((List (List Int))×((List (List Int))×Unit)))×Unit))))×Unit)))))(a1:(((List Int)×((List Int)×(Int×Unit)))×((List Int)×Unit)))(a2:(Int×(Int×((List Int)×((Int×((List (List Int))×((List (List Int))×Unit)))×Unit)))))(a3:(Int×(Int×Unit))):(Int×(Int×(Int×((Int×(Int×((List Int)×((Int×((List (List Int))×((List (List Int))×Unit)))×Unit))))×Unit))))×(((List Int)×((List Int)×(Int×Unit)))×((List Int)×Unit))×(Int×(Int×Unit))×Int×Unit:=(F_10 a0 a1 a2 a3).getD (dfH R_10)
noncomputable def s_10:Summ:=shS A_10 R_10 (fun x=>p_10 x.1 x.2.1 x.2.2.1 x.2.2.2.1) (fun x=>v_10 x.1 x.2.1 x.2.2.1 x.2.2.2.1)
theorem pv_10(a0:(Int×(Int×(Int×((Int×(Int×((List Int)×((Int×((List (List Int))×((List (List Int))×Unit)))×Unit))))×Unit)))))(a1:(((List Int)×((List Int)×(Int×Unit)))×((List Int)×Unit)))(a2:(Int×(Int×((List Int)×((Int×((List (List Int))×((List (List Int))×Unit)))×Unit)))))(a3:(Int×(Int×Unit))){y:(Int×(Int×(Int×((Int×(Int×((List Int)×((Int×((List (List Int))×((List (List Int))×Unit)))×Unit))))×Unit))))×(((List Int)×((List Int)×(Int×Unit)))×((List Int)×Unit))×(Int×(Int×Unit))×Int×Unit}(h:F_10 a0 a1 a2 a3=some y):p_10 a0 a1 a2 a3=true/\v_10 a0 a1 a2 a3=y:=pvG h
theorem run_10(x:HDen A_10)(y:HDen R_10)(h:F_10 x.1 x.2.1 x.2.2.1 x.2.2.2.1=some y):rnF sm_10 2 10 A_10 R_10 x y:=runG ov_10_10_ok (os:=[O_10_0]) ⟨OK_10_0,trivial⟩ (Eq.trans (by kernel_rfl) h)
end
noncomputable section
abbrev A_73:List Ty:=[(.pair (.slice (.int .u32)) (.pair (.slice (.int .i64)) (.pair (.int .i64) .unit))),(.pair (.slice (.int .u32)) (.pair (.slice (.int .i64)) (.pair (.int .i64) .unit)))]
abbrev R_73:List Ty:=[.bool]
noncomputable def sm_73:Nat->Option Summ:=smL []
noncomputable def T_73_0:PS:=⟨66,[(2,.kc (.ptr 0 [])),(3,.kc (.ptr 1 [])),(5,.hv (.int .i64))],[.mem (.hv (.pair (.slice (.int .u32)) (.pair (.slice (.int .i64)) (.pair (.int .i64) .unit)))),.mem (.hv (.pair (.slice (.int .u32)) (.pair (.slice (.int .i64)) (.pair (.int .i64) .unit))))],0⟩
inductive Sp.E_73_0 where
 |e0
 |e1 (p1 p2:List Int×List Int×Int×Unit)
noncomputable def Sp.B_73_0{R:Type}(r:Option E_73_0)(k0:Option R)(k1:(List Int×List Int×Int×Unit)->(List Int×List Int×Int×Unit)->Option R):Option R:=match r with
 |none=>none
 |some (.e0)=>k0
 |some (.e1 p1 p2)=>k1 p1 p2
noncomputable def Y_73_0{R:Type}(k:Ex->St->Option R):E_73_0->Option R
 | .e0=>k Ex.ret (sx 66 [(4,CV.bool false)] [])
 | .e1 p1 p2=>k (Ex.exit 0) (sx 66 [(2,CV.ptr 0 []),(3,CV.ptr 1 [])] [Blk.mem (CV.pure (Ty.pair (Ty.slice (Ty.int u32)) (Ty.pair (Ty.slice (Ty.int i64)) (Ty.pair (Ty.int i64) Ty.unit))) p1),Blk.mem (CV.pure (Ty.pair (Ty.slice (Ty.int u32)) (Ty.pair (Ty.slice (Ty.int i64)) (Ty.pair (Ty.int i64) Ty.unit))) p2)])
noncomputable def Sp.S_73_0{R:Type}(K:Int->(List Int×List Int×Int×Unit)->(List Int×List Int×Int×Unit)->Option R)(k:E_73_0->Option R)(p0:Int)(p1 p2:List Int×List Int×Int×Unit):Option R:=
 bif decide (p0<(↑(length (p1.1)):Int))then gd (inB p0 (length (p1.1))) (gd (inB p0 (length (p2.1))) (bif getD (p1.1) (toNat p0) 0 !=getD (p2.1) (toNat p0) 0 then k (E_73_0.e0)else K (wrap i64 (p0+1)) p1 p2))else k (E_73_0.e1 p1 p2)
noncomputable def Sp.L_73_0:Nat->Int->(List Int×List Int×Int×Unit)->(List Int×List Int×Int×Unit)->Option E_73_0
 |0,_,_,_=>none
 |m+1,p0,p1,p2=>S_73_0 (L_73_0 m) some p0 p1 p2
noncomputable def l_73_0(m:Nat)(a:T_73_0.E):Option E_73_0:=L_73_0 m a.1 a.2.1 a.2.2.1
noncomputable def O_73_0{R:Type}:Orc R:=orL T_73_0 (l_73_0 FU) Y_73_0
theorem OK_73_0{R:Type}:okF (R:=R) sm_73 0 (nf 73 0) O_73_0:=lp0 T_73_0 l_73_0 (fun R K k a=>S_73_0 (fun p0 p1 p2=>K (p0,p1,p2,())) k a.1 a.2.1 a.2.2.1) Y_73_0 (fun _ _ _=>by kernel_rfl) (fun _ _ _=>by
 unfold S_73_0
 repeat' first|apply gdN|apply condN|rfl) (ok0 _)
noncomputable def T_73_1:PS:=⟨66,[(2,.kc (.ptr 0 [])),(3,.kc (.ptr 1 [])),(6,.hv (.int .i64))],[.mem (.hv (.pair (.slice (.int .u32)) (.pair (.slice (.int .i64)) (.pair (.int .i64) .unit)))),.mem (.hv (.pair (.slice (.int .u32)) (.pair (.slice (.int .i64)) (.pair (.int .i64) .unit))))],0⟩
inductive Sp.E_73_1 where
 |e0
 |e1
noncomputable def Sp.B_73_1{R:Type}(r:Option E_73_1)(k0 k1:Option R):Option R:=match r with
 |none=>none
 |some (.e0)=>k0
 |some (.e1)=>k1
noncomputable def Y_73_1{R:Type}(k:Ex->St->Option R):E_73_1->Option R
 | .e0=>k Ex.ret (sx 66 [(4,CV.bool false)] [])
 | .e1=>k (Ex.exit 2) (sx 66 [] [])
noncomputable def Sp.S_73_1{R:Type}(K:Int->(List Int×List Int×Int×Unit)->(List Int×List Int×Int×Unit)->Option R)(k:E_73_1->Option R)(p0:Int)(p1 p2:List Int×List Int×Int×Unit):Option R:=
 bif decide (p0<(↑(length (p1.2.1)):Int))then gd (inB p0 (length (p1.2.1))) (gd (inB p0 (length (p2.2.1))) (bif getD (p1.2.1) (toNat p0) 0 !=getD (p2.2.1) (toNat p0) 0 then k (E_73_1.e0)else K (wrap i64 (p0+1)) p1 p2))else k (E_73_1.e1)
noncomputable def Sp.L_73_1:Nat->Int->(List Int×List Int×Int×Unit)->(List Int×List Int×Int×Unit)->Option E_73_1
 |0,_,_,_=>none
 |m+1,p0,p1,p2=>S_73_1 (L_73_1 m) some p0 p1 p2
noncomputable def l_73_1(m:Nat)(a:T_73_1.E):Option E_73_1:=L_73_1 m a.1 a.2.1 a.2.2.1
noncomputable def O_73_1{R:Type}:Orc R:=orL T_73_1 (l_73_1 FU) Y_73_1
theorem OK_73_1{R:Type}:okF (R:=R) sm_73 0 (nf 73 1) O_73_1:=lp0 T_73_1 l_73_1 (fun R K k a=>S_73_1 (fun p0 p1 p2=>K (p0,p1,p2,())) k a.1 a.2.1 a.2.2.1) Y_73_1 (fun _ _ _=>by kernel_rfl) (fun _ _ _=>by
 unfold S_73_1
 repeat' first|apply gdN|apply condN|rfl) (ok0 _)
noncomputable def F_73(a0:((List Int)×((List Int)×(Int×Unit))))(a1:((List Int)×((List Int)×(Int×Unit)))):Option (Bool×Unit) :=
 bif a0.2.2.1 !=a1.2.2.1 then some (false,PUnit.unit)else bif(↑(length (a0.1)):Int)!=(↑(length (a1.1)):Int)then some (false,PUnit.unit)else bif(↑(length (a0.2.1)):Int)!=(↑(length (a1.2.1)):Int)then some (false,PUnit.unit)else B_73_0 (L_73_0 4611686018427387904 0 a0 a1) (some (false,PUnit.unit)) fun y2 y3=>B_73_1 (L_73_1 4611686018427387904 0 y2 y3) (some (false,PUnit.unit)) (some (true,PUnit.unit))
noncomputable def Sp.p_73(a0:((List Int)×((List Int)×(Int×Unit))))(a1:((List Int)×((List Int)×(Int×Unit)))):Bool:=(F_73 a0 a1).isSome
noncomputable def Sp.v_73(a0:((List Int)×((List Int)×(Int×Unit))))(a1:((List Int)×((List Int)×(Int×Unit)))):Bool×Unit:=(F_73 a0 a1).getD (dfH R_73)
noncomputable def s_73:Summ:=shN A_73 R_73 (fun x=>p_73 x.1 x.2.1) (fun x=>v_73 x.1 x.2.1)
theorem pv_73(a0:((List Int)×((List Int)×(Int×Unit))))(a1:((List Int)×((List Int)×(Int×Unit)))){y:Bool×Unit}(h:F_73 a0 a1=some y):p_73 a0 a1=true/\v_73 a0 a1=y:=pvG h
theorem run_73(x:HDen A_73)(y:HDen R_73)(h:F_73 x.1 x.2.1=some y):rnF sm_73 1 73 A_73 R_73 x y:=runG noO_ok (os:=[O_73_0,O_73_1]) ⟨OK_73_0,OK_73_1,trivial⟩ (Eq.trans (by kernel_rfl) h)
end
noncomputable section
abbrev A_28:List Ty:=[(.pair (.pair (.slice (.int .u32)) (.pair (.slice (.int .i64)) (.pair (.int .i64) .unit))) (.pair (.arr 32 (.int .u8)) .unit)),(.pair (.pair (.slice (.int .u32)) (.pair (.slice (.int .i64)) (.pair (.int .i64) .unit))) (.pair (.arr 32 (.int .u8)) .unit))]
abbrev R_28:List Ty:=[.bool]
noncomputable def sm_28:Nat->Option Summ:=smL [(73,s_73)]
noncomputable def F_28(a0:(((List Int)×((List Int)×(Int×Unit)))×((List Int)×Unit)))(a1:(((List Int)×((List Int)×(Int×Unit)))×((List Int)×Unit))):Option (Bool×Unit) :=
 bif Ty.beq (Ty.arr 32 (Ty.int u8)) (a0.2.1) (a1.2.1)then gd (p_73 (a0.1) (a1.1)) (some ((v_73 (a0.1) (a1.1)).1,PUnit.unit))else some (false,PUnit.unit)
noncomputable def Sp.p_28(a0:(((List Int)×((List Int)×(Int×Unit)))×((List Int)×Unit)))(a1:(((List Int)×((List Int)×(Int×Unit)))×((List Int)×Unit))):Bool:=(F_28 a0 a1).isSome
noncomputable def Sp.v_28(a0:(((List Int)×((List Int)×(Int×Unit)))×((List Int)×Unit)))(a1:(((List Int)×((List Int)×(Int×Unit)))×((List Int)×Unit))):Bool×Unit:=(F_28 a0 a1).getD (dfH R_28)
noncomputable def s_28:Summ:=shN A_28 R_28 (fun x=>p_28 x.1 x.2.1) (fun x=>v_28 x.1 x.2.1)
theorem pv_28(a0:(((List Int)×((List Int)×(Int×Unit)))×((List Int)×Unit)))(a1:(((List Int)×((List Int)×(Int×Unit)))×((List Int)×Unit))){y:Bool×Unit}(h:F_28 a0 a1=some y):p_28 a0 a1=true/\v_28 a0 a1=y:=pvG h
theorem run_28(x:HDen A_28)(y:HDen R_28)(h:F_28 x.1 x.2.1=some y):rnF sm_28 1 28 A_28 R_28 x y:=runG noO_ok (os:=[]) trivial (Eq.trans (by kernel_rfl) h)
end
noncomputable section
abbrev A_143:List Ty:=[(.int .u32),(.int .u32)]
abbrev R_143:List Ty:=[(.int .u32),(.int .u32)]
noncomputable def sm_143:Nat->Option Summ:=smL []
noncomputable def F_143(a0 a1:Int):Option (Int×Int×Unit) :=
 some (wrap u32 (Int.fdiv (wrap u64 (wrap u64 a0*wrap u64 a1)) 4294967296),wrap u32 (wrap u64 (wrap u64 a0*wrap u64 a1)),PUnit.unit)
noncomputable def Sp.p_143(a0 a1:Int):Bool:=(F_143 a0 a1).isSome
noncomputable def Sp.v_143(a0 a1:Int):Int×Int×Unit:=(F_143 a0 a1).getD (dfH R_143)
noncomputable def s_143:Summ:=shN A_143 R_143 (fun x=>p_143 x.1 x.2.1) (fun x=>v_143 x.1 x.2.1)
theorem run_143(x:HDen A_143)(y:HDen R_143)(h:F_143 x.1 x.2.1=some y):rnF sm_143 1 143 A_143 R_143 x y:=runG noO_ok (os:=[]) trivial (Eq.trans (by kernel_rfl) h)
end
noncomputable section
abbrev A_144:List Ty:=[(.int .u64),(.int .u64)]
abbrev R_144:List Ty:=[(.int .u64),(.int .u64)]
noncomputable def sm_144:Nat->Option Summ:=smL []
noncomputable def F_144(a0 a1:Int):Option (Int×Int×Unit) :=
 some (wrap u64 (wrap u64 (wrap u64 (Int.fdiv a0 4294967296*Int.fdiv a1 4294967296)+Int.fdiv (wrap u64 (wrap u64 (Int.fdiv a0 4294967296*Sp.andI u64 a1 4294967295)+Int.fdiv (wrap u64 (Sp.andI u64 a0 4294967295*Sp.andI u64 a1 4294967295)) 4294967296)) 4294967296)+Int.fdiv (wrap u64 (Sp.andI u64 (wrap u64 (wrap u64 (Int.fdiv a0 4294967296*Sp.andI u64 a1 4294967295)+Int.fdiv (wrap u64 (Sp.andI u64 a0 4294967295*Sp.andI u64 a1 4294967295)) 4294967296)) 4294967295+wrap u64 (Sp.andI u64 a0 4294967295*Int.fdiv a1 4294967296))) 4294967296),wrap u64 (a0*a1),PUnit.unit)
noncomputable def Sp.p_144(a0 a1:Int):Bool:=(F_144 a0 a1).isSome
noncomputable def Sp.v_144(a0 a1:Int):Int×Int×Unit:=(F_144 a0 a1).getD (dfH R_144)
noncomputable def s_144:Summ:=shN A_144 R_144 (fun x=>p_144 x.1 x.2.1) (fun x=>v_144 x.1 x.2.1)
theorem run_144(x:HDen A_144)(y:HDen R_144)(h:F_144 x.1 x.2.1=some y):rnF sm_144 1 144 A_144 R_144 x y:=runG noO_ok (os:=[]) trivial (Eq.trans (by kernel_rfl) h)
end
noncomputable section
abbrev A_133:List Ty:=[(.int .u64),(.int .u64)]
abbrev R_133:List Ty:=[(.int .u64),(.int .u64)]
noncomputable def sm_133:Nat->Option Summ:=smL [(143,s_143),(144,s_144)]
noncomputable def F_133(a0 a1:Int):Option (Int×Int×Unit) :=
 gd (p_144 a0 a1) (some ((v_144 a0 a1).1,(v_144 a0 a1).2.1,PUnit.unit))
noncomputable def Sp.p_133(a0 a1:Int):Bool:=(F_133 a0 a1).isSome
noncomputable def Sp.v_133(a0 a1:Int):Int×Int×Unit:=(F_133 a0 a1).getD (dfH R_133)
noncomputable def s_133:Summ:=shN A_133 R_133 (fun x=>p_133 x.1 x.2.1) (fun x=>v_133 x.1 x.2.1)
theorem run_133(x:HDen A_133)(y:HDen R_133)(h:F_133 x.1 x.2.1=some y):rnF sm_133 1 133 A_133 R_133 x y:=runG noO_ok (os:=[]) trivial (Eq.trans (by kernel_rfl) h)
end
noncomputable section
abbrev A_117:List Ty:=[(.slice (.int .u32)),(.int .i64)]
abbrev R_117:List Ty:=[(.slice (.int .u32))]
noncomputable def sm_117:Nat->Option Summ:=smL [(133,s_133)]
noncomputable def T_117_2:PS:=⟨48,[(7,.kc (.whole 0)),(8,.hv (.int .i64))],[.vec 37 (.int .u32)],0⟩
inductive Sp.E_117_2 where
 |e0 (p1:List Int)
noncomputable def Sp.B_117_2{R:Type}(r:Option E_117_2)(k0:List Int->Option R):Option R:=match r with
 |none=>none
 |some (.e0 p1)=>k0 p1
theorem Bn_117_2{A R:Type}{r:Option E_117_2}{f:A->Option R}{k0:List Int->Option A}{l0:List Int->Option R}(h0:∀p1,(k0 p1).bind f=l0 p1):(B_117_2 r k0).bind f=B_117_2 r l0:=by
 cases r with
 |none=>rfl
 |some e=>cases e<;>first|apply h0
noncomputable def Y_117_2{R:Type}(k:Ex->St->Option R):E_117_2->Option R
 | .e0 p1=>k (Ex.exit 0) (sx 48 [(7,CV.whole 0)] [Blk.vec 37 (Ty.int u32) p1])
noncomputable def Sp.S_117_2{R:Type}(K:Int->List Int->Option R)(k:E_117_2->Option R)(p0:Int)(p1:List Int):Option R:=
 bif decide (p0<(↑(length p1):Int))then gd (sl3 p0 (↑(length p1):Int) (↑(length p1):Int)) (gd (sl3 0 p0 (↑(length p1):Int)) (gd (decide (0+(toNat p0-0)<=length p1)&&(decide (toNat p0+(toNat (↑(length p1):Int)-toNat p0)<=length p1)&&decide (0<length p1))) (K (wrap i64 (p0+(↑(Nat.min (length (take (toNat p0-0) (drop 0 p1))) (toNat (↑(length p1):Int)-toNat p0)):Int))) (over p1 (toNat p0) (take (toNat (↑(length p1):Int)-toNat p0) (take (toNat p0-0) (drop 0 p1)))))))else k (E_117_2.e0 p1)
noncomputable def Sp.L_117_2:Nat->Int->List Int->Option E_117_2
 |0,_,_=>none
 |m+1,p0,p1=>S_117_2 (L_117_2 m) some p0 p1
noncomputable def l_117_2(m:Nat)(a:T_117_2.E):Option E_117_2:=L_117_2 m a.1 a.2.1
noncomputable def O_117_2{R:Type}:Orc R:=orL T_117_2 (l_117_2 FU) Y_117_2
theorem OK_117_2{R:Type}:okF (R:=R) sm_117 0 (ni (ni (nf 117 0) 0) 0) O_117_2:=lp0 T_117_2 l_117_2 (fun R K k a=>S_117_2 (fun p0 p1=>K (p0,p1,())) k a.1 a.2.1) Y_117_2 (fun _ _ _=>by kernel_rfl) (fun _ _ _=>by
 unfold S_117_2
 repeat' first|apply gdN|apply condN|rfl) (ok0 _)
noncomputable def T_117_1:PS:=⟨48,[(0,.hv (.slice (.int .u32))),(6,.hv (.int .u64))],[],0⟩
inductive Sp.E_117_1 where
 |e0 (y5:List Int)
noncomputable def Sp.B_117_1{R:Type}(r:Option E_117_1)(k0:List Int->Option R):Option R:=match r with
 |none=>none
 |some (.e0 y5)=>k0 y5
theorem Bn_117_1{A R:Type}{r:Option E_117_1}{f:A->Option R}{k0:List Int->Option A}{l0:List Int->Option R}(h0:∀y5,(k0 y5).bind f=l0 y5):(B_117_1 r k0).bind f=B_117_1 r l0:=by
 cases r with
 |none=>rfl
 |some e=>cases e<;>first|apply h0
noncomputable def Y_117_1{R:Type}(k:Ex->St->Option R):E_117_1->Option R
 | .e0 y5=>k Ex.ret (sx 48 [(4,CV.whole 0)] [Blk.vec 37 (Ty.int u32) y5])
noncomputable def Sp.S_117_1{R:Type}(k:E_117_1->Option R)(p0:List Int)(p1:Int):Option R:=
 gd (decide (0<=wrap i64 p1)&&(wrap i64 p1==wrap i64 p1&&room (toNat (wrap i64 p1)) 4)) (gd (decide (0+length (replicate (toNat (wrap i64 p1)) (0:Int))<=length (replicate (toNat (wrap i64 p1)) (0:Int)))&&decide (0<length (replicate (toNat (wrap i64 p1)) (0:Int)))) (B_117_2 (L_117_2 4611686018427387904 (↑(Nat.min (length p0) (length (replicate (toNat (wrap i64 p1)) (0:Int)))):Int) (over (replicate (toNat (wrap i64 p1)) (0:Int)) 0 (take (length (replicate (toNat (wrap i64 p1)) (0:Int))) p0))) fun y5=>k (E_117_1.e0 y5)))
noncomputable def Sp.J_117_1(p0:List Int)(p1:Int):Option E_117_1:=S_117_1 some p0 p1
noncomputable def O_117_1{R:Type}:Orc R:=orL T_117_1 (fun a=>J_117_1 a.1 a.2.1) Y_117_1
theorem OK_117_1{R:Type}:okF (R:=R) sm_117 0 (ni (nf 117 0) 0) O_117_1:=jp noO_ok (os:=[O_117_2]) ⟨OK_117_2,trivial⟩ T_117_1 (fun R k a=>S_117_1 k a.1 a.2.1) Y_117_1 (fun k a=>by kernel_rfl) (fun Y a=>by
 unfold S_117_1
 repeat' first|apply gdN|apply condN|(apply Bn_117_2<;>intros)|rfl) (ok0 _)
noncomputable def T_117_0:PS:=⟨48,[(0,.hv (.slice (.int .u32))),(1,.hv (.int .i64))],[],0⟩
inductive Sp.E_117_0 where
 |e0 (y1:List Int)
noncomputable def Sp.B_117_0{R:Type}(r:Option E_117_0)(k0:List Int->Option R):Option R:=match r with
 |none=>none
 |some (.e0 y1)=>k0 y1
noncomputable def Y_117_0{R:Type}(k:Ex->St->Option R):E_117_0->Option R
 | .e0 y1=>k Ex.ret (sx 48 [(4,CV.whole 0)] [Blk.vec 37 (Ty.int u32) y1])
noncomputable def Sp.S_117_0{R:Type}(k:E_117_0->Option R)(p0:List Int)(p1:Int):Option R:=
 gd (p_133 (wrap u64 (↑(length p0):Int)) (wrap u64 p1)) (bif decide ((v_133 (wrap u64 (↑(length p0):Int)) (wrap u64 p1)).1>0)then none else bif decide ((v_133 (wrap u64 (↑(length p0):Int)) (wrap u64 p1)).2.1>9223372036854775807)then none else B_117_1 (J_117_1 p0 ((v_133 (wrap u64 (↑(length p0):Int)) (wrap u64 p1)).2.1)) fun y1=>k (E_117_0.e0 y1))
noncomputable def Sp.J_117_0(p0:List Int)(p1:Int):Option E_117_0:=S_117_0 some p0 p1
noncomputable def O_117_0{R:Type}:Orc R:=orL T_117_0 (fun a=>J_117_0 a.1 a.2.1) Y_117_0
theorem OK_117_0{R:Type}:okF (R:=R) sm_117 0 (nf 117 0) O_117_0:=jp noO_ok (os:=[O_117_1]) ⟨OK_117_1,trivial⟩ T_117_0 (fun R k a=>S_117_0 k a.1 a.2.1) Y_117_0 (fun k a=>by kernel_rfl) (fun Y a=>by
 unfold S_117_0
 repeat' first|apply gdN|apply condN|(apply Bn_117_1<;>intros)|rfl) (ok0 _)
noncomputable def F_117(a0:(List Int))(a1:Int):Option ((List Int)×Unit) :=
 bif decide (a1<0)then none else B_117_0 (J_117_0 a0 a1) fun y1=>some (y1,PUnit.unit)
noncomputable def Sp.p_117(a0:(List Int))(a1:Int):Bool:=(F_117 a0 a1).isSome
noncomputable def Sp.v_117(a0:(List Int))(a1:Int):(List Int)×Unit:=(F_117 a0 a1).getD (dfH R_117)
noncomputable def s_117:Summ:=shS A_117 R_117 (fun x=>p_117 x.1 x.2.1) (fun x=>v_117 x.1 x.2.1)
theorem run_117(x:HDen A_117)(y:HDen R_117)(h:F_117 x.1 x.2.1=some y):rnF sm_117 1 117 A_117 R_117 x y:=runG noO_ok (os:=[O_117_0]) ⟨OK_117_0,trivial⟩ (Eq.trans (by kernel_rfl) h)
end
noncomputable section
abbrev A_79:List Ty:=[(.int .i64),(.int .i64)]
abbrev R_79:List Ty:=[(.pair (.slice (.int .u32)) (.pair (.slice (.int .i64)) (.pair (.int .i64) .unit))),(.int .i64)]
noncomputable def sm_79:Nat->Option Summ:=smL [(117,s_117)]
noncomputable def F_79(a0 a1:Int):Option (((List Int)×((List Int)×(Int×Unit)))×Int×Unit) :=
 bif decide (a0<1)then some (([],[],0,PUnit.unit),2,PUnit.unit)else bif decide (a0>64)then some (([],[],0,PUnit.unit),2,PUnit.unit)else bif decide (a1<1)then some (([],[],0,PUnit.unit),2,PUnit.unit)else bif decide (a1>1000000)then some (([],[],0,PUnit.unit),2,PUnit.unit)else gd (p_117 [4294967295] (wrap i64 (a0*64))) (gd (decide (0<=a0)&&(a0==a0&&room (toNat a0) 8)) (some (((v_117 [4294967295] (wrap i64 (a0*64))).1,replicate (toNat a0) (0:Int),a1,PUnit.unit),0,PUnit.unit)))
noncomputable def Sp.p_79(a0 a1:Int):Bool:=(F_79 a0 a1).isSome
noncomputable def Sp.v_79(a0 a1:Int):((List Int)×((List Int)×(Int×Unit)))×Int×Unit:=(F_79 a0 a1).getD (dfH R_79)
noncomputable def s_79:Summ:=shS A_79 R_79 (fun x=>p_79 x.1 x.2.1) (fun x=>v_79 x.1 x.2.1)
theorem run_79(x:HDen A_79)(y:HDen R_79)(h:F_79 x.1 x.2.1=some y):rnF sm_79 1 79 A_79 R_79 x y:=runG noO_ok (os:=[]) trivial (Eq.trans (by kernel_rfl) h)
end
noncomputable section
abbrev A_34:List Ty:=[(.int .i64),(.int .i64),(.arr 32 (.int .u8))]
abbrev R_34:List Ty:=[(.pair (.pair (.slice (.int .u32)) (.pair (.slice (.int .i64)) (.pair (.int .i64) .unit))) (.pair (.arr 32 (.int .u8)) .unit)),(.int .i64)]
noncomputable def sm_34:Nat->Option Summ:=smL [(75,s_75),(79,s_79)]
noncomputable def F_34(a0 a1:Int)(a2:(List Int)):Option ((((List Int)×((List Int)×(Int×Unit)))×((List Int)×Unit))×Int×Unit) :=
 gd (p_75 a0) (bif !(v_75 a0).1 then some ((([],[],0,PUnit.unit),replicate 32 (0:Int),PUnit.unit),2,PUnit.unit)else gd (p_79 a0 a1) (bif(v_79 a0 a1).2.1 !=0 then some ((([],[],0,PUnit.unit),replicate 32 (0:Int),PUnit.unit),2,PUnit.unit)else some (((v_79 a0 a1).1,a2,PUnit.unit),0,PUnit.unit)))
noncomputable def Sp.p_34(a0 a1:Int)(a2:(List Int)):Bool:=(F_34 a0 a1 a2).isSome
noncomputable def Sp.v_34(a0 a1:Int)(a2:(List Int)):(((List Int)×((List Int)×(Int×Unit)))×((List Int)×Unit))×Int×Unit:=(F_34 a0 a1 a2).getD (dfH R_34)
noncomputable def s_34:Summ:=shS A_34 R_34 (fun x=>p_34 x.1 x.2.1 x.2.2.1) (fun x=>v_34 x.1 x.2.1 x.2.2.1)
theorem run_34(x:HDen A_34)(y:HDen R_34)(h:F_34 x.1 x.2.1 x.2.2.1=some y):rnF sm_34 1 34 A_34 R_34 x y:=runG noO_ok (os:=[]) trivial (Eq.trans (by kernel_rfl) h)
end
noncomputable section
abbrev A_35:List Ty:=[]
abbrev R_35:List Ty:=[(.pair (.int .i64) (.pair (.int .i64) (.pair (.int .i64) (.pair (.pair (.int .i64) (.pair (.int .i64) (.pair (.arr 32 (.int .u8)) (.pair (.pair (.int .i64) (.pair (.slice (.arr 32 (.int .u8))) (.pair (.slice (.arr 32 (.int .u8))) .unit))) .unit)))) .unit))))]
noncomputable def sm_35:Nat->Option Summ:=smL []
noncomputable def F_35:Option ((Int×(Int×(Int×((Int×(Int×((List Int)×((Int×((List (List Int))×((List (List Int))×Unit)))×Unit))))×Unit))))×Unit) :=
 some ((0,0,0,(0,0,replicate 32 (0:Int),(0,[],[],PUnit.unit),PUnit.unit),PUnit.unit),PUnit.unit)
noncomputable def Sp.p_35:Bool:=(F_35).isSome
noncomputable def Sp.v_35:(Int×(Int×(Int×((Int×(Int×((List Int)×((Int×((List (List Int))×((List (List Int))×Unit)))×Unit))))×Unit))))×Unit:=(F_35).getD (dfH R_35)
noncomputable def s_35:Summ:=shS A_35 R_35 (fun x=>p_35) (fun x=>v_35)
theorem pv_35{y:(Int×(Int×(Int×((Int×(Int×((List Int)×((Int×((List (List Int))×((List (List Int))×Unit)))×Unit))))×Unit))))×Unit}(h:F_35=some y):p_35=true/\v_35=y:=pvG h
theorem run_35(x:HDen A_35)(y:HDen R_35)(h:F_35=some y):rnF sm_35 1 35 A_35 R_35 x y:=runG noO_ok (os:=[]) trivial (Eq.trans (by kernel_rfl) h)
end
noncomputable section
abbrev A_36:List Ty:=[]
abbrev R_36:List Ty:=[(.pair (.int .i64) (.pair (.int .u32) .unit))]
noncomputable def sm_36:Nat->Option Summ:=smL []
noncomputable def F_36:Option ((Int×(Int×Unit))×Unit) :=
 some ((1099511627776,0,PUnit.unit),PUnit.unit)
noncomputable def Sp.p_36:Bool:=(F_36).isSome
noncomputable def Sp.v_36:(Int×(Int×Unit))×Unit:=(F_36).getD (dfH R_36)
noncomputable def s_36:Summ:=shN A_36 R_36 (fun x=>p_36) (fun x=>v_36)
theorem pv_36{y:(Int×(Int×Unit))×Unit}(h:F_36=some y):p_36=true/\v_36=y:=pvG h
theorem run_36(x:HDen A_36)(y:HDen R_36)(h:F_36=some y):rnF sm_36 1 36 A_36 R_36 x y:=runG noO_ok (os:=[]) trivial (Eq.trans (by kernel_rfl) h)
end
noncomputable section
abbrev Zy118_0:Ty:=(.pair (.int .i64) (.pair (.slice (.arr 32 (.int .u8))) (.pair (.slice (.arr 32 (.int .u8))) .unit)))
abbrev Zt118_1:Type:=Int×List (List Int)×List (List Int)×Unit
abbrev A_118:List Ty:=[(.pair (.int .i64) (.pair (.slice (.arr 32 (.int .u8))) (.pair (.slice (.arr 32 (.int .u8))) .unit))),(.pair (.int .i64) (.pair (.slice (.arr 32 (.int .u8))) (.pair (.slice (.arr 32 (.int .u8))) .unit)))]
abbrev R_118:List Ty:=[.bool]
noncomputable def sm_118:Nat->Option Summ:=smL []
noncomputable def T_118_0:PS:=⟨66,[(2,.kc (.ptr 0 [])),(3,.kc (.ptr 1 [])),(5,.hv (.int .i64))],[.mem (.hv Zy118_0),.mem (.hv Zy118_0)],0⟩
inductive Sp.E_118_0 where
 |e0
 |e1 (p1 p2:Zt118_1)
noncomputable def Sp.B_118_0{R:Type}(r:Option E_118_0)(k0:Option R)(k1:Zt118_1->Zt118_1->Option R):Option R:=match r with
 |none=>none
 |some (.e0)=>k0
 |some (.e1 p1 p2)=>k1 p1 p2
noncomputable def Y_118_0{R:Type}(k:Ex->St->Option R):E_118_0->Option R
 | .e0=>k Ex.ret (sx 66 [(4,CV.bool false)] [])
 | .e1 p1 p2=>k (Ex.exit 0) (sx 66 [(2,CV.ptr 0 []),(3,CV.ptr 1 [])] [Blk.mem (CV.pure (Ty.pair (Ty.int i64) (Ty.pair (Ty.slice (Ty.arr 32 (Ty.int u8))) (Ty.pair (Ty.slice (Ty.arr 32 (Ty.int u8))) Ty.unit))) p1),Blk.mem (CV.pure (Ty.pair (Ty.int i64) (Ty.pair (Ty.slice (Ty.arr 32 (Ty.int u8))) (Ty.pair (Ty.slice (Ty.arr 32 (Ty.int u8))) Ty.unit))) p2)])
noncomputable def Sp.S_118_0{R:Type}(K:Int->(Int×List (List Int)×List (List Int)×Unit)->(Int×List (List Int)×List (List Int)×Unit)->Option R)(k:E_118_0->Option R)(p0:Int)(p1 p2:Int×List (List Int)×List (List Int)×Unit):Option R:=
 bif decide (p0<(↑(length (p1.2.1)):Int))then gd (inB p0 (length (p1.2.1))) (gd (inB p0 (length (p2.2.1))) (bif !Ty.beq (Ty.arr 32 (Ty.int u8)) (getD (p1.2.1) (toNat p0) (Ty.dflt (Ty.arr 32 (Ty.int u8)))) (getD (p2.2.1) (toNat p0) (Ty.dflt (Ty.arr 32 (Ty.int u8))))then k (E_118_0.e0)else K (wrap i64 (p0+1)) p1 p2))else k (E_118_0.e1 p1 p2)
noncomputable def Sp.L_118_0:Nat->Int->(Int×List (List Int)×List (List Int)×Unit)->(Int×List (List Int)×List (List Int)×Unit)->Option E_118_0
 |0,_,_,_=>none
 |m+1,p0,p1,p2=>S_118_0 (L_118_0 m) some p0 p1 p2
noncomputable def l_118_0(m:Nat)(a:T_118_0.E):Option E_118_0:=L_118_0 m a.1 a.2.1 a.2.2.1
noncomputable def O_118_0{R:Type}:Orc R:=orL T_118_0 (l_118_0 FU) Y_118_0
theorem OK_118_0{R:Type}:okF (R:=R) sm_118 0 (nf 118 0) O_118_0:=lp0 T_118_0 l_118_0 (fun R K k a=>S_118_0 (fun p0 p1 p2=>K (p0,p1,p2,())) k a.1 a.2.1 a.2.2.1) Y_118_0 (fun _ _ _=>by kernel_rfl) (fun _ _ _=>by
 unfold S_118_0
 repeat' first|apply gdN|apply condN|rfl) (ok0 _)
noncomputable def T_118_1:PS:=⟨66,[(2,.kc (.ptr 0 [])),(3,.kc (.ptr 1 [])),(6,.hv (.int .i64))],[.mem (.hv Zy118_0),.mem (.hv Zy118_0)],0⟩
inductive Sp.E_118_1 where
 |e0
 |e1
noncomputable def Sp.B_118_1{R:Type}(r:Option E_118_1)(k0 k1:Option R):Option R:=match r with
 |none=>none
 |some (.e0)=>k0
 |some (.e1)=>k1
noncomputable def Y_118_1{R:Type}(k:Ex->St->Option R):E_118_1->Option R
 | .e0=>k Ex.ret (sx 66 [(4,CV.bool false)] [])
 | .e1=>k (Ex.exit 2) (sx 66 [] [])
noncomputable def Sp.S_118_1{R:Type}(K:Int->(Int×List (List Int)×List (List Int)×Unit)->(Int×List (List Int)×List (List Int)×Unit)->Option R)(k:E_118_1->Option R)(p0:Int)(p1 p2:Int×List (List Int)×List (List Int)×Unit):Option R:=
 bif decide (p0<(↑(length (p1.2.2.1)):Int))then gd (inB p0 (length (p1.2.2.1))) (gd (inB p0 (length (p2.2.2.1))) (bif !Ty.beq (Ty.arr 32 (Ty.int u8)) (getD (p1.2.2.1) (toNat p0) (Ty.dflt (Ty.arr 32 (Ty.int u8)))) (getD (p2.2.2.1) (toNat p0) (Ty.dflt (Ty.arr 32 (Ty.int u8))))then k (E_118_1.e0)else K (wrap i64 (p0+1)) p1 p2))else k (E_118_1.e1)
noncomputable def Sp.L_118_1:Nat->Int->(Int×List (List Int)×List (List Int)×Unit)->(Int×List (List Int)×List (List Int)×Unit)->Option E_118_1
 |0,_,_,_=>none
 |m+1,p0,p1,p2=>S_118_1 (L_118_1 m) some p0 p1 p2
noncomputable def l_118_1(m:Nat)(a:T_118_1.E):Option E_118_1:=L_118_1 m a.1 a.2.1 a.2.2.1
noncomputable def O_118_1{R:Type}:Orc R:=orL T_118_1 (l_118_1 FU) Y_118_1
theorem OK_118_1{R:Type}:okF (R:=R) sm_118 0 (nf 118 1) O_118_1:=lp0 T_118_1 l_118_1 (fun R K k a=>S_118_1 (fun p0 p1 p2=>K (p0,p1,p2,())) k a.1 a.2.1 a.2.2.1) Y_118_1 (fun _ _ _=>by kernel_rfl) (fun _ _ _=>by
 unfold S_118_1
 repeat' first|apply gdN|apply condN|rfl) (ok0 _)
noncomputable def F_118(a0:(Int×((List (List Int))×((List (List Int))×Unit))))(a1:(Int×((List (List Int))×((List (List Int))×Unit)))):Option (Bool×Unit) :=
 bif a0.1 !=a1.1 then some (false,PUnit.unit)else bif(↑(length (a0.2.1)):Int)!=(↑(length (a1.2.1)):Int)then some (false,PUnit.unit)else bif(↑(length (a0.2.2.1)):Int)!=(↑(length (a1.2.2.1)):Int)then some (false,PUnit.unit)else B_118_0 (L_118_0 4611686018427387904 0 a0 a1) (some (false,PUnit.unit)) fun y2 y3=>B_118_1 (L_118_1 4611686018427387904 0 y2 y3) (some (false,PUnit.unit)) (some (true,PUnit.unit))
noncomputable def Sp.p_118(a0:(Int×((List (List Int))×((List (List Int))×Unit))))(a1:(Int×((List (List Int))×((List (List Int))×Unit)))):Bool:=(F_118 a0 a1).isSome
noncomputable def Sp.v_118(a0:(Int×((List (List Int))×((List (List Int))×Unit))))(a1:(Int×((List (List Int))×((List (List Int))×Unit)))):Bool×Unit:=(F_118 a0 a1).getD (dfH R_118)
noncomputable def s_118:Summ:=shN A_118 R_118 (fun x=>p_118 x.1 x.2.1) (fun x=>v_118 x.1 x.2.1)
theorem run_118(x:HDen A_118)(y:HDen R_118)(h:F_118 x.1 x.2.1=some y):rnF sm_118 1 118 A_118 R_118 x y:=runG noO_ok (os:=[O_118_0,O_118_1]) ⟨OK_118_0,OK_118_1,trivial⟩ (Eq.trans (by kernel_rfl) h)
end
noncomputable section
abbrev A_80:List Ty:=[(.pair (.int .i64) (.pair (.int .i64) (.pair (.arr 32 (.int .u8)) (.pair (.pair (.int .i64) (.pair (.slice (.arr 32 (.int .u8))) (.pair (.slice (.arr 32 (.int .u8))) .unit))) .unit)))),(.pair (.int .i64) (.pair (.int .i64) (.pair (.arr 32 (.int .u8)) (.pair (.pair (.int .i64) (.pair (.slice (.arr 32 (.int .u8))) (.pair (.slice (.arr 32 (.int .u8))) .unit))) .unit))))]
abbrev R_80:List Ty:=[.bool]
noncomputable def sm_80:Nat->Option Summ:=smL [(118,s_118)]
noncomputable def F_80(a0:(Int×(Int×((List Int)×((Int×((List (List Int))×((List (List Int))×Unit)))×Unit)))))(a1:(Int×(Int×((List Int)×((Int×((List (List Int))×((List (List Int))×Unit)))×Unit))))):Option (Bool×Unit) :=
 bif a0.1==a1.1 then bif a0.2.1==a1.2.1 then bif Ty.beq (Ty.arr 32 (Ty.int u8)) (a0.2.2.1) (a1.2.2.1)then gd (p_118 (a0.2.2.2.1) (a1.2.2.2.1)) (some ((v_118 (a0.2.2.2.1) (a1.2.2.2.1)).1,PUnit.unit))else some (false,PUnit.unit)else some (false,PUnit.unit)else some (false,PUnit.unit)
noncomputable def Sp.p_80(a0:(Int×(Int×((List Int)×((Int×((List (List Int))×((List (List Int))×Unit)))×Unit)))))(a1:(Int×(Int×((List Int)×((Int×((List (List Int))×((List (List Int))×Unit)))×Unit))))):Bool:=(F_80 a0 a1).isSome
noncomputable def Sp.v_80(a0:(Int×(Int×((List Int)×((Int×((List (List Int))×((List (List Int))×Unit)))×Unit)))))(a1:(Int×(Int×((List Int)×((Int×((List (List Int))×((List (List Int))×Unit)))×Unit))))):Bool×Unit:=(F_80 a0 a1).getD (dfH R_80)
noncomputable def s_80:Summ:=shN A_80 R_80 (fun x=>p_80 x.1 x.2.1) (fun x=>v_80 x.1 x.2.1)
theorem run_80(x:HDen A_80)(y:HDen R_80)(h:F_80 x.1 x.2.1=some y):rnF sm_80 1 80 A_80 R_80 x y:=runG noO_ok (os:=[]) trivial (Eq.trans (by kernel_rfl) h)
end
noncomputable section
abbrev A_38:List Ty:=[(.pair (.int .i64) (.pair (.int .i64) (.pair (.int .i64) (.pair (.pair (.int .i64) (.pair (.int .i64) (.pair (.arr 32 (.int .u8)) (.pair (.pair (.int .i64) (.pair (.slice (.arr 32 (.int .u8))) (.pair (.slice (.arr 32 (.int .u8))) .unit))) .unit)))) .unit))))]
abbrev R_38:List Ty:=[.bool]
noncomputable def sm_38:Nat->Option Summ:=smL [(80,s_80)]
noncomputable def F_38(a0:(Int×(Int×(Int×((Int×(Int×((List Int)×((Int×((List (List Int))×((List (List Int))×Unit)))×Unit))))×Unit))))):Option (Bool×Unit) :=
 bif a0.1==0 then bif a0.2.1==0 then bif a0.2.2.1==0 then gd (p_80 (a0.2.2.2.1) (0,0,replicate 32 (0:Int),(0,[],[],PUnit.unit),PUnit.unit)) (some ((v_80 (a0.2.2.2.1) (0,0,replicate 32 (0:Int),(0,[],[],PUnit.unit),PUnit.unit)).1,PUnit.unit))else some (false,PUnit.unit)else some (false,PUnit.unit)else some (false,PUnit.unit)
noncomputable def Sp.p_38(a0:(Int×(Int×(Int×((Int×(Int×((List Int)×((Int×((List (List Int))×((List (List Int))×Unit)))×Unit))))×Unit))))):Bool:=(F_38 a0).isSome
noncomputable def Sp.v_38(a0:(Int×(Int×(Int×((Int×(Int×((List Int)×((Int×((List (List Int))×((List (List Int))×Unit)))×Unit))))×Unit))))):Bool×Unit:=(F_38 a0).getD (dfH R_38)
noncomputable def s_38:Summ:=shN A_38 R_38 (fun x=>p_38 x.1) (fun x=>v_38 x.1)
theorem run_38(x:HDen A_38)(y:HDen R_38)(h:F_38 x.1=some y):rnF sm_38 1 38 A_38 R_38 x y:=runG noO_ok (os:=[]) trivial (Eq.trans (by kernel_rfl) h)
end
noncomputable section
abbrev A_7:List Ty:=[]
abbrev R_7:List Ty:=[.bool]
noncomputable def sm_7:Nat->Option Summ:=smL [(10,s_10),(28,s_28),(34,s_34),(35,s_35),(36,s_36),(37,s_37),(38,s_38)]
noncomputable def F_7:Option (Bool×Unit) :=
 gd (p_34 18 10 (replicate 32 (0:Int))) (gd p_35 (gd p_36 (gd (p_10 (v_35.1) ((v_34 18 10 (replicate 32 (0:Int))).1) (1,1,replicate 32 (0:Int),(0,[],[],PUnit.unit),PUnit.unit) (v_36.1)) (bif(v_34 18 10 (replicate 32 (0:Int))).2.1==0 then gd p_35 (gd (p_37 (v_35.1)) (bif(v_37 (v_35.1)).1 then bif(v_10 (v_35.1) ((v_34 18 10 (replicate 32 (0:Int))).1) (1,1,replicate 32 (0:Int),(0,[],[],PUnit.unit),PUnit.unit) (v_36.1)).2.2.2.1==1 then gd (p_38 ((v_10 (v_35.1) ((v_34 18 10 (replicate 32 (0:Int))).1) (1,1,replicate 32 (0:Int),(0,[],[],PUnit.unit),PUnit.unit) (v_36.1)).1)) (bif(v_38 ((v_10 (v_35.1) ((v_34 18 10 (replicate 32 (0:Int))).1) (1,1,replicate 32 (0:Int),(0,[],[],PUnit.unit),PUnit.unit) (v_36.1)).1)).1 then gd (p_28 ((v_10 (v_35.1) ((v_34 18 10 (replicate 32 (0:Int))).1) (1,1,replicate 32 (0:Int),(0,[],[],PUnit.unit),PUnit.unit) (v_36.1)).2.1) (([],[],0,PUnit.unit),replicate 32 (0:Int),PUnit.unit)) (bif(v_28 ((v_10 (v_35.1) ((v_34 18 10 (replicate 32 (0:Int))).1) (1,1,replicate 32 (0:Int),(0,[],[],PUnit.unit),PUnit.unit) (v_36.1)).2.1) (([],[],0,PUnit.unit),replicate 32 (0:Int),PUnit.unit)).1 then some (Ty.beq (Ty.pair (Ty.int i64) (Ty.pair (Ty.int u32) Ty.unit)) ((v_10 (v_35.1) ((v_34 18 10 (replicate 32 (0:Int))).1) (1,1,replicate 32 (0:Int),(0,[],[],PUnit.unit),PUnit.unit) (v_36.1)).2.2.1) (0,0,PUnit.unit),PUnit.unit)else some (false,PUnit.unit))else some (false,PUnit.unit))else some (false,PUnit.unit)else some (false,PUnit.unit)))else some (false,PUnit.unit)))))
noncomputable def Sp.p_7:Bool:=(F_7).isSome
noncomputable def Sp.v_7:Bool×Unit:=(F_7).getD (dfH R_7)
noncomputable def s_7:Summ:=shN A_7 R_7 (fun x=>p_7) (fun x=>v_7)
theorem pv_7{y:Bool×Unit}(h:F_7=some y):p_7=true/\v_7=y:=pvG h
theorem run_7(x:HDen A_7)(y:HDen R_7)(h:F_7=some y):rnF sm_7 1 7 A_7 R_7 x y:=runG noO_ok (os:=[]) trivial (Eq.trans (by kernel_rfl) h)
end
noncomputable section
abbrev A_8:List Ty:=[(.pair (.pair (.slice (.int .u32)) (.pair (.slice (.int .i64)) (.pair (.int .i64) .unit))) (.pair (.arr 32 (.int .u8)) .unit))]
abbrev R_8:List Ty:=[.bool]
noncomputable def sm_8:Nat->Option Summ:=smL []
noncomputable def F_8(a0:(((List Int)×((List Int)×(Int×Unit)))×((List Int)×Unit))):Option (Bool×Unit) :=
 bif decide ((↑(length (a0.1.2.1)):Int)>20)then some (decide ((↑(length (a0.1.2.1)):Int)<=64),PUnit.unit)else some (false,PUnit.unit)
noncomputable def Sp.p_8(a0:(((List Int)×((List Int)×(Int×Unit)))×((List Int)×Unit))):Bool:=(F_8 a0).isSome
noncomputable def Sp.v_8(a0:(((List Int)×((List Int)×(Int×Unit)))×((List Int)×Unit))):Bool×Unit:=(F_8 a0).getD (dfH R_8)
noncomputable def s_8:Summ:=shN A_8 R_8 (fun x=>p_8 x.1) (fun x=>v_8 x.1)
theorem pv_8(a0:(((List Int)×((List Int)×(Int×Unit)))×((List Int)×Unit))){y:Bool×Unit}(h:F_8 a0=some y):p_8 a0=true/\v_8 a0=y:=pvG h
theorem run_8(x:HDen A_8)(y:HDen R_8)(h:F_8 x.1=some y):rnF sm_8 1 8 A_8 R_8 x y:=runG noO_ok (os:=[]) trivial (Eq.trans (by kernel_rfl) h)
end
noncomputable section
abbrev A_9:List Ty:=[(.pair (.int .i64) (.pair (.int .i64) (.pair (.arr 32 (.int .u8)) (.pair (.pair (.int .i64) (.pair (.slice (.arr 32 (.int .u8))) (.pair (.slice (.arr 32 (.int .u8))) .unit))) .unit))))]
abbrev R_9:List Ty:=[.bool]
noncomputable def sm_9:Nat->Option Summ:=smL []
noncomputable def F_9(a0:(Int×(Int×((List Int)×((Int×((List (List Int))×((List (List Int))×Unit)))×Unit))))):Option (Bool×Unit) :=
 bif decide ((↑(length (a0.2.2.2.1.2.1)):Int)>100)then some (true,PUnit.unit)else some (decide ((↑(length (a0.2.2.2.1.2.2.1)):Int)>100),PUnit.unit)
noncomputable def Sp.p_9(a0:(Int×(Int×((List Int)×((Int×((List (List Int))×((List (List Int))×Unit)))×Unit))))):Bool:=(F_9 a0).isSome
noncomputable def Sp.v_9(a0:(Int×(Int×((List Int)×((Int×((List (List Int))×((List (List Int))×Unit)))×Unit))))):Bool×Unit:=(F_9 a0).getD (dfH R_9)
noncomputable def s_9:Summ:=shN A_9 R_9 (fun x=>p_9 x.1) (fun x=>v_9 x.1)
theorem pv_9(a0:(Int×(Int×((List Int)×((Int×((List (List Int))×((List (List Int))×Unit)))×Unit))))){y:Bool×Unit}(h:F_9 a0=some y):p_9 a0=true/\v_9 a0=y:=pvG h
theorem run_9(x:HDen A_9)(y:HDen R_9)(h:F_9 x.1=some y):rnF sm_9 1 9 A_9 R_9 x y:=runG noO_ok (os:=[]) trivial (Eq.trans (by kernel_rfl) h)
end
noncomputable section
abbrev A_96:List Ty:=[(.int .i64)]
abbrev R_96:List Ty:=[.bool]
noncomputable def sm_96:Nat->Option Summ:=smL []
noncomputable def F_96(a0:Int):Option (Bool×Unit) :=
 bif decide (a0>=1)then some (decide (a0<=1000000),PUnit.unit)else some (false,PUnit.unit)
noncomputable def Sp.p_96(a0:Int):Bool:=(F_96 a0).isSome
noncomputable def Sp.v_96(a0:Int):Bool×Unit:=(F_96 a0).getD (dfH R_96)
noncomputable def s_96:Summ:=shN A_96 R_96 (fun x=>p_96 x.1) (fun x=>v_96 x.1)
theorem pv_96(a0:Int){y:Bool×Unit}(h:F_96 a0=some y):p_96 a0=true/\v_96 a0=y:=pvG h
theorem run_96(x:HDen A_96)(y:HDen R_96)(h:F_96 x.1=some y):rnF sm_96 1 96 A_96 R_96 x y:=runG noO_ok (os:=[]) trivial (Eq.trans (by kernel_rfl) h)
end
noncomputable section
abbrev A_54:List Ty:=[(.pair (.slice (.int .u32)) (.pair (.slice (.int .i64)) (.pair (.int .i64) .unit)))]
abbrev R_54:List Ty:=[.bool]
noncomputable def sm_54:Nat->Option Summ:=smL [(96,s_96)]
noncomputable def T_54_0:PS:=⟨49,[(1,.kc (.ptr 0 [])),(3,.hv (.int .i64)),(4,.hv (.int .i64))],[.mem (.hv (.pair (.slice (.int .u32)) (.pair (.slice (.int .i64)) (.pair (.int .i64) .unit))))],0⟩
inductive Sp.E_54_0 where
 |e0
 |e1
noncomputable def Sp.B_54_0{R:Type}(r:Option E_54_0)(k0 k1:Option R):Option R:=match r with
 |none=>none
 |some (.e0)=>k0
 |some (.e1)=>k1
noncomputable def Y_54_0{R:Type}(k:Ex->St->Option R):E_54_0->Option R
 | .e0=>k Ex.ret (sx 49 [(2,CV.bool false)] [])
 | .e1=>k (Ex.exit 0) (sx 49 [] [])
noncomputable def Sp.S_54_0{R:Type}(K:Int->Int->(List Int×List Int×Int×Unit)->Option R)(k:E_54_0->Option R)(p0 p1:Int)(p2:List Int×List Int×Int×Unit):Option R:=
 bif decide (p1<p0)then gd (inB p1 (length (p2.2.1))) (bif decide (getD (p2.2.1) (toNat p1) (0:Int)<(0:Int))then k (E_54_0.e0)else gd (inB p1 (length (p2.2.1))) (bif decide (getD (p2.2.1) (toNat p1) 0>p2.2.2.1)then k (E_54_0.e0)else K p0 (wrap i64 (p1+1)) p2))else k (E_54_0.e1)
noncomputable def Sp.L_54_0:Nat->Int->Int->(List Int×List Int×Int×Unit)->Option E_54_0
 |0,_,_,_=>none
 |m+1,p0,p1,p2=>S_54_0 (L_54_0 m) some p0 p1 p2
noncomputable def l_54_0(m:Nat)(a:T_54_0.E):Option E_54_0:=L_54_0 m a.1 a.2.1 a.2.2.1
noncomputable def O_54_0{R:Type}:Orc R:=orL T_54_0 (l_54_0 FU) Y_54_0
theorem OK_54_0{R:Type}:okF (R:=R) sm_54 0 (nf 54 0) O_54_0:=lp0 T_54_0 l_54_0 (fun R K k a=>S_54_0 (fun p0 p1 p2=>K (p0,p1,p2,())) k a.1 a.2.1 a.2.2.1) Y_54_0 (fun _ _ _=>by kernel_rfl) (fun _ _ _=>by
 unfold S_54_0
 repeat' first|apply gdN|apply condN|rfl) (ok0 _)
noncomputable def F_54(a0:((List Int)×((List Int)×(Int×Unit)))):Option (Bool×Unit) :=
 bif decide ((↑(length (a0.2.1)):Int)<1)then some (false,PUnit.unit)else bif decide ((↑(length (a0.2.1)):Int)>64)then some (false,PUnit.unit)else bif(↑(length (a0.1)):Int)!=wrap i64 ((↑(length (a0.2.1)):Int)*64)then some (false,PUnit.unit)else gd (p_96 (a0.2.2.1)) (bif !(v_96 (a0.2.2.1)).1 then some (false,PUnit.unit)else B_54_0 (L_54_0 4611686018427387904 (↑(length (a0.2.1)):Int) 0 a0) (some (false,PUnit.unit)) (some (true,PUnit.unit)))
noncomputable def Sp.p_54(a0:((List Int)×((List Int)×(Int×Unit)))):Bool:=(F_54 a0).isSome
noncomputable def Sp.v_54(a0:((List Int)×((List Int)×(Int×Unit)))):Bool×Unit:=(F_54 a0).getD (dfH R_54)
noncomputable def s_54:Summ:=shN A_54 R_54 (fun x=>p_54 x.1) (fun x=>v_54 x.1)
theorem pv_54(a0:((List Int)×((List Int)×(Int×Unit)))){y:Bool×Unit}(h:F_54 a0=some y):p_54 a0=true/\v_54 a0=y:=pvG h
theorem run_54(x:HDen A_54)(y:HDen R_54)(h:F_54 x.1=some y):rnF sm_54 1 54 A_54 R_54 x y:=runG noO_ok (os:=[O_54_0]) ⟨OK_54_0,trivial⟩ (Eq.trans (by kernel_rfl) h)
end
noncomputable section
abbrev A_55:List Ty:=[(.int .i64)]
abbrev R_55:List Ty:=[.bool]
noncomputable def sm_55:Nat->Option Summ:=smL []
noncomputable def F_55(a0:Int):Option (Bool×Unit) :=
 bif decide (a0>=18)then bif decide (a0<=64)then some (Int.tmod a0 (2:Int)==(0:Int),PUnit.unit)else some (false,PUnit.unit)else some (false,PUnit.unit)
noncomputable def Sp.p_55(a0:Int):Bool:=(F_55 a0).isSome
noncomputable def Sp.v_55(a0:Int):Bool×Unit:=(F_55 a0).getD (dfH R_55)
noncomputable def s_55:Summ:=shN A_55 R_55 (fun x=>p_55 x.1) (fun x=>v_55 x.1)
theorem pv_55(a0:Int){y:Bool×Unit}(h:F_55 a0=some y):p_55 a0=true/\v_55 a0=y:=pvG h
theorem run_55(x:HDen A_55)(y:HDen R_55)(h:F_55 x.1=some y):rnF sm_55 1 55 A_55 R_55 x y:=runG noO_ok (os:=[]) trivial (Eq.trans (by kernel_rfl) h)
end
noncomputable section
abbrev A_12:List Ty:=[(.pair (.pair (.slice (.int .u32)) (.pair (.slice (.int .i64)) (.pair (.int .i64) .unit))) (.pair (.arr 32 (.int .u8)) .unit))]
abbrev R_12:List Ty:=[.bool]
noncomputable def sm_12:Nat->Option Summ:=smL [(54,s_54),(55,s_55)]
noncomputable def F_12(a0:(((List Int)×((List Int)×(Int×Unit)))×((List Int)×Unit))):Option (Bool×Unit) :=
 gd (p_54 (a0.1)) (bif(v_54 (a0.1)).1 then gd (p_55 (↑(length (a0.1.2.1)):Int)) (some ((v_55 (↑(length (a0.1.2.1)):Int)).1,PUnit.unit))else some (false,PUnit.unit))
noncomputable def Sp.p_12(a0:(((List Int)×((List Int)×(Int×Unit)))×((List Int)×Unit))):Bool:=(F_12 a0).isSome
noncomputable def Sp.v_12(a0:(((List Int)×((List Int)×(Int×Unit)))×((List Int)×Unit))):Bool×Unit:=(F_12 a0).getD (dfH R_12)
noncomputable def s_12:Summ:=shN A_12 R_12 (fun x=>p_12 x.1) (fun x=>v_12 x.1)
theorem pv_12(a0:(((List Int)×((List Int)×(Int×Unit)))×((List Int)×Unit))){y:Bool×Unit}(h:F_12 a0=some y):p_12 a0=true/\v_12 a0=y:=pvG h
theorem run_12(x:HDen A_12)(y:HDen R_12)(h:F_12 x.1=some y):rnF sm_12 1 12 A_12 R_12 x y:=runG noO_ok (os:=[]) trivial (Eq.trans (by kernel_rfl) h)
end
noncomputable section
abbrev A_30:List Ty:=[(.pair (.pair (.slice (.int .u32)) (.pair (.slice (.int .i64)) (.pair (.int .i64) .unit))) (.pair (.arr 32 (.int .u8)) .unit)),(.int .i64)]
abbrev R_30:List Ty:=[(.slice (.int .u32))]
noncomputable def sm_30:Nat->Option Summ:=smL []
noncomputable def F_30(a0:(((List Int)×((List Int)×(Int×Unit)))×((List Int)×Unit)))(a1:Int):Option ((List Int)×Unit) :=
 gd (sl3 (wrap i64 (a1*wrap i64 (Int.tdiv (↑(length (a0.1.1)):Int) 2))) (wrap i64 (wrap i64 (a1+1)*wrap i64 (Int.tdiv (↑(length (a0.1.1)):Int) 2))) (↑(length (a0.1.1)):Int)) (some (take (toNat (wrap i64 (wrap i64 (a1+1)*wrap i64 (Int.tdiv (↑(length (a0.1.1)):Int) 2)))-toNat (wrap i64 (a1*wrap i64 (Int.tdiv (↑(length (a0.1.1)):Int) 2)))) (drop (toNat (wrap i64 (a1*wrap i64 (Int.tdiv (↑(length (a0.1.1)):Int) 2)))) (a0.1.1)),PUnit.unit))
noncomputable def Sp.p_30(a0:(((List Int)×((List Int)×(Int×Unit)))×((List Int)×Unit)))(a1:Int):Bool:=(F_30 a0 a1).isSome
noncomputable def Sp.v_30(a0:(((List Int)×((List Int)×(Int×Unit)))×((List Int)×Unit)))(a1:Int):(List Int)×Unit:=(F_30 a0 a1).getD (dfH R_30)
noncomputable def s_30:Summ:=shS A_30 R_30 (fun x=>p_30 x.1 x.2.1) (fun x=>v_30 x.1 x.2.1)
theorem pv_30(a0:(((List Int)×((List Int)×(Int×Unit)))×((List Int)×Unit)))(a1:Int){y:(List Int)×Unit}(h:F_30 a0 a1=some y):p_30 a0 a1=true/\v_30 a0 a1=y:=pvG h
theorem run_30(x:HDen A_30)(y:HDen R_30)(h:F_30 x.1 x.2.1=some y):rnF sm_30 1 30 A_30 R_30 x y:=runG noO_ok (os:=[]) trivial (Eq.trans (by kernel_rfl) h)
end
noncomputable section
abbrev A_95:List Ty:=[(.pair (.int .i64) (.pair (.slice (.arr 32 (.int .u8))) (.pair (.slice (.arr 32 (.int .u8))) .unit)))]
abbrev R_95:List Ty:=[.bool]
noncomputable def sm_95:Nat->Option Summ:=smL []
noncomputable def F_95(a0:(Int×((List (List Int))×((List (List Int))×Unit)))):Option (Bool×Unit) :=
 bif decide (a0.1>=0)then bif decide (a0.1<=3)then bif(↑(length (a0.2.1)):Int)==67 then some ((↑(length (a0.2.2.1)):Int)==2,PUnit.unit)else some (false,PUnit.unit)else some (false,PUnit.unit)else some (false,PUnit.unit)
noncomputable def Sp.p_95(a0:(Int×((List (List Int))×((List (List Int))×Unit)))):Bool:=(F_95 a0).isSome
noncomputable def Sp.v_95(a0:(Int×((List (List Int))×((List (List Int))×Unit)))):Bool×Unit:=(F_95 a0).getD (dfH R_95)
noncomputable def s_95:Summ:=shN A_95 R_95 (fun x=>p_95 x.1) (fun x=>v_95 x.1)
theorem pv_95(a0:(Int×((List (List Int))×((List (List Int))×Unit)))){y:Bool×Unit}(h:F_95 a0=some y):p_95 a0=true/\v_95 a0=y:=pvG h
theorem run_95(x:HDen A_95)(y:HDen R_95)(h:F_95 x.1=some y):rnF sm_95 1 95 A_95 R_95 x y:=runG noO_ok (os:=[]) trivial (Eq.trans (by kernel_rfl) h)
end
noncomputable section
abbrev A_97:List Ty:=[(.arr 32 (.int .u8))]
abbrev R_97:List Ty:=[(.slice (.int .i64))]
noncomputable def sm_97:Nat->Option Summ:=smL []
noncomputable def T_97_0:PS:=⟨44,[(1,.kc (.ptr 0 [])),(3,.kc (.whole 1)),(4,.hv (.int .i64)),(5,.hv (.int .i64))],[.mem (.hv (.arr 32 (.int .u8))),.vec 3 (.int .i64)],0⟩
inductive Sp.E_97_0 where
 |e0 (p0:Int) (p3:List Int)
noncomputable def Sp.B_97_0{R:Type}(r:Option E_97_0)(k0:Int->List Int->Option R):Option R:=match r with
 |none=>none
 |some (.e0 p0 p3)=>k0 p0 p3
noncomputable def Y_97_0{R:Type}(k:Ex->St->Option R):E_97_0->Option R
 | .e0 p0 p3=>k (Ex.exit 0) (sx 44 [(3,CV.whole 0),(4,CV.int i64 p0)] [Blk.vec 3 (Ty.int i64) p3])
noncomputable def Sp.S_97_0{R:Type}(K:Int->Int->List Int->List Int->Option R)(k:E_97_0->Option R)(p0 p1:Int)(p2 p3:List Int):Option R:=
 bif decide (p1<64)then gd (inB (wrap i64 (Int.tdiv p1 2)) 32) (gd (decide (toNat (wrap i64 (Int.tdiv p1 2))<32)&&true) (bif Int.tmod p1 (2:Int)==(1:Int)then gd (inB (wrap i64 (Int.tdiv p1 2)) 32) (gd (decide (toNat (wrap i64 (Int.tdiv p1 2))<32)&&true) (gd (room (length p3+1) 8) (K (wrap i64 (wrap i64 (p0+15)-wrap i64 (Sp.andI u8 (getD p2 (toNat (wrap i64 (Int.tdiv p1 2))) 0) 15))) (wrap i64 (p1+1)) p2 (p3++[wrap i64 (Sp.andI u8 (getD p2 (toNat (wrap i64 (Int.tdiv p1 2))) 0) 15)]))))else gd (room (length p3+1) 8) (K (wrap i64 (wrap i64 (p0+15)-wrap i64 (Int.fdiv (getD p2 (toNat (wrap i64 (Int.tdiv p1 2))) 0) 16))) (wrap i64 (p1+1)) p2 (p3++[wrap i64 (Int.fdiv (getD p2 (toNat (wrap i64 (Int.tdiv p1 2))) 0) 16)]))))else k (E_97_0.e0 p0 p3)
noncomputable def Sp.L_97_0:Nat->Int->Int->List Int->List Int->Option E_97_0
 |0,_,_,_,_=>none
 |m+1,p0,p1,p2,p3=>S_97_0 (L_97_0 m) some p0 p1 p2 p3
noncomputable def l_97_0(m:Nat)(a:T_97_0.E):Option E_97_0:=L_97_0 m a.1 a.2.1 a.2.2.1 a.2.2.2.1
noncomputable def O_97_0{R:Type}:Orc R:=orL T_97_0 (l_97_0 FU) Y_97_0
theorem OK_97_0{R:Type}:okF (R:=R) sm_97 0 (nf 97 0) O_97_0:=lp0 T_97_0 l_97_0 (fun R K k a=>S_97_0 (fun p0 p1 p2 p3=>K (p0,p1,p2,p3,())) k a.1 a.2.1 a.2.2.1 a.2.2.2.1) Y_97_0 (fun _ _ _=>by kernel_rfl) (fun _ _ _=>by
 unfold S_97_0
 repeat' first|apply gdN|apply condN|rfl) (ok0 _)
noncomputable def F_97(a0:(List Int)):Option ((List Int)×Unit) :=
 B_97_0 (L_97_0 4611686018427387904 0 0 a0 []) fun y2 y3=>gd (room (length y3+3) 8) (some (y3++[wrap i64 (Int.tdiv y2 256),Int.tmod (wrap i64 (Int.tdiv y2 16)) 16,Int.tmod y2 16],PUnit.unit))
noncomputable def Sp.p_97(a0:(List Int)):Bool:=(F_97 a0).isSome
noncomputable def Sp.v_97(a0:(List Int)):(List Int)×Unit:=(F_97 a0).getD (dfH R_97)
noncomputable def s_97:Summ:=shS A_97 R_97 (fun x=>p_97 x.1) (fun x=>v_97 x.1)
theorem pv_97(a0:(List Int)){y:(List Int)×Unit}(h:F_97 a0=some y):p_97 a0=true/\v_97 a0=y:=pvG h
theorem run_97(x:HDen A_97)(y:HDen R_97)(h:F_97 x.1=some y):rnF sm_97 1 97 A_97 R_97 x y:=runG noO_ok (os:=[O_97_0]) ⟨OK_97_0,trivial⟩ (Eq.trans (by kernel_rfl) h)
end
noncomputable section
abbrev A_131:List Ty:=[(.slice (.int .u8))]
abbrev R_131:List Ty:=[(.slice (.int .u8))]
noncomputable def sm_131:Nat->Option Summ:=smL []
noncomputable def T_131_0:PS:=⟨36,[(0,.hv (.slice (.int .u8))),(3,.kc (.whole 0))],[.vec 5 (.int .u8)],0⟩
inductive Sp.E_131_0 where
 |e0 (p0 p1:List Int)
noncomputable def Sp.B_131_0{R:Type}(r:Option E_131_0)(k0:List Int->List Int->Option R):Option R:=match r with
 |none=>none
 |some (.e0 p0 p1)=>k0 p0 p1
noncomputable def Y_131_0{R:Type}(k:Ex->St->Option R):E_131_0->Option R
 | .e0 p0 p1=>k (Ex.exit 0) (sx 36 [(0,CV.pure (Ty.slice (Ty.int u8)) p0),(3,CV.whole 0)] [Blk.vec 5 (Ty.int u8) p1])
noncomputable def Sp.S_131_0{R:Type}(K:List Int->List Int->Option R)(k:E_131_0->Option R)(p0 p1:List Int):Option R:=
 bif Int.tmod (↑(length p1):Int) (64:Int)!=(56:Int)then gd (room (length p1+1) 1) (K p0 (p1++[0]))else k (E_131_0.e0 p0 p1)
noncomputable def Sp.L_131_0:Nat->List Int->List Int->Option E_131_0
 |0,_,_=>none
 |m+1,p0,p1=>S_131_0 (L_131_0 m) some p0 p1
noncomputable def l_131_0(m:Nat)(a:T_131_0.E):Option E_131_0:=L_131_0 m a.1 a.2.1
noncomputable def O_131_0{R:Type}:Orc R:=orL T_131_0 (l_131_0 FU) Y_131_0
theorem OK_131_0{R:Type}:okF (R:=R) sm_131 0 (nf 131 0) O_131_0:=lp0 T_131_0 l_131_0 (fun R K k a=>S_131_0 (fun p0 p1=>K (p0,p1,())) k a.1 a.2.1) Y_131_0 (fun _ _ _=>by kernel_rfl) (fun _ _ _=>by
 unfold S_131_0
 repeat' first|apply gdN|apply condN|rfl) (ok0 _)
noncomputable def T_131_1:PS:=⟨36,[(3,.kc (.whole 0)),(4,.hv (.int .u64)),(5,.hv (.int .i64))],[.vec 5 (.int .u8)],0⟩
inductive Sp.E_131_1 where
 |e0 (p2:List Int)
noncomputable def Sp.B_131_1{R:Type}(r:Option E_131_1)(k0:List Int->Option R):Option R:=match r with
 |none=>none
 |some (.e0 p2)=>k0 p2
noncomputable def Y_131_1{R:Type}(k:Ex->St->Option R):E_131_1->Option R
 | .e0 p2=>k (Ex.exit 2) (sx 36 [(3,CV.whole 0)] [Blk.vec 5 (Ty.int u8) p2])
noncomputable def Sp.S_131_1{R:Type}(K:Int->Int->List Int->Option R)(k:E_131_1->Option R)(p0 p1:Int)(p2:List Int):Option R:=
 bif decide (p1>=0)then gd (decide (0<=wrap u64 p1)) (gd (room (length p2+1) 1) (K p0 (wrap i64 (p1-8)) (p2++[wrap u8 (Int.fdiv p0 (2^Nat.min (toNat (wrap u64 p1)) 64))])))else k (E_131_1.e0 p2)
noncomputable def Sp.L_131_1:Nat->Int->Int->List Int->Option E_131_1
 |0,_,_,_=>none
 |m+1,p0,p1,p2=>S_131_1 (L_131_1 m) some p0 p1 p2
noncomputable def l_131_1(m:Nat)(a:T_131_1.E):Option E_131_1:=L_131_1 m a.1 a.2.1 a.2.2.1
noncomputable def O_131_1{R:Type}:Orc R:=orL T_131_1 (l_131_1 FU) Y_131_1
theorem OK_131_1{R:Type}:okF (R:=R) sm_131 0 (nf 131 1) O_131_1:=lp0 T_131_1 l_131_1 (fun R K k a=>S_131_1 (fun p0 p1 p2=>K (p0,p1,p2,())) k a.1 a.2.1 a.2.2.1) Y_131_1 (fun _ _ _=>by kernel_rfl) (fun _ _ _=>by
 unfold S_131_1
 repeat' first|apply gdN|apply condN|rfl) (ok0 _)
noncomputable def F_131(a0:(List Int)):Option ((List Int)×Unit) :=
 gd (room (0+length a0) 1) (gd (room (length ([]++a0)+1) 1) (B_131_0 (L_131_0 4611686018427387904 a0 ([]++a0++[128])) fun y3 y4=>B_131_1 (L_131_1 4611686018427387904 (wrap u64 (wrap u64 (↑(length y3):Int)*8)) 56 y4) fun y5=>some (y5,PUnit.unit)))
noncomputable def Sp.p_131(a0:(List Int)):Bool:=(F_131 a0).isSome
noncomputable def Sp.v_131(a0:(List Int)):(List Int)×Unit:=(F_131 a0).getD (dfH R_131)
noncomputable def s_131:Summ:=shS A_131 R_131 (fun x=>p_131 x.1) (fun x=>v_131 x.1)
theorem pv_131(a0:(List Int)){y:(List Int)×Unit}(h:F_131 a0=some y):p_131 a0=true/\v_131 a0=y:=pvG h
theorem run_131(x:HDen A_131)(y:HDen R_131)(h:F_131 x.1=some y):rnF sm_131 1 131 A_131 R_131 x y:=runG noO_ok (os:=[O_131_0,O_131_1]) ⟨OK_131_0,OK_131_1,trivial⟩ (Eq.trans (by kernel_rfl) h)
end
noncomputable section
abbrev A_141:List Ty:=[(.int .u32),(.int .u64)]
abbrev R_141:List Ty:=[(.int .u32)]
noncomputable def sm_141:Nat->Option Summ:=smL []
noncomputable def F_141(a0 a1:Int):Option (Int×Unit) :=
 gd (decide (0<=a1)) (gd (decide (0<=wrap u64 (32-a1))) (some (Sp.orI u32 (Int.fdiv a0 (2^Nat.min (toNat a1) 32)) (wrap u32 (a0*2^Nat.min (toNat (wrap u64 (32-a1))) 32)),PUnit.unit)))
noncomputable def Sp.p_141(a0 a1:Int):Bool:=(F_141 a0 a1).isSome
noncomputable def Sp.v_141(a0 a1:Int):Int×Unit:=(F_141 a0 a1).getD (dfH R_141)
noncomputable def s_141:Summ:=shN A_141 R_141 (fun x=>p_141 x.1 x.2.1) (fun x=>v_141 x.1 x.2.1)
theorem pv_141(a0 a1:Int){y:Int×Unit}(h:F_141 a0 a1=some y):p_141 a0 a1=true/\v_141 a0 a1=y:=pvG h
theorem run_141(x:HDen A_141)(y:HDen R_141)(h:F_141 x.1 x.2.1=some y):rnF sm_141 1 141 A_141 R_141 x y:=runG noO_ok (os:=[]) trivial (Eq.trans (by kernel_rfl) h)
end
noncomputable section
abbrev A_142:List Ty:=[]
abbrev R_142:List Ty:=[(.arr 64 (.int .u32))]
noncomputable def sm_142:Nat->Option Summ:=smL []
noncomputable def F_142:Option ((List Int)×Unit) :=
 some ([1116352408,1899447441,3049323471,3921009573,961987163,1508970993,2453635748,2870763221,3624381080,310598401,607225278,1426881987,1925078388,2162078206,2614888103,3248222580,3835390401,4022224774,264347078,604807628,770255983,1249150122,1555081692,1996064986,2554220882,2821834349,2952996808,3210313671,3336571891,3584528711,113926993,338241895,666307205,773529912,1294757372,1396182291,1695183700,1986661051,2177026350,2456956037,2730485921,2820302411,3259730800,3345764771,3516065817,3600352804,4094571909,275423344,430227734,506948616,659060556,883997877,958139571,1322822218,1537002063,1747873779,1955562222,2024104815,2227730452,2361852424,2428436474,2756734187,3204031479,3329325298],PUnit.unit)
noncomputable def Sp.p_142:Bool:=(F_142).isSome
noncomputable def Sp.v_142:(List Int)×Unit:=(F_142).getD (dfH R_142)
noncomputable def s_142:Summ:=shN A_142 R_142 (fun x=>p_142) (fun x=>v_142)
theorem run_142(x:HDen A_142)(y:HDen R_142)(h:F_142=some y):rnF sm_142 1 142 A_142 R_142 x y:=runG noO_ok (os:=[]) trivial (Eq.trans (by kernel_rfl) h)
end
noncomputable section
abbrev A_132:List Ty:=[(.arr 8 (.int .u32)),(.slice (.int .u8))]
abbrev R_132:List Ty:=[(.arr 8 (.int .u32))]
noncomputable def sm_132:Nat->Option Summ:=smL [(141,s_141),(142,s_142)]
noncomputable def T_132_0:PS:=⟨196,[(1,.hv (.slice (.int .u8))),(2,.kc (.ptr 0 [])),(4,.kc (.ptr 1 [])),(5,.kc (.ptr 2 [])),(6,.hv (.int .i64))],[.mem (.hv (.arr 8 (.int .u32))),.mem (.hv (.arr 8 (.int .u32))),.mem (.hv (.arr 64 (.int .u32)))],0⟩
inductive Sp.E_132_0 where
 |e0 (p2 p3 p4:List Int)
noncomputable def Sp.B_132_0{R:Type}(r:Option E_132_0)(k0:List Int->List Int->List Int->Option R):Option R:=match r with
 |none=>none
 |some (.e0 p2 p3 p4)=>k0 p2 p3 p4
noncomputable def Y_132_0{R:Type}(k:Ex->St->Option R):E_132_0->Option R
 | .e0 p2 p3 p4=>k (Ex.exit 0) (sx 196 [(2,CV.ptr 0 []),(4,CV.ptr 1 []),(5,CV.ptr 2 [])] [Blk.mem (CV.pure (Ty.arr 8 (Ty.int u32)) p2),Blk.mem (CV.pure (Ty.arr 8 (Ty.int u32)) p3),Blk.mem (CV.pure (Ty.arr 64 (Ty.int u32)) p4)])
noncomputable def Sp.S_132_0{R:Type}(K:List Int->Int->List Int->List Int->List Int->Option R)(k:E_132_0->Option R)(p0:List Int)(p1:Int)(p2 p3 p4:List Int):Option R:=
 bif decide (p1<16)then gd (inB (wrap i64 (4*p1)) (length p0)) (gd (inB (wrap i64 (wrap i64 (4*p1)+1)) (length p0)) (gd (inB (wrap i64 (wrap i64 (4*p1)+2)) (length p0)) (gd (inB (wrap i64 (wrap i64 (4*p1)+3)) (length p0)) (gd (inB p1 64) (gd (decide (toNat p1<64)&&true) (K p0 (wrap i64 (p1+1)) p2 p3 (List.set p4 (toNat p1) (Sp.orI u32 (Sp.orI u32 (Sp.orI u32 (wrap u32 (wrap u32 (getD p0 (toNat (wrap i64 (4*p1))) 0)*16777216)) (wrap u32 (wrap u32 (getD p0 (toNat (wrap i64 (wrap i64 (4*p1)+1))) 0)*65536))) (wrap u32 (wrap u32 (getD p0 (toNat (wrap i64 (wrap i64 (4*p1)+2))) 0)*256))) (wrap u32 (getD p0 (toNat (wrap i64 (wrap i64 (4*p1)+3))) 0))))))))))else k (E_132_0.e0 p2 p3 p4)
noncomputable def Sp.L_132_0:Nat->List Int->Int->List Int->List Int->List Int->Option E_132_0
 |0,_,_,_,_,_=>none
 |m+1,p0,p1,p2,p3,p4=>S_132_0 (L_132_0 m) some p0 p1 p2 p3 p4
noncomputable def l_132_0(m:Nat)(a:T_132_0.E):Option E_132_0:=L_132_0 m a.1 a.2.1 a.2.2.1 a.2.2.2.1 a.2.2.2.2.1
noncomputable def O_132_0{R:Type}:Orc R:=orL T_132_0 (l_132_0 FU) Y_132_0
theorem OK_132_0{R:Type}:okF (R:=R) sm_132 0 (nf 132 0) O_132_0:=lp0 T_132_0 l_132_0 (fun R K k a=>S_132_0 (fun p0 p1 p2 p3 p4=>K (p0,p1,p2,p3,p4,())) k a.1 a.2.1 a.2.2.1 a.2.2.2.1 a.2.2.2.2.1) Y_132_0 (fun _ _ _=>by kernel_rfl) (fun _ _ _=>by
 unfold S_132_0
 repeat' first|apply gdN|apply condN|rfl) (ok0 _)
noncomputable def T_132_1:PS:=⟨196,[(2,.kc (.ptr 0 [])),(4,.kc (.ptr 1 [])),(5,.kc (.ptr 2 [])),(7,.hv (.int .i64))],[.mem (.hv (.arr 8 (.int .u32))),.mem (.hv (.arr 8 (.int .u32))),.mem (.hv (.arr 64 (.int .u32)))],0⟩
inductive Sp.E_132_1 where
 |e0 (p1 p2 p3:List Int)
noncomputable def Sp.B_132_1{R:Type}(r:Option E_132_1)(k0:List Int->List Int->List Int->Option R):Option R:=match r with
 |none=>none
 |some (.e0 p1 p2 p3)=>k0 p1 p2 p3
noncomputable def Y_132_1{R:Type}(k:Ex->St->Option R):E_132_1->Option R
 | .e0 p1 p2 p3=>k (Ex.exit 2) (sx 196 [(2,CV.ptr 0 []),(4,CV.ptr 1 []),(5,CV.ptr 2 [])] [Blk.mem (CV.pure (Ty.arr 8 (Ty.int u32)) p1),Blk.mem (CV.pure (Ty.arr 8 (Ty.int u32)) p2),Blk.mem (CV.pure (Ty.arr 64 (Ty.int u32)) p3)])
noncomputable def Sp.S_132_1{R:Type}(K:Int->List Int->List Int->List Int->Option R)(k:E_132_1->Option R)(p0:Int)(p1 p2 p3:List Int):Option R:=
 bif decide (p0<64)then gd (inB (wrap i64 (p0-15)) 64) (gd (decide (toNat (wrap i64 (p0-15))<64)&&true) (gd (inB (wrap i64 (p0-2)) 64) (gd (decide (toNat (wrap i64 (p0-2))<64)&&true) (gd (p_141 (getD p3 (toNat (wrap i64 (p0-2))) 0) 17) (gd (p_141 (getD p3 (toNat (wrap i64 (p0-2))) 0) 19) (gd (inB (wrap i64 (p0-7)) 64) (gd (decide (toNat (wrap i64 (p0-7))<64)&&true) (gd (p_141 (getD p3 (toNat (wrap i64 (p0-15))) 0) 7) (gd (p_141 (getD p3 (toNat (wrap i64 (p0-15))) 0) 18) (gd (inB (wrap i64 (p0-16)) 64) (gd (decide (toNat (wrap i64 (p0-16))<64)&&true) (gd (inB p0 64) (gd (decide (toNat p0<64)&&true) (K (wrap i64 (p0+1)) p1 p2 (List.set p3 (toNat p0) (wrap u32 (wrap u32 (wrap u32 (Sp.xorI u32 (Sp.xorI u32 ((v_141 (getD p3 (toNat (wrap i64 (p0-2))) 0) 17).1) ((v_141 (getD p3 (toNat (wrap i64 (p0-2))) 0) 19).1)) (Int.fdiv (getD p3 (toNat (wrap i64 (p0-2))) 0) 1024)+getD p3 (toNat (wrap i64 (p0-7))) 0)+Sp.xorI u32 (Sp.xorI u32 ((v_141 (getD p3 (toNat (wrap i64 (p0-15))) 0) 7).1) ((v_141 (getD p3 (toNat (wrap i64 (p0-15))) 0) 18).1)) (Int.fdiv (getD p3 (toNat (wrap i64 (p0-15))) 0) 8))+getD p3 (toNat (wrap i64 (p0-16))) 0)))))))))))))))))else k (E_132_1.e0 p1 p2 p3)
noncomputable def Sp.L_132_1:Nat->Int->List Int->List Int->List Int->Option E_132_1
 |0,_,_,_,_=>none
 |m+1,p0,p1,p2,p3=>S_132_1 (L_132_1 m) some p0 p1 p2 p3
noncomputable def l_132_1(m:Nat)(a:T_132_1.E):Option E_132_1:=L_132_1 m a.1 a.2.1 a.2.2.1 a.2.2.2.1
noncomputable def O_132_1{R:Type}:Orc R:=orL T_132_1 (l_132_1 FU) Y_132_1
theorem OK_132_1{R:Type}:okF (R:=R) sm_132 0 (nf 132 1) O_132_1:=lp0 T_132_1 l_132_1 (fun R K k a=>S_132_1 (fun p0 p1 p2 p3=>K (p0,p1,p2,p3,())) k a.1 a.2.1 a.2.2.1 a.2.2.2.1) Y_132_1 (fun _ _ _=>by kernel_rfl) (fun _ _ _=>by
 unfold S_132_1
 repeat' first|apply gdN|apply condN|rfl) (ok0 _)
noncomputable def T_132_2:PS:=⟨196,[(2,.kc (.ptr 0 [])),(4,.kc (.ptr 1 [])),(5,.kc (.ptr 2 [])),(10,.kc (.ptr 3 [])),(11,.kc (.ptr 4 [])),(12,.hv (.int .i64))],[.mem (.hv (.arr 8 (.int .u32))),.mem (.hv (.arr 8 (.int .u32))),.mem (.hv (.arr 64 (.int .u32))),.mem (.hv (.arr 64 (.int .u32))),.mem (.hv (.arr 8 (.int .u32)))],0⟩
inductive Sp.E_132_2 where
 |e0 (p1 p2 p5:List Int)
noncomputable def Sp.B_132_2{R:Type}(r:Option E_132_2)(k0:List Int->List Int->List Int->Option R):Option R:=match r with
 |none=>none
 |some (.e0 p1 p2 p5)=>k0 p1 p2 p5
noncomputable def Y_132_2{R:Type}(k:Ex->St->Option R):E_132_2->Option R
 | .e0 p1 p2 p5=>k (Ex.exit 4) (sx 196 [(2,CV.ptr 0 []),(4,CV.ptr 1 []),(11,CV.ptr 2 [])] [Blk.mem (CV.pure (Ty.arr 8 (Ty.int u32)) p1),Blk.mem (CV.pure (Ty.arr 8 (Ty.int u32)) p2),Blk.mem (CV.pure (Ty.arr 8 (Ty.int u32)) p5)])
noncomputable def Sp.S_132_2{R:Type}(K:Int->List Int->List Int->List Int->List Int->List Int->Option R)(k:E_132_2->Option R)(p0:Int)(p1 p2 p3 p4 p5:List Int):Option R:=
 bif decide (p0<64)then gd (p_141 (getD p5 4 0) 6) (gd (p_141 (getD p5 4 0) 11) (gd (p_141 (getD p5 4 0) 25) (gd (inB p0 64) (gd (decide (toNat p0<64)&&true) (gd (inB p0 64) (gd (decide (toNat p0<64)&&true) (gd (p_141 (getD p5 0 0) 2) (gd (p_141 (getD p5 0 0) 13) (gd (p_141 (getD p5 0 0) 22) (K (wrap i64 (p0+1)) p1 p2 p3 p4 [wrap u32 (wrap u32 (wrap u32 (wrap u32 (wrap u32 (getD p5 7 0+Sp.xorI u32 (Sp.xorI u32 ((v_141 (getD p5 4 0) 6).1) ((v_141 (getD p5 4 0) 11).1)) ((v_141 (getD p5 4 0) 25).1))+Sp.xorI u32 (Sp.andI u32 (getD p5 4 0) (getD p5 5 0)) (Sp.andI u32 (Sp.xorI u32 4294967295 (getD p5 4 0)) (getD p5 6 0)))+getD p4 (toNat p0) 0)+getD p3 (toNat p0) 0)+wrap u32 (Sp.xorI u32 (Sp.xorI u32 ((v_141 (getD p5 0 0) 2).1) ((v_141 (getD p5 0 0) 13).1)) ((v_141 (getD p5 0 0) 22).1)+Sp.xorI u32 (Sp.xorI u32 (Sp.andI u32 (getD p5 0 0) (getD p5 1 0)) (Sp.andI u32 (getD p5 0 0) (getD p5 2 0))) (Sp.andI u32 (getD p5 1 0) (getD p5 2 0)))),getD p5 0 0,getD p5 1 0,getD p5 2 0,wrap u32 (getD p5 3 0+wrap u32 (wrap u32 (wrap u32 (wrap u32 (getD p5 7 0+Sp.xorI u32 (Sp.xorI u32 ((v_141 (getD p5 4 0) 6).1) ((v_141 (getD p5 4 0) 11).1)) ((v_141 (getD p5 4 0) 25).1))+Sp.xorI u32 (Sp.andI u32 (getD p5 4 0) (getD p5 5 0)) (Sp.andI u32 (Sp.xorI u32 4294967295 (getD p5 4 0)) (getD p5 6 0)))+getD p4 (toNat p0) 0)+getD p3 (toNat p0) 0)),getD p5 4 0,getD p5 5 0,getD p5 6 0]))))))))))else k (E_132_2.e0 p1 p2 p5)
noncomputable def Sp.L_132_2:Nat->Int->List Int->List Int->List Int->List Int->List Int->Option E_132_2
 |0,_,_,_,_,_,_=>none
 |m+1,p0,p1,p2,p3,p4,p5=>S_132_2 (L_132_2 m) some p0 p1 p2 p3 p4 p5
noncomputable def l_132_2(m:Nat)(a:T_132_2.E):Option E_132_2:=L_132_2 m a.1 a.2.1 a.2.2.1 a.2.2.2.1 a.2.2.2.2.1 a.2.2.2.2.2.1
noncomputable def O_132_2{R:Type}:Orc R:=orL T_132_2 (l_132_2 FU) Y_132_2
theorem OK_132_2{R:Type}:okF (R:=R) sm_132 0 (nf 132 2) O_132_2:=lp0 T_132_2 l_132_2 (fun R K k a=>S_132_2 (fun p0 p1 p2 p3 p4 p5=>K (p0,p1,p2,p3,p4,p5,())) k a.1 a.2.1 a.2.2.1 a.2.2.2.1 a.2.2.2.2.1 a.2.2.2.2.2.1) Y_132_2 (fun _ _ _=>by kernel_rfl) (fun _ _ _=>by
 unfold S_132_2
 repeat' first|apply gdN|apply condN|rfl) (ok0 _)
noncomputable def T_132_3:PS:=⟨196,[(2,.kc (.ptr 0 [])),(4,.kc (.ptr 1 [])),(11,.kc (.ptr 2 [])),(21,.hv (.int .i64))],[.mem (.hv (.arr 8 (.int .u32))),.mem (.hv (.arr 8 (.int .u32))),.mem (.hv (.arr 8 (.int .u32)))],0⟩
inductive Sp.E_132_3 where
 |e0 (p1 p2:List Int)
noncomputable def Sp.B_132_3{R:Type}(r:Option E_132_3)(k0:List Int->List Int->Option R):Option R:=match r with
 |none=>none
 |some (.e0 p1 p2)=>k0 p1 p2
noncomputable def Y_132_3{R:Type}(k:Ex->St->Option R):E_132_3->Option R
 | .e0 p1 p2=>k (Ex.exit 6) (sx 196 [(2,CV.ptr 0 []),(4,CV.ptr 1 [])] [Blk.mem (CV.pure (Ty.arr 8 (Ty.int u32)) p1),Blk.mem (CV.pure (Ty.arr 8 (Ty.int u32)) p2)])
noncomputable def Sp.S_132_3{R:Type}(K:Int->List Int->List Int->List Int->Option R)(k:E_132_3->Option R)(p0:Int)(p1 p2 p3:List Int):Option R:=
 bif decide (p0<8)then gd (inB p0 8) (gd (decide (toNat p0<8)&&true) (gd (inB p0 8) (gd (decide (toNat p0<8)&&true) (gd (inB p0 8) (gd (decide (toNat p0<8)&&true) (K (wrap i64 (p0+1)) (List.set p1 (toNat p0) (wrap u32 (getD p1 (toNat p0) 0+getD p3 (toNat p0) 0))) p2 p3))))))else k (E_132_3.e0 p1 p2)
noncomputable def Sp.L_132_3:Nat->Int->List Int->List Int->List Int->Option E_132_3
 |0,_,_,_,_=>none
 |m+1,p0,p1,p2,p3=>S_132_3 (L_132_3 m) some p0 p1 p2 p3
noncomputable def l_132_3(m:Nat)(a:T_132_3.E):Option E_132_3:=L_132_3 m a.1 a.2.1 a.2.2.1 a.2.2.2.1
noncomputable def O_132_3{R:Type}:Orc R:=orL T_132_3 (l_132_3 FU) Y_132_3
theorem OK_132_3{R:Type}:okF (R:=R) sm_132 0 (nf 132 3) O_132_3:=lp0 T_132_3 l_132_3 (fun R K k a=>S_132_3 (fun p0 p1 p2 p3=>K (p0,p1,p2,p3,())) k a.1 a.2.1 a.2.2.1 a.2.2.2.1) Y_132_3 (fun _ _ _=>by kernel_rfl) (fun _ _ _=>by
 unfold S_132_3
 repeat' first|apply gdN|apply condN|rfl) (ok0 _)
noncomputable def F_132(a0 a1:(List Int)):Option ((List Int)×Unit) :=
 B_132_0 (L_132_0 4611686018427387904 a1 0 a0 (replicate 8 (0:Int)) (replicate 64 (0:Int))) fun y11 y12 y13=>B_132_1 (L_132_1 4611686018427387904 16 y11 y12 y13) fun y14 y15 y16=>gd p_142 (B_132_2 (L_132_2 4611686018427387904 0 y14 y15 y16 (v_142.1) y14) fun y17 y18 y19=>B_132_3 (L_132_3 4611686018427387904 0 y17 y18 y19) fun y20 y21=>some (y20,PUnit.unit))
noncomputable def Sp.p_132(a0 a1:(List Int)):Bool:=(F_132 a0 a1).isSome
noncomputable def Sp.v_132(a0 a1:(List Int)):(List Int)×Unit:=(F_132 a0 a1).getD (dfH R_132)
noncomputable def s_132:Summ:=shN A_132 R_132 (fun x=>p_132 x.1 x.2.1) (fun x=>v_132 x.1 x.2.1)
theorem pv_132(a0 a1:(List Int)){y:(List Int)×Unit}(h:F_132 a0 a1=some y):p_132 a0 a1=true/\v_132 a0 a1=y:=pvG h
theorem run_132(x:HDen A_132)(y:HDen R_132)(h:F_132 x.1 x.2.1=some y):rnF sm_132 1 132 A_132 R_132 x y:=runG noO_ok (os:=[O_132_0,O_132_1,O_132_2,O_132_3]) ⟨OK_132_0,OK_132_1,OK_132_2,OK_132_3,trivial⟩ (Eq.trans (by kernel_rfl) h)
end
noncomputable section
abbrev A_116:List Ty:=[(.slice (.int .u8))]
abbrev R_116:List Ty:=[(.arr 32 (.int .u8))]
noncomputable def sm_116:Nat->Option Summ:=smL [(131,s_131),(132,s_132)]
noncomputable def T_116_0:PS:=⟨42,[(2,.kc (.ptr 0 [])),(3,.kc (.ptr 1 [])),(4,.hv (.slice (.int .u8))),(5,.hv (.int .i64))],[.mem (.hv (.arr 32 (.int .u8))),.mem (.hv (.arr 8 (.int .u32)))],0⟩
inductive Sp.E_116_0 where
 |e0 (p2 p3:List Int)
noncomputable def Sp.B_116_0{R:Type}(r:Option E_116_0)(k0:List Int->List Int->Option R):Option R:=match r with
 |none=>none
 |some (.e0 p2 p3)=>k0 p2 p3
noncomputable def Y_116_0{R:Type}(k:Ex->St->Option R):E_116_0->Option R
 | .e0 p2 p3=>k (Ex.exit 0) (sx 42 [(2,CV.ptr 0 []),(3,CV.ptr 1 [])] [Blk.mem (CV.pure (Ty.arr 32 (Ty.int u8)) p2),Blk.mem (CV.pure (Ty.arr 8 (Ty.int u32)) p3)])
noncomputable def Sp.S_116_0{R:Type}(K:List Int->Int->List Int->List Int->Option R)(k:E_116_0->Option R)(p0:List Int)(p1:Int)(p2 p3:List Int):Option R:=
 bif decide (p1<(↑(length p0):Int))then gd (sl3 p1 (wrap i64 (p1+64)) (↑(length p0):Int)) (gd (p_132 p3 (take (toNat (wrap i64 (p1+64))-toNat p1) (drop (toNat p1) p0))) (K p0 (wrap i64 (p1+64)) p2 ((v_132 p3 (take (toNat (wrap i64 (p1+64))-toNat p1) (drop (toNat p1) p0))).1)))else k (E_116_0.e0 p2 p3)
noncomputable def Sp.L_116_0:Nat->List Int->Int->List Int->List Int->Option E_116_0
 |0,_,_,_,_=>none
 |m+1,p0,p1,p2,p3=>S_116_0 (L_116_0 m) some p0 p1 p2 p3
noncomputable def l_116_0(m:Nat)(a:T_116_0.E):Option E_116_0:=L_116_0 m a.1 a.2.1 a.2.2.1 a.2.2.2.1
noncomputable def O_116_0{R:Type}:Orc R:=orL T_116_0 (l_116_0 FU) Y_116_0
theorem OK_116_0{R:Type}:okF (R:=R) sm_116 0 (nf 116 0) O_116_0:=lp0 T_116_0 l_116_0 (fun R K k a=>S_116_0 (fun p0 p1 p2 p3=>K (p0,p1,p2,p3,())) k a.1 a.2.1 a.2.2.1 a.2.2.2.1) Y_116_0 (fun _ _ _=>by kernel_rfl) (fun _ _ _=>by
 unfold S_116_0
 repeat' first|apply gdN|apply condN|rfl) (ok0 _)
noncomputable def T_116_1:PS:=⟨42,[(2,.kc (.ptr 0 [])),(3,.kc (.ptr 1 [])),(6,.kc (.ptr 2 [])),(7,.hv (.int .i64))],[.mem (.hv (.arr 32 (.int .u8))),.mem (.hv (.arr 8 (.int .u32))),.mem (.hv (.arr 32 (.int .u8)))],0⟩
inductive Sp.E_116_1 where
 |e0 (p1 p3:List Int)
noncomputable def Sp.B_116_1{R:Type}(r:Option E_116_1)(k0:List Int->List Int->Option R):Option R:=match r with
 |none=>none
 |some (.e0 p1 p3)=>k0 p1 p3
noncomputable def Y_116_1{R:Type}(k:Ex->St->Option R):E_116_1->Option R
 | .e0 p1 p3=>k (Ex.exit 2) (sx 42 [(2,CV.ptr 0 []),(6,CV.ptr 1 [])] [Blk.mem (CV.pure (Ty.arr 32 (Ty.int u8)) p1),Blk.mem (CV.pure (Ty.arr 32 (Ty.int u8)) p3)])
noncomputable def Sp.S_116_1{R:Type}(K:Int->List Int->List Int->List Int->Option R)(k:E_116_1->Option R)(p0:Int)(p1 p2 p3:List Int):Option R:=
 bif decide (p0<32)then gd (inB (wrap i64 (Int.tdiv p0 4)) 8) (gd (decide (toNat (wrap i64 (Int.tdiv p0 4))<8)&&true) (gd (decide (0<=wrap u64 (wrap i64 (24-wrap i64 (Int.tmod p0 (4:Int)*(8:Int)))))) (gd (inB p0 32) (gd (decide (toNat p0<32)&&true) (K (wrap i64 (p0+1)) p1 p2 (List.set p3 (toNat p0) (wrap u8 (Int.fdiv (getD p2 (toNat (wrap i64 (Int.tdiv p0 4))) 0) (2^Nat.min (toNat (wrap u64 (wrap i64 (24-wrap i64 (Int.tmod p0 (4:Int)*(8:Int)))))) 32)))))))))else k (E_116_1.e0 p1 p3)
noncomputable def Sp.L_116_1:Nat->Int->List Int->List Int->List Int->Option E_116_1
 |0,_,_,_,_=>none
 |m+1,p0,p1,p2,p3=>S_116_1 (L_116_1 m) some p0 p1 p2 p3
noncomputable def l_116_1(m:Nat)(a:T_116_1.E):Option E_116_1:=L_116_1 m a.1 a.2.1 a.2.2.1 a.2.2.2.1
noncomputable def O_116_1{R:Type}:Orc R:=orL T_116_1 (l_116_1 FU) Y_116_1
theorem OK_116_1{R:Type}:okF (R:=R) sm_116 0 (nf 116 1) O_116_1:=lp0 T_116_1 l_116_1 (fun R K k a=>S_116_1 (fun p0 p1 p2 p3=>K (p0,p1,p2,p3,())) k a.1 a.2.1 a.2.2.1 a.2.2.2.1) Y_116_1 (fun _ _ _=>by kernel_rfl) (fun _ _ _=>by
 unfold S_116_1
 repeat' first|apply gdN|apply condN|rfl) (ok0 _)
noncomputable def F_116(a0:(List Int)):Option ((List Int)×Unit) :=
 gd (p_131 a0) (B_116_0 (L_116_0 4611686018427387904 ((v_131 a0).1) 0 (replicate 32 (0:Int)) [1779033703,3144134277,1013904242,2773480762,1359893119,2600822924,528734635,1541459225]) fun y4 y5=>B_116_1 (L_116_1 4611686018427387904 0 y4 y5 (replicate 32 (0:Int))) fun y6 y7=>some (y7,PUnit.unit))
noncomputable def Sp.p_116(a0:(List Int)):Bool:=(F_116 a0).isSome
noncomputable def Sp.v_116(a0:(List Int)):(List Int)×Unit:=(F_116 a0).getD (dfH R_116)
noncomputable def s_116:Summ:=shN A_116 R_116 (fun x=>p_116 x.1) (fun x=>v_116 x.1)
theorem pv_116(a0:(List Int)){y:(List Int)×Unit}(h:F_116 a0=some y):p_116 a0=true/\v_116 a0=y:=pvG h
theorem run_116(x:HDen A_116)(y:HDen R_116)(h:F_116 x.1=some y):rnF sm_116 1 116 A_116 R_116 x y:=runG noO_ok (os:=[O_116_0,O_116_1]) ⟨OK_116_0,OK_116_1,trivial⟩ (Eq.trans (by kernel_rfl) h)
end
noncomputable section
abbrev A_98:List Ty:=[(.arr 32 (.int .u8)),(.int .i64),(.int .i64)]
abbrev R_98:List Ty:=[(.arr 32 (.int .u8))]
noncomputable def sm_98:Nat->Option Summ:=smL [(116,s_116)]
noncomputable def T_98_0:PS:=⟨21,[(2,.hv (.int .i64)),(3,.kc (.ptr 0 [])),(6,.kc (.ptr 1 [])),(7,.hv (.int .i64))],[.mem (.hv (.arr 32 (.int .u8))),.mem (.hv (.arr 32 (.int .u8)))],0⟩
inductive Sp.E_98_0 where
 |e0 (p2 p3:List Int)
noncomputable def Sp.B_98_0{R:Type}(r:Option E_98_0)(k0:List Int->List Int->Option R):Option R:=match r with
 |none=>none
 |some (.e0 p2 p3)=>k0 p2 p3
noncomputable def Y_98_0{R:Type}(k:Ex->St->Option R):E_98_0->Option R
 | .e0 p2 p3=>k (Ex.exit 0) (sx 21 [(3,CV.ptr 0 []),(6,CV.ptr 1 [])] [Blk.mem (CV.pure (Ty.arr 32 (Ty.int u8)) p2),Blk.mem (CV.pure (Ty.arr 32 (Ty.int u8)) p3)])
noncomputable def Sp.S_98_0{R:Type}(K:Int->Int->List Int->List Int->Option R)(k:E_98_0->Option R)(p0 p1:Int)(p2 p3:List Int):Option R:=
 bif decide (p1<p0)then gd (room (1+length (take 32 (drop 0 p2))) 1) (gd (p_116 ([wrap u8 p1]++take 32 (drop 0 p2))) (K p0 (wrap i64 (p1+1)) ((v_116 ([wrap u8 p1]++take 32 (drop 0 p2))).1) p3))else k (E_98_0.e0 p2 p3)
noncomputable def Sp.L_98_0:Nat->Int->Int->List Int->List Int->Option E_98_0
 |0,_,_,_,_=>none
 |m+1,p0,p1,p2,p3=>S_98_0 (L_98_0 m) some p0 p1 p2 p3
noncomputable def l_98_0(m:Nat)(a:T_98_0.E):Option E_98_0:=L_98_0 m a.1 a.2.1 a.2.2.1 a.2.2.2.1
noncomputable def O_98_0{R:Type}:Orc R:=orL T_98_0 (l_98_0 FU) Y_98_0
theorem OK_98_0{R:Type}:okF (R:=R) sm_98 0 (nf 98 0) O_98_0:=lp0 T_98_0 l_98_0 (fun R K k a=>S_98_0 (fun p0 p1 p2 p3=>K (p0,p1,p2,p3,())) k a.1 a.2.1 a.2.2.1 a.2.2.2.1) Y_98_0 (fun _ _ _=>by kernel_rfl) (fun _ _ _=>by
 unfold S_98_0
 repeat' first|apply gdN|apply condN|rfl) (ok0 _)
noncomputable def F_98(a0:(List Int))(a1 a2:Int):Option ((List Int)×Unit) :=
 B_98_0 (L_98_0 4611686018427387904 a2 a1 a0 (replicate 32 (0:Int))) fun y2 y3=>some (y2,PUnit.unit)
noncomputable def Sp.p_98(a0:(List Int))(a1 a2:Int):Bool:=(F_98 a0 a1 a2).isSome
noncomputable def Sp.v_98(a0:(List Int))(a1 a2:Int):(List Int)×Unit:=(F_98 a0 a1 a2).getD (dfH R_98)
noncomputable def s_98:Summ:=shN A_98 R_98 (fun x=>p_98 x.1 x.2.1 x.2.2.1) (fun x=>v_98 x.1 x.2.1 x.2.2.1)
theorem pv_98(a0:(List Int))(a1 a2:Int){y:(List Int)×Unit}(h:F_98 a0 a1 a2=some y):p_98 a0 a1 a2=true/\v_98 a0 a1 a2=y:=pvG h
theorem run_98(x:HDen A_98)(y:HDen R_98)(h:F_98 x.1 x.2.1 x.2.2.1=some y):rnF sm_98 1 98 A_98 R_98 x y:=runG noO_ok (os:=[O_98_0]) ⟨OK_98_0,trivial⟩ (Eq.trans (by kernel_rfl) h)
end
noncomputable section
abbrev A_99:List Ty:=[(.slice (.arr 32 (.int .u8)))]
abbrev R_99:List Ty:=[(.arr 32 (.int .u8))]
noncomputable def sm_99:Nat->Option Summ:=smL [(116,s_116)]
noncomputable def T_99_0:PS:=⟨19,[(0,.hv (.slice (.arr 32 (.int .u8)))),(2,.kc (.ptr 0 [])),(3,.kc (.whole 1)),(4,.hv (.int .i64))],[.mem (.hv (.arr 32 (.int .u8))),.vec 5 (.int .u8)],0⟩
inductive Sp.E_99_0 where
 |e0 (p2 p3:List Int)
noncomputable def Sp.B_99_0{R:Type}(r:Option E_99_0)(k0:List Int->List Int->Option R):Option R:=match r with
 |none=>none
 |some (.e0 p2 p3)=>k0 p2 p3
noncomputable def Y_99_0{R:Type}(k:Ex->St->Option R):E_99_0->Option R
 | .e0 p2 p3=>k (Ex.exit 0) (sx 19 [(2,CV.ptr 0 []),(3,CV.whole 1)] [Blk.mem (CV.pure (Ty.arr 32 (Ty.int u8)) p2),Blk.vec 5 (Ty.int u8) p3])
noncomputable def Sp.S_99_0{R:Type}(K:List (List Int)->Int->List Int->List Int->Option R)(k:E_99_0->Option R)(p0:List (List Int))(p1:Int)(p2 p3:List Int):Option R:=
 bif decide (p1<(↑(length p0):Int))then gd (inB p1 (length p0)) (gd (room (length p3+length (take 32 (drop 0 (getD p0 (toNat p1) (Ty.dflt (Ty.arr 32 (Ty.int u8))))))) 1) (K p0 (wrap i64 (p1+1)) p2 (p3++take 32 (drop 0 (getD p0 (toNat p1) (Ty.dflt (Ty.arr 32 (Ty.int u8))))))))else k (E_99_0.e0 p2 p3)
noncomputable def Sp.L_99_0:Nat->List (List Int)->Int->List Int->List Int->Option E_99_0
 |0,_,_,_,_=>none
 |m+1,p0,p1,p2,p3=>S_99_0 (L_99_0 m) some p0 p1 p2 p3
noncomputable def l_99_0(m:Nat)(a:T_99_0.E):Option E_99_0:=L_99_0 m a.1 a.2.1 a.2.2.1 a.2.2.2.1
noncomputable def O_99_0{R:Type}:Orc R:=orL T_99_0 (l_99_0 FU) Y_99_0
theorem OK_99_0{R:Type}:okF (R:=R) sm_99 0 (nf 99 0) O_99_0:=lp0 T_99_0 l_99_0 (fun R K k a=>S_99_0 (fun p0 p1 p2 p3=>K (p0,p1,p2,p3,())) k a.1 a.2.1 a.2.2.1 a.2.2.2.1) Y_99_0 (fun _ _ _=>by kernel_rfl) (fun _ _ _=>by
 unfold S_99_0
 repeat' first|apply gdN|apply condN|rfl) (ok0 _)
noncomputable def F_99(a0:(List (List Int))):Option ((List Int)×Unit) :=
 B_99_0 (L_99_0 4611686018427387904 a0 0 (replicate 32 (0:Int)) []) fun y2 y3=>gd (p_116 y3) (some ((v_116 y3).1,PUnit.unit))
noncomputable def Sp.p_99(a0:(List (List Int))):Bool:=(F_99 a0).isSome
noncomputable def Sp.v_99(a0:(List (List Int))):(List Int)×Unit:=(F_99 a0).getD (dfH R_99)
noncomputable def s_99:Summ:=shN A_99 R_99 (fun x=>p_99 x.1) (fun x=>v_99 x.1)
theorem pv_99(a0:(List (List Int))){y:(List Int)×Unit}(h:F_99 a0=some y):p_99 a0=true/\v_99 a0=y:=pvG h
theorem run_99(x:HDen A_99)(y:HDen R_99)(h:F_99 x.1=some y):rnF sm_99 1 99 A_99 R_99 x y:=runG noO_ok (os:=[O_99_0]) ⟨OK_99_0,trivial⟩ (Eq.trans (by kernel_rfl) h)
end
noncomputable section
abbrev A_100:List Ty:=[(.arr 32 (.int .u8)),(.arr 32 (.int .u8))]
abbrev R_100:List Ty:=[(.arr 32 (.int .u8))]
noncomputable def sm_100:Nat->Option Summ:=smL [(116,s_116)]
noncomputable def F_100(a0 a1:(List Int)):Option ((List Int)×Unit) :=
 gd (room (1+length (take 32 (drop 0 a0))) 1) (gd (room (length ([255]++take 32 (drop 0 a0))+length (take 32 (drop 0 a1))) 1) (gd (p_116 ([255]++take 32 (drop 0 a0)++take 32 (drop 0 a1))) (some ((v_116 ([255]++take 32 (drop 0 a0)++take 32 (drop 0 a1))).1,PUnit.unit))))
noncomputable def Sp.p_100(a0 a1:(List Int)):Bool:=(F_100 a0 a1).isSome
noncomputable def Sp.v_100(a0 a1:(List Int)):(List Int)×Unit:=(F_100 a0 a1).getD (dfH R_100)
noncomputable def s_100:Summ:=shN A_100 R_100 (fun x=>p_100 x.1 x.2.1) (fun x=>v_100 x.1 x.2.1)
theorem pv_100(a0 a1:(List Int)){y:(List Int)×Unit}(h:F_100 a0 a1=some y):p_100 a0 a1=true/\v_100 a0 a1=y:=pvG h
theorem run_100(x:HDen A_100)(y:HDen R_100)(h:F_100 x.1 x.2.1=some y):rnF sm_100 1 100 A_100 R_100 x y:=runG noO_ok (os:=[]) trivial (Eq.trans (by kernel_rfl) h)
end
noncomputable section
abbrev Zt57_0:Type:=Int×List (List Int)×List (List Int)×Unit
abbrev Zy57_1:Ty:=(.pair (.int .i64) (.pair (.slice (.arr 32 (.int .u8))) (.pair (.slice (.arr 32 (.int .u8))) .unit)))
abbrev A_57:List Ty:=[(.arr 32 (.int .u8)),(.arr 32 (.int .u8)),(.pair (.int .i64) (.pair (.slice (.arr 32 (.int .u8))) (.pair (.slice (.arr 32 (.int .u8))) .unit)))]
abbrev R_57:List Ty:=[.bool]
noncomputable def sm_57:Nat->Option Summ:=smL [(95,s_95),(97,s_97),(98,s_98),(99,s_99),(100,s_100)]
noncomputable def T_57_0:PS:=⟨70,[(3,.kc (.ptr 0 [])),(5,.kc (.ptr 1 [])),(7,.hv (.slice (.int .i64))),(8,.kc (.whole 2)),(9,.hv (.int .i64))],[.mem (.hv (.arr 32 (.int .u8))),.mem (.hv Zy57_1),.vec 23 (.arr 32 (.int .u8))],0⟩
inductive Sp.E_57_0 where
 |e0 (p2:List Int) (p3:Zt57_0) (p4:List (List Int))
noncomputable def Sp.B_57_0{R:Type}(r:Option E_57_0)(k0:List Int->Zt57_0->List (List Int)->Option R):Option R:=match r with
 |none=>none
 |some (.e0 p2 p3 p4)=>k0 p2 p3 p4
noncomputable def Y_57_0{R:Type}(k:Ex->St->Option R):E_57_0->Option R
 | .e0 p2 p3 p4=>k (Ex.exit 0) (sx 70 [(3,CV.ptr 0 []),(5,CV.ptr 1 []),(8,CV.whole 2)] [Blk.mem (CV.pure (Ty.arr 32 (Ty.int u8)) p2),Blk.mem (CV.pure (Ty.pair (Ty.int i64) (Ty.pair (Ty.slice (Ty.arr 32 (Ty.int u8))) (Ty.pair (Ty.slice (Ty.arr 32 (Ty.int u8))) Ty.unit))) p3),Blk.vec 23 (Ty.arr 32 (Ty.int u8)) p4])
noncomputable def Sp.S_57_0{R:Type}(K:List Int->Int->List Int->(Int×List (List Int)×List (List Int)×Unit)->List (List Int)->Option R)(k:E_57_0->Option R)(p0:List Int)(p1:Int)(p2:List Int)(p3:Int×List (List Int)×List (List Int)×Unit)(p4:List (List Int)):Option R:=
 bif decide (p1<67)then gd (inB p1 (length (p3.2.1))) (gd (inB p1 (length p0)) (gd (p_98 (getD (p3.2.1) (toNat p1) (Ty.dflt (Ty.arr 32 (Ty.int u8)))) (getD p0 (toNat p1) 0) 15) (gd (room (length p4+1) 32) (K p0 (wrap i64 (p1+1)) p2 p3 (p4++[(v_98 (getD (p3.2.1) (toNat p1) (Ty.dflt (Ty.arr 32 (Ty.int u8)))) (getD p0 (toNat p1) 0) 15).1])))))else k (E_57_0.e0 p2 p3 p4)
noncomputable def Sp.L_57_0:Nat->List Int->Int->List Int->(Int×List (List Int)×List (List Int)×Unit)->List (List Int)->Option E_57_0
 |0,_,_,_,_,_=>none
 |m+1,p0,p1,p2,p3,p4=>S_57_0 (L_57_0 m) some p0 p1 p2 p3 p4
noncomputable def l_57_0(m:Nat)(a:T_57_0.E):Option E_57_0:=L_57_0 m a.1 a.2.1 a.2.2.1 a.2.2.2.1 a.2.2.2.2.1
noncomputable def O_57_0{R:Type}:Orc R:=orL T_57_0 (l_57_0 FU) Y_57_0
theorem OK_57_0{R:Type}:okF (R:=R) sm_57 0 (nf 57 0) O_57_0:=lp0 T_57_0 l_57_0 (fun R K k a=>S_57_0 (fun p0 p1 p2 p3 p4=>K (p0,p1,p2,p3,p4,())) k a.1 a.2.1 a.2.2.1 a.2.2.2.1 a.2.2.2.2.1) Y_57_0 (fun _ _ _=>by kernel_rfl) (fun _ _ _=>by
 unfold S_57_0
 repeat' first|apply gdN|apply condN|rfl) (ok0 _)
noncomputable def T_57_1:PS:=⟨70,[(3,.kc (.ptr 0 [])),(5,.kc (.ptr 1 [])),(10,.kc (.ptr 2 []))],[.mem (.hv (.arr 32 (.int .u8))),.mem (.hv Zy57_1),.mem (.hv (.arr 32 (.int .u8)))],0⟩
inductive Sp.E_57_1 where
 |e0 (p0:List Int) (p1:Zt57_0) (p2:List Int)
 |e1 (p0:List Int) (p1:Zt57_0) (p2:List Int)
noncomputable def Sp.B_57_1{R:Type}(r:Option E_57_1)(k0 k1:List Int->Zt57_0->List Int->Option R):Option R:=match r with
 |none=>none
 |some (.e0 p0 p1 p2)=>k0 p0 p1 p2
 |some (.e1 p0 p1 p2)=>k1 p0 p1 p2
noncomputable def Y_57_1{R:Type}(k:Ex->St->Option R):E_57_1->Option R
 | .e0 p0 p1 p2=>k Ex.ret (sx 70 [(6,CV.bool (Ty.beq (Ty.arr 32 (Ty.int u8)) ((v_100 (getD (p1.2.2.1) 1 (Ty.dflt (Ty.arr 32 (Ty.int u8)))) p2).1) p0))] [])
 | .e1 p0 p1 p2=>k Ex.ret (sx 70 [(6,CV.bool (Ty.beq (Ty.arr 32 (Ty.int u8)) ((v_100 p2 (getD (p1.2.2.1) 1 (Ty.dflt (Ty.arr 32 (Ty.int u8))))).1) p0))] [])
noncomputable def Sp.S_57_1{R:Type}(k:E_57_1->Option R)(p0:List Int)(p1:Int×List (List Int)×List (List Int)×Unit)(p2:List Int):Option R:=
 bif wrap i64 (Int.tdiv (p1.1) 2)==1 then gd (inB 1 (length (p1.2.2.1))) (gd (p_100 (getD (p1.2.2.1) 1 (Ty.dflt (Ty.arr 32 (Ty.int u8)))) p2) (k (E_57_1.e0 p0 p1 p2)))else gd (inB 1 (length (p1.2.2.1))) (gd (p_100 p2 (getD (p1.2.2.1) 1 (Ty.dflt (Ty.arr 32 (Ty.int u8))))) (k (E_57_1.e1 p0 p1 p2)))
noncomputable def Sp.J_57_1(p0:List Int)(p1:Int×List (List Int)×List (List Int)×Unit)(p2:List Int):Option E_57_1:=S_57_1 some p0 p1 p2
noncomputable def O_57_1{R:Type}:Orc R:=orL T_57_1 (fun a=>J_57_1 a.1 a.2.1 a.2.2.1) Y_57_1
theorem OK_57_1{R:Type}:okF (R:=R) sm_57 0 (nf 57 1) O_57_1:=jp noO_ok (os:=[]) trivial T_57_1 (fun R k a=>S_57_1 k a.1 a.2.1 a.2.2.1) Y_57_1 (fun k a=>by kernel_rfl) (fun Y a=>by
 unfold S_57_1
 repeat' first|apply gdN|apply condN|rfl) (ok0 _)
noncomputable def F_57(a0 a1:(List Int))(a2:(Int×((List (List Int))×((List (List Int))×Unit)))):Option (Bool×Unit) :=
 gd (p_95 a2) (bif !(v_95 a2).1 then some (false,PUnit.unit)else gd (p_97 a1) (B_57_0 (L_57_0 4611686018427387904 ((v_97 a1).1) 0 a0 a2 []) fun y15 y16 y17=>gd (p_99 y17) (bif Int.tmod (y16.1) (2:Int)==(1:Int)then gd (inB 0 (length (y16.2.2.1))) (gd (p_100 (getD (y16.2.2.1) 0 (Ty.dflt (Ty.arr 32 (Ty.int u8)))) ((v_99 y17).1)) (B_57_1 (J_57_1 y15 y16 ((v_100 (getD (y16.2.2.1) 0 (Ty.dflt (Ty.arr 32 (Ty.int u8)))) ((v_99 y17).1)).1)) (fun y18 y19 y20=>some (Ty.beq (Ty.arr 32 (Ty.int u8)) ((v_100 (getD (y19.2.2.1) 1 (Ty.dflt (Ty.arr 32 (Ty.int u8)))) y20).1) y18,PUnit.unit)) fun y21 y22 y23=>some (Ty.beq (Ty.arr 32 (Ty.int u8)) ((v_100 y23 (getD (y22.2.2.1) 1 (Ty.dflt (Ty.arr 32 (Ty.int u8))))).1) y21,PUnit.unit)))else gd (inB 0 (length (y16.2.2.1))) (gd (p_100 ((v_99 y17).1) (getD (y16.2.2.1) 0 (Ty.dflt (Ty.arr 32 (Ty.int u8))))) (B_57_1 (J_57_1 y15 y16 ((v_100 ((v_99 y17).1) (getD (y16.2.2.1) 0 (Ty.dflt (Ty.arr 32 (Ty.int u8))))).1)) (fun y24 y25 y26=>some (Ty.beq (Ty.arr 32 (Ty.int u8)) ((v_100 (getD (y25.2.2.1) 1 (Ty.dflt (Ty.arr 32 (Ty.int u8)))) y26).1) y24,PUnit.unit)) fun y27 y28 y29=>some (Ty.beq (Ty.arr 32 (Ty.int u8)) ((v_100 y29 (getD (y28.2.2.1) 1 (Ty.dflt (Ty.arr 32 (Ty.int u8))))).1) y27,PUnit.unit))))))
noncomputable def Sp.p_57(a0 a1:(List Int))(a2:(Int×((List (List Int))×((List (List Int))×Unit)))):Bool:=(F_57 a0 a1 a2).isSome
noncomputable def Sp.v_57(a0 a1:(List Int))(a2:(Int×((List (List Int))×((List (List Int))×Unit)))):Bool×Unit:=(F_57 a0 a1 a2).getD (dfH R_57)
noncomputable def s_57:Summ:=shN A_57 R_57 (fun x=>p_57 x.1 x.2.1 x.2.2.1) (fun x=>v_57 x.1 x.2.1 x.2.2.1)
theorem pv_57(a0 a1:(List Int))(a2:(Int×((List (List Int))×((List (List Int))×Unit)))){y:Bool×Unit}(h:F_57 a0 a1 a2=some y):p_57 a0 a1 a2=true/\v_57 a0 a1 a2=y:=pvG h
theorem run_57(x:HDen A_57)(y:HDen R_57)(h:F_57 x.1 x.2.1 x.2.2.1=some y):rnF sm_57 1 57 A_57 R_57 x y:=runG noO_ok (os:=[O_57_0,O_57_1]) ⟨OK_57_0,OK_57_1,trivial⟩ (Eq.trans (by kernel_rfl) h)
end
noncomputable section
abbrev A_107:List Ty:=[(.int .i64)]
abbrev R_107:List Ty:=[.bool]
noncomputable def sm_107:Nat->Option Summ:=smL []
noncomputable def F_107(a0:Int):Option (Bool×Unit) :=
 bif a0==0 then some (true,PUnit.unit)else some (a0==1,PUnit.unit)
noncomputable def Sp.p_107(a0:Int):Bool:=(F_107 a0).isSome
noncomputable def Sp.v_107(a0:Int):Bool×Unit:=(F_107 a0).getD (dfH R_107)
noncomputable def s_107:Summ:=shN A_107 R_107 (fun x=>p_107 x.1) (fun x=>v_107 x.1)
theorem pv_107(a0:Int){y:Bool×Unit}(h:F_107 a0=some y):p_107 a0=true/\v_107 a0=y:=pvG h
theorem run_107(x:HDen A_107)(y:HDen R_107)(h:F_107 x.1=some y):rnF sm_107 1 107 A_107 R_107 x y:=runG noO_ok (os:=[]) trivial (Eq.trans (by kernel_rfl) h)
end
noncomputable section
abbrev A_113:List Ty:=[(.slice (.int .u32))]
abbrev R_113:List Ty:=[(.arr 32 (.int .u8))]
noncomputable def sm_113:Nat->Option Summ:=smL []
noncomputable def T_113_1:PS:=⟨29,[(0,.hv (.slice (.int .u32))),(2,.kc (.ptr 0 [])),(3,.kc (.ptr 1 [])),(4,.hv (.int .i64)),(5,.hv (.int .i64))],[.mem (.hv (.arr 32 (.int .u8))),.mem (.hv (.arr 32 (.int .u8)))],0⟩
inductive Sp.E_113_1 where
 |e0 (p0:List Int) (p1:Int) (p3 p4:List Int)
noncomputable def Sp.B_113_1{R:Type}(r:Option E_113_1)(k0:List Int->Int->List Int->List Int->Option R):Option R:=match r with
 |none=>none
 |some (.e0 p0 p1 p3 p4)=>k0 p0 p1 p3 p4
theorem Bn_113_1{A R:Type}{r:Option E_113_1}{f:A->Option R}{k0:List Int->Int->List Int->List Int->Option A}{l0:List Int->Int->List Int->List Int->Option R}(h0:∀p0 p1 p3 p4,(k0 p0 p1 p3 p4).bind f=l0 p0 p1 p3 p4):(B_113_1 r k0).bind f=B_113_1 r l0:=by
 cases r with
 |none=>rfl
 |some e=>cases e<;>first|apply h0
noncomputable def Y_113_1{R:Type}(k:Ex->St->Option R):E_113_1->Option R
 | .e0 p0 p1 p3 p4=>k (Ex.exit 2) (sx 29 [(0,CV.pure (Ty.slice (Ty.int u32)) p0),(2,CV.ptr 0 []),(3,CV.ptr 1 []),(4,CV.int i64 p1)] [Blk.mem (CV.pure (Ty.arr 32 (Ty.int u8)) p3),Blk.mem (CV.pure (Ty.arr 32 (Ty.int u8)) p4)])
noncomputable def Sp.S_113_1{R:Type}(K:List Int->Int->Int->List Int->List Int->Option R)(k:E_113_1->Option R)(p0:List Int)(p1 p2:Int)(p3 p4:List Int):Option R:=
 bif decide (p2<4)then gd (inB p1 (length p0)) (gd (decide (0<=wrap i64 (24-wrap i64 (8*p2)))) (gd (inB (wrap i64 (wrap i64 (4*p1)+p2)) 32) (gd (decide (toNat (wrap i64 (wrap i64 (4*p1)+p2))<32)&&true) (K p0 p1 (wrap i64 (p2+1)) p3 (List.set p4 (toNat (wrap i64 (wrap i64 (4*p1)+p2))) (wrap u8 (Int.fdiv (getD p0 (toNat p1) 0) (2^Nat.min (toNat (wrap i64 (24-wrap i64 (8*p2)))) 32))))))))else k (E_113_1.e0 p0 p1 p3 p4)
noncomputable def Sp.L_113_1:Nat->List Int->Int->Int->List Int->List Int->Option E_113_1
 |0,_,_,_,_,_=>none
 |m+1,p0,p1,p2,p3,p4=>S_113_1 (L_113_1 m) some p0 p1 p2 p3 p4
noncomputable def l_113_1(m:Nat)(a:T_113_1.E):Option E_113_1:=L_113_1 m a.1 a.2.1 a.2.2.1 a.2.2.2.1 a.2.2.2.2.1
noncomputable def O_113_1{R:Type}:Orc R:=orL T_113_1 (l_113_1 FU) Y_113_1
theorem OK_113_1{R:Type}:okF (R:=R) sm_113 0 (ni (nf 113 0) 0) O_113_1:=lp0 T_113_1 l_113_1 (fun R K k a=>S_113_1 (fun p0 p1 p2 p3 p4=>K (p0,p1,p2,p3,p4,())) k a.1 a.2.1 a.2.2.1 a.2.2.2.1 a.2.2.2.2.1) Y_113_1 (fun _ _ _=>by kernel_rfl) (fun _ _ _=>by
 unfold S_113_1
 repeat' first|apply gdN|apply condN|rfl) (ok0 _)
noncomputable def T_113_0:PS:=⟨29,[(0,.hv (.slice (.int .u32))),(2,.kc (.ptr 0 [])),(3,.kc (.ptr 1 [])),(4,.hv (.int .i64))],[.mem (.hv (.arr 32 (.int .u8))),.mem (.hv (.arr 32 (.int .u8)))],0⟩
inductive Sp.E_113_0 where
 |e0 (p2 p3:List Int)
noncomputable def Sp.B_113_0{R:Type}(r:Option E_113_0)(k0:List Int->List Int->Option R):Option R:=match r with
 |none=>none
 |some (.e0 p2 p3)=>k0 p2 p3
noncomputable def Y_113_0{R:Type}(k:Ex->St->Option R):E_113_0->Option R
 | .e0 p2 p3=>k (Ex.exit 0) (sx 29 [(2,CV.ptr 0 []),(3,CV.ptr 1 [])] [Blk.mem (CV.pure (Ty.arr 32 (Ty.int u8)) p2),Blk.mem (CV.pure (Ty.arr 32 (Ty.int u8)) p3)])
noncomputable def Sp.S_113_0{R:Type}(K:List Int->Int->List Int->List Int->Option R)(k:E_113_0->Option R)(p0:List Int)(p1:Int)(p2 p3:List Int):Option R:=
 bif decide (p1<8)then B_113_1 (L_113_1 4611686018427387904 p0 p1 0 p2 p3) fun y4 y5 y6 y7=>K y4 (wrap i64 (y5+1)) y6 y7 else k (E_113_0.e0 p2 p3)
noncomputable def Sp.L_113_0:Nat->List Int->Int->List Int->List Int->Option E_113_0
 |0,_,_,_,_=>none
 |m+1,p0,p1,p2,p3=>S_113_0 (L_113_0 m) some p0 p1 p2 p3
noncomputable def l_113_0(m:Nat)(a:T_113_0.E):Option E_113_0:=L_113_0 m a.1 a.2.1 a.2.2.1 a.2.2.2.1
noncomputable def O_113_0{R:Type}:Orc R:=orL T_113_0 (l_113_0 FU) Y_113_0
theorem OK_113_0{R:Type}:okF (R:=R) sm_113 0 (nf 113 0) O_113_0:=lp noO_ok (os:=[O_113_1]) ⟨OK_113_1,trivial⟩ T_113_0 l_113_0 (fun R K k a=>S_113_0 (fun p0 p1 p2 p3=>K (p0,p1,p2,p3,())) k a.1 a.2.1 a.2.2.1 a.2.2.2.1) Y_113_0 (fun _=>rfl) (fun _ _=>rfl) (fun k K a=>by kernel_rfl) (fun Y K a=>by
 unfold S_113_0
 repeat' first|apply gdN|apply condN|(apply Bn_113_1<;>intros)|rfl) (ok0 _)
noncomputable def F_113(a0:(List Int)):Option ((List Int)×Unit) :=
 B_113_0 (L_113_0 4611686018427387904 a0 0 (replicate 32 (0:Int)) (replicate 32 (0:Int))) fun y2 y3=>some (y3,PUnit.unit)
noncomputable def Sp.p_113(a0:(List Int)):Bool:=(F_113 a0).isSome
noncomputable def Sp.v_113(a0:(List Int)):(List Int)×Unit:=(F_113 a0).getD (dfH R_113)
noncomputable def s_113:Summ:=shN A_113 R_113 (fun x=>p_113 x.1) (fun x=>v_113 x.1)
theorem pv_113(a0:(List Int)){y:(List Int)×Unit}(h:F_113 a0=some y):p_113 a0=true/\v_113 a0=y:=pvG h
theorem run_113(x:HDen A_113)(y:HDen R_113)(h:F_113 x.1=some y):rnF sm_113 1 113 A_113 R_113 x y:=runG noO_ok (os:=[O_113_0]) ⟨OK_113_0,trivial⟩ (Eq.trans (by kernel_rfl) h)
end
noncomputable section
abbrev Zt114_0:Type:=List (List Int)
abbrev A_114:List Ty:=[(.slice (.int .u32))]
abbrev R_114:List Ty:=[(.pair (.int .i64) (.pair (.slice (.arr 32 (.int .u8))) (.pair (.slice (.arr 32 (.int .u8))) .unit))),.bool]
noncomputable def sm_114:Nat->Option Summ:=smL []
noncomputable def T_114_1:PS:=⟨64,[(0,.hv (.slice (.int .u32))),(2,.kc (.ptr 0 [])),(4,.kc (.ptr 3 [])),(5,.hv (.int .i64)),(6,.kc (.ptr 6 [])),(7,.hv (.int .i64))],[.mem (.pr (.hv (.int .i64)) (.kc (.pair (.whole 1) (.pair (.whole 2) (.pure .unit PUnit.unit))))),.vec 23 (.arr 32 (.int .u8)),.vec 23 (.arr 32 (.int .u8)),.mem (.pr (.hv (.int .i64)) (.kc (.pair (.whole 4) (.pair (.whole 5) (.pure .unit PUnit.unit))))),.vec 23 (.arr 32 (.int .u8)),.vec 23 (.arr 32 (.int .u8)),.mem (.hv (.arr 32 (.int .u8)))],0⟩
inductive Sp.E_114_1 where
 |e0 (p0:List Int) (p1 p3:Int) (p4 p5:Zt114_0) (p6:Int) (p7 p8:Zt114_0) (p9:List Int)
noncomputable def Sp.B_114_1{R:Type}(r:Option E_114_1)(k0:List Int->Int->Int->Zt114_0->Zt114_0->Int->Zt114_0->Zt114_0->List Int->Option R):Option R:=match r with
 |none=>none
 |some (.e0 p0 p1 p3 p4 p5 p6 p7 p8 p9)=>k0 p0 p1 p3 p4 p5 p6 p7 p8 p9
theorem Bn_114_1{A R:Type}{r:Option E_114_1}{f:A->Option R}{k0:List Int->Int->Int->Zt114_0->Zt114_0->Int->Zt114_0->Zt114_0->List Int->Option A}{l0:List Int->Int->Int->Zt114_0->Zt114_0->Int->Zt114_0->Zt114_0->List Int->Option R}(h0:∀p0 p1 p3 p4 p5 p6 p7 p8 p9,(k0 p0 p1 p3 p4 p5 p6 p7 p8 p9).bind f=l0 p0 p1 p3 p4 p5 p6 p7 p8 p9):(B_114_1 r k0).bind f=B_114_1 r l0:=by
 cases r with
 |none=>rfl
 |some e=>cases e<;>first|apply h0
noncomputable def Y_114_1{R:Type}(k:Ex->St->Option R):E_114_1->Option R
 | .e0 p0 p1 p3 p4 p5 p6 p7 p8 p9=>k (Ex.exit 2) (sx 64 [(0,CV.pure (Ty.slice (Ty.int u32)) p0),(2,CV.ptr 0 []),(4,CV.ptr 3 []),(5,CV.int i64 p1),(6,CV.ptr 6 [])] [Blk.mem (CV.pair (CV.int i64 p3) (CV.pair (CV.whole 1) (CV.pair (CV.whole 2) (CV.pure Ty.unit PUnit.unit)))),Blk.vec 23 (Ty.arr 32 (Ty.int u8)) p4,Blk.vec 23 (Ty.arr 32 (Ty.int u8)) p5,Blk.mem (CV.pair (CV.int i64 p6) (CV.pair (CV.whole 4) (CV.pair (CV.whole 5) (CV.pure Ty.unit PUnit.unit)))),Blk.vec 23 (Ty.arr 32 (Ty.int u8)) p7,Blk.vec 23 (Ty.arr 32 (Ty.int u8)) p8,Blk.mem (CV.pure (Ty.arr 32 (Ty.int u8)) p9)])
noncomputable def Sp.S_114_1{R:Type}(K:List Int->Int->Int->Int->List (List Int)->List (List Int)->Int->List (List Int)->List (List Int)->List Int->Option R)(k:E_114_1->Option R)(p0:List Int)(p1 p2 p3:Int)(p4 p5:List (List Int))(p6:Int)(p7 p8:List (List Int))(p9:List Int):Option R:=
 bif decide (p2<32)then gd (inB (wrap i64 (wrap i64 (1+wrap i64 (8*p1))+wrap i64 (Int.tdiv p2 4))) (length p0)) (gd (decide (0<=wrap u64 (wrap i64 (24-wrap i64 (Int.tmod p2 (4:Int)*(8:Int)))))) (gd (inB p2 32) (gd (decide (toNat p2<32)&&true) (K p0 p1 (wrap i64 (p2+1)) p3 p4 p5 p6 p7 p8 (List.set p9 (toNat p2) (wrap u8 (Int.fdiv (getD p0 (toNat (wrap i64 (wrap i64 (1+wrap i64 (8*p1))+wrap i64 (Int.tdiv p2 4)))) 0) (2^Nat.min (toNat (wrap u64 (wrap i64 (24-wrap i64 (Int.tmod p2 (4:Int)*(8:Int)))))) 32))))))))else k (E_114_1.e0 p0 p1 p3 p4 p5 p6 p7 p8 p9)
noncomputable def Sp.L_114_1:Nat->List Int->Int->Int->Int->List (List Int)->List (List Int)->Int->List (List Int)->List (List Int)->List Int->Option E_114_1
 |0,_,_,_,_,_,_,_,_,_,_=>none
 |m+1,p0,p1,p2,p3,p4,p5,p6,p7,p8,p9=>S_114_1 (L_114_1 m) some p0 p1 p2 p3 p4 p5 p6 p7 p8 p9
noncomputable def l_114_1(m:Nat)(a:T_114_1.E):Option E_114_1:=L_114_1 m a.1 a.2.1 a.2.2.1 a.2.2.2.1 a.2.2.2.2.1 a.2.2.2.2.2.1 a.2.2.2.2.2.2.1 a.2.2.2.2.2.2.2.1 a.2.2.2.2.2.2.2.2.1 a.2.2.2.2.2.2.2.2.2.1
noncomputable def O_114_1{R:Type}:Orc R:=orL T_114_1 (l_114_1 FU) Y_114_1
theorem OK_114_1{R:Type}:okF (R:=R) sm_114 0 (ni (nf 114 0) 0) O_114_1:=lp0 T_114_1 l_114_1 (fun R K k a=>S_114_1 (fun p0 p1 p2 p3 p4 p5 p6 p7 p8 p9=>K (p0,p1,p2,p3,p4,p5,p6,p7,p8,p9,())) k a.1 a.2.1 a.2.2.1 a.2.2.2.1 a.2.2.2.2.1 a.2.2.2.2.2.1 a.2.2.2.2.2.2.1 a.2.2.2.2.2.2.2.1 a.2.2.2.2.2.2.2.2.1 a.2.2.2.2.2.2.2.2.2.1) Y_114_1 (fun _ _ _=>by kernel_rfl) (fun _ _ _=>by
 unfold S_114_1
 repeat' first|apply gdN|apply condN|rfl) (ok0 _)
noncomputable def T_114_0:PS:=⟨64,[(0,.hv (.slice (.int .u32))),(2,.kc (.ptr 0 [])),(4,.kc (.ptr 3 [])),(5,.hv (.int .i64))],[.mem (.pr (.hv (.int .i64)) (.kc (.pair (.whole 1) (.pair (.whole 2) (.pure .unit PUnit.unit))))),.vec 23 (.arr 32 (.int .u8)),.vec 23 (.arr 32 (.int .u8)),.mem (.pr (.hv (.int .i64)) (.kc (.pair (.whole 4) (.pair (.whole 5) (.pure .unit PUnit.unit))))),.vec 23 (.arr 32 (.int .u8)),.vec 23 (.arr 32 (.int .u8))],0⟩
inductive Sp.E_114_0 where
 |e0 (p2:Int) (p3 p4:Zt114_0) (p5:Int) (p6 p7:Zt114_0)
noncomputable def Sp.B_114_0{R:Type}(r:Option E_114_0)(k0:Int->Zt114_0->Zt114_0->Int->Zt114_0->Zt114_0->Option R):Option R:=match r with
 |none=>none
 |some (.e0 p2 p3 p4 p5 p6 p7)=>k0 p2 p3 p4 p5 p6 p7
noncomputable def Y_114_0{R:Type}(k:Ex->St->Option R):E_114_0->Option R
 | .e0 p2 p3 p4 p5 p6 p7=>k (Ex.exit 0) (sx 64 [(2,CV.ptr 0 []),(4,CV.ptr 3 [])] [Blk.mem (CV.pair (CV.int i64 p2) (CV.pair (CV.whole 1) (CV.pair (CV.whole 2) (CV.pure Ty.unit PUnit.unit)))),Blk.vec 23 (Ty.arr 32 (Ty.int u8)) p3,Blk.vec 23 (Ty.arr 32 (Ty.int u8)) p4,Blk.mem (CV.pair (CV.int i64 p5) (CV.pair (CV.whole 4) (CV.pair (CV.whole 5) (CV.pure Ty.unit PUnit.unit)))),Blk.vec 23 (Ty.arr 32 (Ty.int u8)) p6,Blk.vec 23 (Ty.arr 32 (Ty.int u8)) p7])
noncomputable def Sp.S_114_0{R:Type}(K:List Int->Int->Int->List (List Int)->List (List Int)->Int->List (List Int)->List (List Int)->Option R)(k:E_114_0->Option R)(p0:List Int)(p1 p2:Int)(p3 p4:List (List Int))(p5:Int)(p6 p7:List (List Int)):Option R:=
 bif decide (p1<69)then B_114_1 (L_114_1 4611686018427387904 p0 p1 0 p2 p3 p4 p5 p6 p7 (replicate 32 (0:Int))) fun y9 y10 y11 y12 y13 y14 y15 y16 y17=>bif decide (y10<67)then gd (room (length y15+1) 32) (K y9 (wrap i64 (y10+1)) y11 y12 y13 y14 (y15++[y17]) y16)else gd (room (length y16+1) 32) (K y9 (wrap i64 (y10+1)) y11 y12 y13 y14 y15 (y16++[y17]))else k (E_114_0.e0 p2 p3 p4 p5 p6 p7)
noncomputable def Sp.L_114_0:Nat->List Int->Int->Int->List (List Int)->List (List Int)->Int->List (List Int)->List (List Int)->Option E_114_0
 |0,_,_,_,_,_,_,_,_=>none
 |m+1,p0,p1,p2,p3,p4,p5,p6,p7=>S_114_0 (L_114_0 m) some p0 p1 p2 p3 p4 p5 p6 p7
noncomputable def l_114_0(m:Nat)(a:T_114_0.E):Option E_114_0:=L_114_0 m a.1 a.2.1 a.2.2.1 a.2.2.2.1 a.2.2.2.2.1 a.2.2.2.2.2.1 a.2.2.2.2.2.2.1 a.2.2.2.2.2.2.2.1
noncomputable def O_114_0{R:Type}:Orc R:=orL T_114_0 (l_114_0 FU) Y_114_0
theorem OK_114_0{R:Type}:okF (R:=R) sm_114 0 (nf 114 0) O_114_0:=lp noO_ok (os:=[O_114_1]) ⟨OK_114_1,trivial⟩ T_114_0 l_114_0 (fun R K k a=>S_114_0 (fun p0 p1 p2 p3 p4 p5 p6 p7=>K (p0,p1,p2,p3,p4,p5,p6,p7,())) k a.1 a.2.1 a.2.2.1 a.2.2.2.1 a.2.2.2.2.1 a.2.2.2.2.2.1 a.2.2.2.2.2.2.1 a.2.2.2.2.2.2.2.1) Y_114_0 (fun _=>rfl) (fun _ _=>rfl) (fun k K a=>by kernel_rfl) (fun Y K a=>by
 unfold S_114_0
 repeat' first|apply gdN|apply condN|(apply Bn_114_1<;>intros)|rfl) (ok0 _)
noncomputable def F_114(a0:(List Int)):Option ((Int×((List (List Int))×((List (List Int))×Unit)))×Bool×Unit) :=
 bif(↑(length a0):Int)!=553 then some ((0,[],[],PUnit.unit),false,PUnit.unit)else gd (inB 0 (length a0)) (bif decide (getD a0 0 (0:Int)>(3:Int))then some ((0,[],[],PUnit.unit),false,PUnit.unit)else gd (inB 0 (length a0)) (B_114_0 (L_114_0 4611686018427387904 a0 0 0 [] [] (wrap i64 (getD a0 0 0)) [] []) fun y6 y7 y8 y9 y10 y11=>some ((y9,y10,y11,PUnit.unit),true,PUnit.unit)))
noncomputable def Sp.p_114(a0:(List Int)):Bool:=(F_114 a0).isSome
noncomputable def Sp.v_114(a0:(List Int)):(Int×((List (List Int))×((List (List Int))×Unit)))×Bool×Unit:=(F_114 a0).getD (dfH R_114)
noncomputable def s_114:Summ:=shS A_114 R_114 (fun x=>p_114 x.1) (fun x=>v_114 x.1)
theorem pv_114(a0:(List Int)){y:(Int×((List (List Int))×((List (List Int))×Unit)))×Bool×Unit}(h:F_114 a0=some y):p_114 a0=true/\v_114 a0=y:=pvG h
theorem run_114(x:HDen A_114)(y:HDen R_114)(h:F_114 x.1=some y):rnF sm_114 1 114 A_114 R_114 x y:=runG noO_ok (os:=[O_114_0]) ⟨OK_114_0,trivial⟩ (Eq.trans (by kernel_rfl) h)
end
noncomputable section
abbrev A_77:List Ty:=[(.pair (.pair (.slice (.int .u32)) (.pair (.slice (.int .i64)) (.pair (.int .i64) .unit))) (.pair (.arr 32 (.int .u8)) .unit)),(.int .i64)]
abbrev R_77:List Ty:=[(.pair (.int .i64) (.pair (.int .i64) (.pair (.arr 32 (.int .u8)) (.pair (.pair (.int .i64) (.pair (.slice (.arr 32 (.int .u8))) (.pair (.slice (.arr 32 (.int .u8))) .unit))) .unit)))),.bool]
noncomputable def sm_77:Nat->Option Summ:=smL [(12,s_12),(30,s_30),(107,s_107),(113,s_113),(114,s_114)]
noncomputable def F_77(a0:(((List Int)×((List Int)×(Int×Unit)))×((List Int)×Unit)))(a1:Int):Option ((Int×(Int×((List Int)×((Int×((List (List Int))×((List (List Int))×Unit)))×Unit))))×Bool×Unit) :=
 gd (p_12 a0) (bif !(v_12 a0).1 then some ((0,0,replicate 32 (0:Int),(0,[],[],PUnit.unit),PUnit.unit),false,PUnit.unit)else gd (p_107 a1) (bif !(v_107 a1).1 then some ((0,0,replicate 32 (0:Int),(0,[],[],PUnit.unit),PUnit.unit),false,PUnit.unit)else gd (p_30 a0 a1) (gd (inB 1 (length ((v_30 a0 a1).1))) (gd (inB 2 (length ((v_30 a0 a1).1))) (gd (sl3 3 11 (↑(length ((v_30 a0 a1).1)):Int)) (gd (p_113 (take 8 (drop 3 ((v_30 a0 a1).1)))) (bif decide (wrap i64 (getD ((v_30 a0 a1).1) 1 0)<1)then some ((0,0,replicate 32 (0:Int),(0,[],[],PUnit.unit),PUnit.unit),false,PUnit.unit)else bif decide (wrap i64 (getD ((v_30 a0 a1).1) 1 0)>=2147483648)then some ((0,0,replicate 32 (0:Int),(0,[],[],PUnit.unit),PUnit.unit),false,PUnit.unit)else bif decide (wrap i64 (getD ((v_30 a0 a1).1) 2 0)<1)then some ((0,0,replicate 32 (0:Int),(0,[],[],PUnit.unit),PUnit.unit),false,PUnit.unit)else bif decide (wrap i64 (getD ((v_30 a0 a1).1) 2 0)>wrap i64 ((↑(length ((v_30 a0 a1).1)):Int)-564))then some ((0,0,replicate 32 (0:Int),(0,[],[],PUnit.unit),PUnit.unit),false,PUnit.unit)else gd (sl3 11 564 (↑(length ((v_30 a0 a1).1)):Int)) (gd (p_114 (take 553 (drop 11 ((v_30 a0 a1).1)))) (bif !(v_114 (take 553 (drop 11 ((v_30 a0 a1).1)))).2.1 then some ((0,0,replicate 32 (0:Int),(0,[],[],PUnit.unit),PUnit.unit),false,PUnit.unit)else some ((wrap i64 (getD ((v_30 a0 a1).1) 1 0),wrap i64 (getD ((v_30 a0 a1).1) 2 0),(v_113 (take 8 (drop 3 ((v_30 a0 a1).1)))).1,(v_114 (take 553 (drop 11 ((v_30 a0 a1).1)))).1,PUnit.unit),true,PUnit.unit))))))))))
noncomputable def Sp.p_77(a0:(((List Int)×((List Int)×(Int×Unit)))×((List Int)×Unit)))(a1:Int):Bool:=(F_77 a0 a1).isSome
noncomputable def Sp.v_77(a0:(((List Int)×((List Int)×(Int×Unit)))×((List Int)×Unit)))(a1:Int):(Int×(Int×((List Int)×((Int×((List (List Int))×((List (List Int))×Unit)))×Unit))))×Bool×Unit:=(F_77 a0 a1).getD (dfH R_77)
noncomputable def s_77:Summ:=shS A_77 R_77 (fun x=>p_77 x.1 x.2.1) (fun x=>v_77 x.1 x.2.1)
theorem pv_77(a0:(((List Int)×((List Int)×(Int×Unit)))×((List Int)×Unit)))(a1:Int){y:(Int×(Int×((List Int)×((Int×((List (List Int))×((List (List Int))×Unit)))×Unit))))×Bool×Unit}(h:F_77 a0 a1=some y):p_77 a0 a1=true/\v_77 a0 a1=y:=pvG h
theorem run_77(x:HDen A_77)(y:HDen R_77)(h:F_77 x.1 x.2.1=some y):rnF sm_77 1 77 A_77 R_77 x y:=runG noO_ok (os:=[]) trivial (Eq.trans (by kernel_rfl) h)
end
noncomputable section
abbrev A_78:List Ty:=[(.int .i64),(.slice (.int .u32))]
abbrev R_78:List Ty:=[(.arr 32 (.int .u8))]
noncomputable def sm_78:Nat->Option Summ:=smL [(116,s_116)]
noncomputable def T_78_115_1_0:PS:=⟨30,[(0,.kc (.whole 2)),(1,.kc (.whole 1)),(5,.hv (.int .i64)),(6,.hv (.int .i64))],[.mem (.hv (.arr 32 (.int .u8))),.vec 37 (.int .u32),.vec 5 (.int .u8)],2⟩
inductive Sp.E_78_115_1_0 where
 |e0 (p0:Int) (p2 p3 p4:List Int)
noncomputable def Sp.B_78_115_1_0{R:Type}(r:Option E_78_115_1_0)(k0:Int->List Int->List Int->List Int->Option R):Option R:=match r with
 |none=>none
 |some (.e0 p0 p2 p3 p4)=>k0 p0 p2 p3 p4
theorem Bn_78_115_1_0{A R:Type}{r:Option E_78_115_1_0}{f:A->Option R}{k0:Int->List Int->List Int->List Int->Option A}{l0:Int->List Int->List Int->List Int->Option R}(h0:∀p0 p2 p3 p4,(k0 p0 p2 p3 p4).bind f=l0 p0 p2 p3 p4):(B_78_115_1_0 r k0).bind f=B_78_115_1_0 r l0:=by
 cases r with
 |none=>rfl
 |some e=>cases e<;>first|apply h0
noncomputable def Y_78_115_1_0{R:Type}(k:Ex->St->Option R):E_78_115_1_0->Option R
 | .e0 p0 p2 p3 p4=>k (Ex.exit 2) (sx 30 [(0,CV.whole 2),(1,CV.whole 1),(5,CV.int i64 p0)] [Blk.mem (CV.pure (Ty.arr 32 (Ty.int u8)) p2),Blk.vec 37 (Ty.int u32) p3,Blk.vec 5 (Ty.int u8) p4] 2)
noncomputable def Sp.S_78_115_1_0{R:Type}(K:Int->Int->List Int->List Int->List Int->Option R)(k:E_78_115_1_0->Option R)(p0 p1:Int)(p2 p3 p4:List Int):Option R:=
 bif decide (p1<4)then gd (inB p0 (length p3)) (gd (decide (toNat p0<length p3)&&true) (gd (decide (0<=wrap i64 (24-wrap i64 (8*p1)))) (gd (room (length p4+1) 1) (K p0 (wrap i64 (p1+1)) p2 p3 (p4++[wrap u8 (Int.fdiv (getD p3 (toNat p0) 0) (2^Nat.min (toNat (wrap i64 (24-wrap i64 (8*p1)))) 32))])))))else k (E_78_115_1_0.e0 p0 p2 p3 p4)
noncomputable def Sp.L_78_115_1_0:Nat->Int->Int->List Int->List Int->List Int->Option E_78_115_1_0
 |0,_,_,_,_,_=>none
 |m+1,p0,p1,p2,p3,p4=>S_78_115_1_0 (L_78_115_1_0 m) some p0 p1 p2 p3 p4
noncomputable def l_78_115_1_0(m:Nat)(a:T_78_115_1_0.E):Option E_78_115_1_0:=L_78_115_1_0 m a.1 a.2.1 a.2.2.1 a.2.2.2.1 a.2.2.2.2.1
noncomputable def O_78_115_1_0{R:Type}:Orc R:=orL T_78_115_1_0 (l_78_115_1_0 FU) Y_78_115_1_0
theorem OK_78_115_1_0{R:Type}:okF (R:=R) sm_78 0 (ni (nf 115 0) 0) O_78_115_1_0:=lp0 T_78_115_1_0 l_78_115_1_0 (fun R K k a=>S_78_115_1_0 (fun p0 p1 p2 p3 p4=>K (p0,p1,p2,p3,p4,())) k a.1 a.2.1 a.2.2.1 a.2.2.2.1 a.2.2.2.2.1) Y_78_115_1_0 (fun _ _ _=>by kernel_rfl) (fun _ _ _=>by
 unfold S_78_115_1_0
 repeat' first|apply gdN|apply condN|rfl) (ok0 _)
noncomputable def T_78_115_1_2:PS:=⟨30,[(0,.kc (.whole 3)),(1,.hv (.slice (.int .u32))),(5,.hv (.int .i64)),(6,.hv (.int .i64))],[.mem (.hv (.arr 32 (.int .u8))),.vec 37 (.int .u32),.dead,.vec 5 (.int .u8)],3⟩
inductive Sp.E_78_115_1_2 where
 |e0 (p0:List Int) (p1:Int) (p3 p4 p5:List Int)
noncomputable def Sp.B_78_115_1_2{R:Type}(r:Option E_78_115_1_2)(k0:List Int->Int->List Int->List Int->List Int->Option R):Option R:=match r with
 |none=>none
 |some (.e0 p0 p1 p3 p4 p5)=>k0 p0 p1 p3 p4 p5
theorem Bn_78_115_1_2{A R:Type}{r:Option E_78_115_1_2}{f:A->Option R}{k0:List Int->Int->List Int->List Int->List Int->Option A}{l0:List Int->Int->List Int->List Int->List Int->Option R}(h0:∀p0 p1 p3 p4 p5,(k0 p0 p1 p3 p4 p5).bind f=l0 p0 p1 p3 p4 p5):(B_78_115_1_2 r k0).bind f=B_78_115_1_2 r l0:=by
 cases r with
 |none=>rfl
 |some e=>cases e<;>first|apply h0
noncomputable def Y_78_115_1_2{R:Type}(k:Ex->St->Option R):E_78_115_1_2->Option R
 | .e0 p0 p1 p3 p4 p5=>k (Ex.exit 2) (sx 30 [(0,CV.whole 3),(1,CV.pure (Ty.slice (Ty.int u32)) p0),(5,CV.int i64 p1)] [Blk.mem (CV.pure (Ty.arr 32 (Ty.int u8)) p3),Blk.vec 37 (Ty.int u32) p4,Blk.dead,Blk.vec 5 (Ty.int u8) p5] 3)
noncomputable def Sp.S_78_115_1_2{R:Type}(K:List Int->Int->Int->List Int->List Int->List Int->Option R)(k:E_78_115_1_2->Option R)(p0:List Int)(p1 p2:Int)(p3 p4 p5:List Int):Option R:=
 bif decide (p2<4)then gd (inB p1 (length p0)) (gd (decide (0<=wrap i64 (24-wrap i64 (8*p2)))) (gd (room (length p5+1) 1) (K p0 p1 (wrap i64 (p2+1)) p3 p4 (p5++[wrap u8 (Int.fdiv (getD p0 (toNat p1) 0) (2^Nat.min (toNat (wrap i64 (24-wrap i64 (8*p2)))) 32))]))))else k (E_78_115_1_2.e0 p0 p1 p3 p4 p5)
noncomputable def Sp.L_78_115_1_2:Nat->List Int->Int->Int->List Int->List Int->List Int->Option E_78_115_1_2
 |0,_,_,_,_,_,_=>none
 |m+1,p0,p1,p2,p3,p4,p5=>S_78_115_1_2 (L_78_115_1_2 m) some p0 p1 p2 p3 p4 p5
noncomputable def l_78_115_1_2(m:Nat)(a:T_78_115_1_2.E):Option E_78_115_1_2:=L_78_115_1_2 m a.1 a.2.1 a.2.2.1 a.2.2.2.1 a.2.2.2.2.1 a.2.2.2.2.2.1
noncomputable def O_78_115_1_2{R:Type}:Orc R:=orL T_78_115_1_2 (l_78_115_1_2 FU) Y_78_115_1_2 O_78_115_1_0
theorem loop_78_115_1_2{R:Type}(k:Ex->St->Option R):∀m a,evLoopN (evCodeL sm_78 FU (ovr noO (evFn sm_78 fns FU 0)) (mkT (inner (ni (nf 115 0) 0)) []) (inner (ni (nf 115 0) 0))) (St.norm (lv (ni (nf 115 0) 0))) m (T_78_115_1_2.inst a) k=(l_78_115_1_2 m a).bind (Y_78_115_1_2 k):=lpN l_78_115_1_2 (fun R K k a=>S_78_115_1_2 (fun p0 p1 p2 p3 p4 p5=>K (p0,p1,p2,p3,p4,p5,())) k a.1 a.2.1 a.2.2.1 a.2.2.2.1 a.2.2.2.2.1 a.2.2.2.2.2.1) (fun _=>rfl) (fun _ _=>rfl) (fun K a=>by kernel_rfl) (fun K a=>by
 unfold S_78_115_1_2
 repeat' first|apply gdN|apply condN|rfl)
theorem OK_78_115_1_2{R:Type}:okF (R:=R) sm_78 0 (ni (nf 115 0) 0) O_78_115_1_2:=lp0 T_78_115_1_2 l_78_115_1_2 (fun R K k a=>S_78_115_1_2 (fun p0 p1 p2 p3 p4 p5=>K (p0,p1,p2,p3,p4,p5,())) k a.1 a.2.1 a.2.2.1 a.2.2.2.1 a.2.2.2.2.1 a.2.2.2.2.2.1) Y_78_115_1_2 (fun _ _ _=>by kernel_rfl) (fun _ _ _=>by
 unfold S_78_115_1_2
 repeat' first|apply gdN|apply condN|rfl) OK_78_115_1_0
noncomputable def T_78_115_1_1:PS:=⟨30,[(0,.kc (.whole 2)),(1,.hv (.slice (.int .u32))),(5,.hv (.int .i64)),(6,.hv (.int .i64))],[.mem (.hv (.arr 32 (.int .u8))),.vec 37 (.int .u32),.vec 5 (.int .u8)],3⟩
inductive Sp.E_78_115_1_1 where
 |e0 (p0:List Int) (p1:Int) (p3 p4 p5:List Int)
 |e1 (p0:List Int) (p1:Int) (p3 p4 p5:List Int)
noncomputable def Sp.B_78_115_1_1{R:Type}(r:Option E_78_115_1_1)(k0 k1:List Int->Int->List Int->List Int->List Int->Option R):Option R:=match r with
 |none=>none
 |some (.e0 p0 p1 p3 p4 p5)=>k0 p0 p1 p3 p4 p5
 |some (.e1 p0 p1 p3 p4 p5)=>k1 p0 p1 p3 p4 p5
theorem Bn_78_115_1_1{A R:Type}{r:Option E_78_115_1_1}{f:A->Option R}{k0:List Int->Int->List Int->List Int->List Int->Option A}{k1:List Int->Int->List Int->List Int->List Int->Option A}{l0:List Int->Int->List Int->List Int->List Int->Option R}{l1:List Int->Int->List Int->List Int->List Int->Option R}(h0:∀p0 p1 p3 p4 p5,(k0 p0 p1 p3 p4 p5).bind f=l0 p0 p1 p3 p4 p5)(h1:∀p0 p1 p3 p4 p5,(k1 p0 p1 p3 p4 p5).bind f=l1 p0 p1 p3 p4 p5):(B_78_115_1_1 r k0 k1).bind f=B_78_115_1_1 r l0 l1:=by
 cases r with
 |none=>rfl
 |some e=>cases e<;>first|apply h0|apply h1
noncomputable def Y_78_115_1_1{R:Type}(k:Ex->St->Option R):E_78_115_1_1->Option R
 | .e0 p0 p1 p3 p4 p5=>k (Ex.exit 2) (sx 30 [(0,CV.whole 2),(1,CV.pure (Ty.slice (Ty.int u32)) p0),(5,CV.int i64 p1)] [Blk.mem (CV.pure (Ty.arr 32 (Ty.int u8)) p3),Blk.vec 37 (Ty.int u32) p4,Blk.vec 5 (Ty.int u8) p5] 3)
 | .e1 p0 p1 p3 p4 p5=>k (Ex.exit 2) (sx 30 [(0,CV.whole 3),(1,CV.pure (Ty.slice (Ty.int u32)) p0),(5,CV.int i64 p1)] [Blk.mem (CV.pure (Ty.arr 32 (Ty.int u8)) p3),Blk.vec 37 (Ty.int u32) p4,Blk.dead,Blk.vec 5 (Ty.int u8) p5] 3)
noncomputable def Sp.S_78_115_1_1{R:Type}(K KB:List Int->Int->Int->List Int->List Int->List Int->Option R)(k:E_78_115_1_1->Option R)(p0:List Int)(p1 p2:Int)(p3 p4 p5:List Int):Option R:=
 bif decide (p2<4)then gd (inB p1 (length p0)) (gd (decide (0<=wrap i64 (24-wrap i64 (8*p2)))) (gd (room (length p5+1) 1) (KB p0 p1 (wrap i64 (p2+1)) p3 p4 (p5++[wrap u8 (Int.fdiv (getD p0 (toNat p1) 0) (2^Nat.min (toNat (wrap i64 (24-wrap i64 (8*p2)))) 32))]))))else k (E_78_115_1_1.e0 p0 p1 p3 p4 p5)
noncomputable def C_78_115_1_1:E_78_115_1_2->E_78_115_1_1
 | .e0 p0 p1 p3 p4 p5=> .e1 p0 p1 p3 p4 p5
theorem BC_78_115_1_1(r:Option E_78_115_1_2):B_78_115_1_2 r (fun p0 p1 p3 p4 p5=>some (E_78_115_1_1.e1 p0 p1 p3 p4 p5))=r.bind fun e=>some (C_78_115_1_1 e):=by
 cases r with
 |none=>rfl
 |some e=>cases e<;>rfl
noncomputable def Sp.L_78_115_1_1:Nat->List Int->Int->Int->List Int->List Int->List Int->Option E_78_115_1_1
 |0,_,_,_,_,_,_=>none
 |m+1,p0,p1,p2,p3,p4,p5=>S_78_115_1_1 (L_78_115_1_1 m) (fun q0 q1 q2 q3 q4 q5=>B_78_115_1_2 (L_78_115_1_2 m q0 q1 q2 q3 q4 q5) (fun p0 p1 p3 p4 p5=>some (E_78_115_1_1.e1 p0 p1 p3 p4 p5))) some p0 p1 p2 p3 p4 p5
noncomputable def l_78_115_1_1(m:Nat)(a:T_78_115_1_1.E):Option E_78_115_1_1:=L_78_115_1_1 m a.1 a.2.1 a.2.2.1 a.2.2.2.1 a.2.2.2.2.1 a.2.2.2.2.2.1
noncomputable def O_78_115_1_1{R:Type}:Orc R:=orL T_78_115_1_1 (l_78_115_1_1 FU) Y_78_115_1_1 O_78_115_1_2
theorem OK_78_115_1_1{R:Type}:okF (R:=R) sm_78 0 (ni (nf 115 0) 0) O_78_115_1_1:=lp2 noO_ok (os:=[]) trivial T_78_115_1_1 T_78_115_1_2 l_78_115_1_1 l_78_115_1_2 (fun R K KB k a=>S_78_115_1_1 (fun p0 p1 p2 p3 p4 p5=>K (p0,p1,p2,p3,p4,p5,())) (fun q0 q1 q2 q3 q4 q5=>KB (q0,q1,q2,q3,q4,q5,())) k a.1 a.2.1 a.2.2.1 a.2.2.2.1 a.2.2.2.2.1 a.2.2.2.2.2.1) Y_78_115_1_1 Y_78_115_1_2 C_78_115_1_1 (fun _=>rfl) (fun m a=>by
 unfold l_78_115_1_1
 rw[L_78_115_1_1]
 simp only[BC_78_115_1_1]
 rfl) (fun k e=>by cases e<;>rfl) (fun k=>loop_78_115_1_2 k) (fun k K a=>by kernel_rfl) (fun Y K KB a=>by
 unfold S_78_115_1_1
 repeat' first|apply gdN|apply condN|rfl) OK_78_115_1_2
noncomputable def T_78_115_0_0:PS:=⟨30,[(0,.kc (.whole 2)),(1,.kc (.whole 1)),(5,.hv (.int .i64))],[.mem (.hv (.arr 32 (.int .u8))),.vec 37 (.int .u32),.vec 5 (.int .u8)],2⟩
inductive Sp.E_78_115_0_0 where
 |e0 (p1 p2 p3:List Int)
noncomputable def Sp.B_78_115_0_0{R:Type}(r:Option E_78_115_0_0)(k0:List Int->List Int->List Int->Option R):Option R:=match r with
 |none=>none
 |some (.e0 p1 p2 p3)=>k0 p1 p2 p3
noncomputable def Y_78_115_0_0{R:Type}(k:Ex->St->Option R):E_78_115_0_0->Option R
 | .e0 p1 p2 p3=>k (Ex.exit 0) (sx 30 [(0,CV.whole 2)] [Blk.mem (CV.pure (Ty.arr 32 (Ty.int u8)) p1),Blk.vec 37 (Ty.int u32) p2,Blk.vec 5 (Ty.int u8) p3] 2)
noncomputable def Sp.S_78_115_0_0{R:Type}(K:Int->List Int->List Int->List Int->Option R)(k:E_78_115_0_0->Option R)(p0:Int)(p1 p2 p3:List Int):Option R:=
 bif decide (p0<(↑(length p2):Int))then B_78_115_1_0 (L_78_115_1_0 4611686018427387904 p0 0 p1 p2 p3) fun y8 y9 y10 y11=>K (wrap i64 (y8+1)) y9 y10 y11 else k (E_78_115_0_0.e0 p1 p2 p3)
noncomputable def Sp.L_78_115_0_0:Nat->Int->List Int->List Int->List Int->Option E_78_115_0_0
 |0,_,_,_,_=>none
 |m+1,p0,p1,p2,p3=>S_78_115_0_0 (L_78_115_0_0 m) some p0 p1 p2 p3
noncomputable def l_78_115_0_0(m:Nat)(a:T_78_115_0_0.E):Option E_78_115_0_0:=L_78_115_0_0 m a.1 a.2.1 a.2.2.1 a.2.2.2.1
noncomputable def O_78_115_0_0{R:Type}:Orc R:=orL T_78_115_0_0 (l_78_115_0_0 FU) Y_78_115_0_0
theorem OK_78_115_0_0{R:Type}:okF (R:=R) sm_78 0 (nf 115 0) O_78_115_0_0:=lp noO_ok (os:=[O_78_115_1_1]) ⟨OK_78_115_1_1,trivial⟩ T_78_115_0_0 l_78_115_0_0 (fun R K k a=>S_78_115_0_0 (fun p0 p1 p2 p3=>K (p0,p1,p2,p3,())) k a.1 a.2.1 a.2.2.1 a.2.2.2.1) Y_78_115_0_0 (fun _=>rfl) (fun _ _=>rfl) (fun k K a=>by kernel_rfl) (fun Y K a=>by
 unfold S_78_115_0_0
 repeat' first|apply gdN|apply condN|(apply Bn_78_115_1_0<;>intros)|rfl) (ok0 _)
noncomputable def T_78_115_0_2:PS:=⟨30,[(0,.kc (.whole 3)),(1,.hv (.slice (.int .u32))),(5,.hv (.int .i64))],[.mem (.hv (.arr 32 (.int .u8))),.vec 37 (.int .u32),.dead,.vec 5 (.int .u8)],3⟩
inductive Sp.E_78_115_0_2 where
 |e0 (p2 p3 p4:List Int)
noncomputable def Sp.B_78_115_0_2{R:Type}(r:Option E_78_115_0_2)(k0:List Int->List Int->List Int->Option R):Option R:=match r with
 |none=>none
 |some (.e0 p2 p3 p4)=>k0 p2 p3 p4
noncomputable def Y_78_115_0_2{R:Type}(k:Ex->St->Option R):E_78_115_0_2->Option R
 | .e0 p2 p3 p4=>k (Ex.exit 0) (sx 30 [(0,CV.whole 3)] [Blk.mem (CV.pure (Ty.arr 32 (Ty.int u8)) p2),Blk.vec 37 (Ty.int u32) p3,Blk.dead,Blk.vec 5 (Ty.int u8) p4] 3)
noncomputable def Sp.S_78_115_0_2{R:Type}(K:List Int->Int->List Int->List Int->List Int->Option R)(k:E_78_115_0_2->Option R)(p0:List Int)(p1:Int)(p2 p3 p4:List Int):Option R:=
 bif decide (p1<(↑(length p0):Int))then B_78_115_1_2 (L_78_115_1_2 4611686018427387904 p0 p1 0 p2 p3 p4) fun y9 y10 y11 y12 y13=>K y9 (wrap i64 (y10+1)) y11 y12 y13 else k (E_78_115_0_2.e0 p2 p3 p4)
noncomputable def Sp.L_78_115_0_2:Nat->List Int->Int->List Int->List Int->List Int->Option E_78_115_0_2
 |0,_,_,_,_,_=>none
 |m+1,p0,p1,p2,p3,p4=>S_78_115_0_2 (L_78_115_0_2 m) some p0 p1 p2 p3 p4
noncomputable def l_78_115_0_2(m:Nat)(a:T_78_115_0_2.E):Option E_78_115_0_2:=L_78_115_0_2 m a.1 a.2.1 a.2.2.1 a.2.2.2.1 a.2.2.2.2.1
noncomputable def O_78_115_0_2{R:Type}:Orc R:=orL T_78_115_0_2 (l_78_115_0_2 FU) Y_78_115_0_2 O_78_115_0_0
theorem loop_78_115_0_2{R:Type}(k:Ex->St->Option R):∀m a,evLoopN (evCodeL sm_78 FU (ovr noO (evFn sm_78 fns FU 0)) (mkT (inner (nf 115 0)) [O_78_115_1_1]) (inner (nf 115 0))) (St.norm (lv (nf 115 0))) m (T_78_115_0_2.inst a) k=(l_78_115_0_2 m a).bind (Y_78_115_0_2 k):=lpN l_78_115_0_2 (fun R K k a=>S_78_115_0_2 (fun p0 p1 p2 p3 p4=>K (p0,p1,p2,p3,p4,())) k a.1 a.2.1 a.2.2.1 a.2.2.2.1 a.2.2.2.2.1) (fun _=>rfl) (fun _ _=>rfl) (fun K a=>by kernel_rfl) (fun K a=>by
 unfold S_78_115_0_2
 repeat' first|apply gdN|apply condN|(apply Bn_78_115_1_2<;>intros)|rfl)
theorem OK_78_115_0_2{R:Type}:okF (R:=R) sm_78 0 (nf 115 0) O_78_115_0_2:=lp noO_ok (os:=[O_78_115_1_1]) ⟨OK_78_115_1_1,trivial⟩ T_78_115_0_2 l_78_115_0_2 (fun R K k a=>S_78_115_0_2 (fun p0 p1 p2 p3 p4=>K (p0,p1,p2,p3,p4,())) k a.1 a.2.1 a.2.2.1 a.2.2.2.1 a.2.2.2.2.1) Y_78_115_0_2 (fun _=>rfl) (fun _ _=>rfl) (fun k K a=>by kernel_rfl) (fun Y K a=>by
 unfold S_78_115_0_2
 repeat' first|apply gdN|apply condN|(apply Bn_78_115_1_2<;>intros)|rfl) OK_78_115_0_0
noncomputable def T_78_115_0_1:PS:=⟨30,[(0,.kc (.whole 2)),(1,.hv (.slice (.int .u32))),(5,.hv (.int .i64))],[.mem (.hv (.arr 32 (.int .u8))),.vec 37 (.int .u32),.vec 5 (.int .u8)],3⟩
inductive Sp.E_78_115_0_1 where
 |e0 (p2 p3 p4:List Int)
 |e1 (p2 p3 p4:List Int)
noncomputable def Sp.B_78_115_0_1{R:Type}(r:Option E_78_115_0_1)(k0 k1:List Int->List Int->List Int->Option R):Option R:=match r with
 |none=>none
 |some (.e0 p2 p3 p4)=>k0 p2 p3 p4
 |some (.e1 p2 p3 p4)=>k1 p2 p3 p4
noncomputable def Y_78_115_0_1{R:Type}(k:Ex->St->Option R):E_78_115_0_1->Option R
 | .e0 p2 p3 p4=>k (Ex.exit 0) (sx 30 [(0,CV.whole 2)] [Blk.mem (CV.pure (Ty.arr 32 (Ty.int u8)) p2),Blk.vec 37 (Ty.int u32) p3,Blk.vec 5 (Ty.int u8) p4] 3)
 | .e1 p2 p3 p4=>k (Ex.exit 0) (sx 30 [(0,CV.whole 3)] [Blk.mem (CV.pure (Ty.arr 32 (Ty.int u8)) p2),Blk.vec 37 (Ty.int u32) p3,Blk.dead,Blk.vec 5 (Ty.int u8) p4] 3)
noncomputable def Sp.S_78_115_0_1{R:Type}(K KB:List Int->Int->List Int->List Int->List Int->Option R)(k:E_78_115_0_1->Option R)(p0:List Int)(p1:Int)(p2 p3 p4:List Int):Option R:=
 bif decide (p1<(↑(length p0):Int))then B_78_115_1_1 (L_78_115_1_1 4611686018427387904 p0 p1 0 p2 p3 p4) (fun y14 y15 y16 y17 y18=>K y14 (wrap i64 (y15+1)) y16 y17 y18) fun y19 y20 y21 y22 y23=>KB y19 (wrap i64 (y20+1)) y21 y22 y23 else k (E_78_115_0_1.e0 p2 p3 p4)
noncomputable def C_78_115_0_1:E_78_115_0_2->E_78_115_0_1
 | .e0 p2 p3 p4=> .e1 p2 p3 p4
theorem BC_78_115_0_1(r:Option E_78_115_0_2):B_78_115_0_2 r (fun p2 p3 p4=>some (E_78_115_0_1.e1 p2 p3 p4))=r.bind fun e=>some (C_78_115_0_1 e):=by
 cases r with
 |none=>rfl
 |some e=>cases e<;>rfl
noncomputable def Sp.L_78_115_0_1:Nat->List Int->Int->List Int->List Int->List Int->Option E_78_115_0_1
 |0,_,_,_,_,_=>none
 |m+1,p0,p1,p2,p3,p4=>S_78_115_0_1 (L_78_115_0_1 m) (fun q0 q1 q2 q3 q4=>B_78_115_0_2 (L_78_115_0_2 m q0 q1 q2 q3 q4) (fun p2 p3 p4=>some (E_78_115_0_1.e1 p2 p3 p4))) some p0 p1 p2 p3 p4
noncomputable def l_78_115_0_1(m:Nat)(a:T_78_115_0_1.E):Option E_78_115_0_1:=L_78_115_0_1 m a.1 a.2.1 a.2.2.1 a.2.2.2.1 a.2.2.2.2.1
noncomputable def O_78_115_0_1{R:Type}:Orc R:=orL T_78_115_0_1 (l_78_115_0_1 FU) Y_78_115_0_1 O_78_115_0_2
theorem OK_78_115_0_1{R:Type}:okF (R:=R) sm_78 0 (nf 115 0) O_78_115_0_1:=lp2 noO_ok (os:=[O_78_115_1_1]) ⟨OK_78_115_1_1,trivial⟩ T_78_115_0_1 T_78_115_0_2 l_78_115_0_1 l_78_115_0_2 (fun R K KB k a=>S_78_115_0_1 (fun p0 p1 p2 p3 p4=>K (p0,p1,p2,p3,p4,())) (fun q0 q1 q2 q3 q4=>KB (q0,q1,q2,q3,q4,())) k a.1 a.2.1 a.2.2.1 a.2.2.2.1 a.2.2.2.2.1) Y_78_115_0_1 Y_78_115_0_2 C_78_115_0_1 (fun _=>rfl) (fun m a=>by
 unfold l_78_115_0_1
 rw[L_78_115_0_1]
 simp only[BC_78_115_0_1]
 rfl) (fun k e=>by cases e<;>rfl) (fun k=>loop_78_115_0_2 k) (fun k K a=>by kernel_rfl) (fun Y K KB a=>by
 unfold S_78_115_0_1
 repeat' first|apply gdN|apply condN|(apply Bn_78_115_1_1<;>intros)|rfl) OK_78_115_0_2
noncomputable def g_78_115{R:Type}:List CV->List Blk->(CV->List Blk->Option R)->Option R:=evFnL sm_78 FU (ovr noO (evFn sm_78 fns FU 0)) (mkT (fB fns 115) [O_78_115_0_1]) (fO fns 115)
theorem g_78_115_ok{R:Type}(args:List CV)(hp:List Blk)(k:CV->List Blk->Option R)(r:R)(h:g_78_115 args hp k=some r):evFn sm_78 fns FU 1 115 args hp k=some r:=runG noO_ok (os:=[O_78_115_0_1]) ⟨OK_78_115_0_1,trivial⟩ h
noncomputable def ov_78_78{R:Type}:Nat->Option (List CV->List Blk->(CV->List Blk->Option R)->Option R):=fun f'=>bif Nat.beq f' 115 then some g_78_115 else none
theorem ov_78_78_ok{R:Type}:OvrOK (R:=R) ov_78_78 (evFn sm_78 fns FU 1):=by
 intro f' g h args hp k r hg
 dsimp only[ov_78_78]at h
 by_cases h115:f'=115
 ·subst h115
  injection h with h
  subst h
  exact evFn_le 0 (g_78_115_ok _ _ _ _ hg)
 rw[nbeq_ne h115,cond_false]at h
 cases h
noncomputable def F_78(a0:Int)(a1:(List Int)):Option ((List Int)×Unit) :=
 B_78_115_0_0 (L_78_115_0_0 4611686018427387904 0 (replicate 32 (0:Int)) [wrap u32 a0,wrap u32 (↑(length a1):Int)] []) fun y9 y10 y11=>B_78_115_0_1 (L_78_115_0_1 4611686018427387904 a1 0 y9 y10 y11) (fun y12 y13 y14=>gd (p_116 y14) (some ((v_116 y14).1,PUnit.unit))) fun y15 y16 y17=>gd (p_116 y17) (some ((v_116 y17).1,PUnit.unit))
noncomputable def Sp.p_78(a0:Int)(a1:(List Int)):Bool:=(F_78 a0 a1).isSome
noncomputable def Sp.v_78(a0:Int)(a1:(List Int)):(List Int)×Unit:=(F_78 a0 a1).getD (dfH R_78)
noncomputable def s_78:Summ:=shN A_78 R_78 (fun x=>p_78 x.1 x.2.1) (fun x=>v_78 x.1 x.2.1)
theorem pv_78(a0:Int)(a1:(List Int)){y:(List Int)×Unit}(h:F_78 a0 a1=some y):p_78 a0 a1=true/\v_78 a0 a1=y:=pvG h
theorem run_78(x:HDen A_78)(y:HDen R_78)(h:F_78 x.1 x.2.1=some y):rnF sm_78 2 78 A_78 R_78 x y:=runG ov_78_78_ok (os:=[]) trivial (Eq.trans (by kernel_rfl) h)
end
noncomputable section
abbrev A_32:List Ty:=[(.pair (.pair (.slice (.int .u32)) (.pair (.slice (.int .i64)) (.pair (.int .i64) .unit))) (.pair (.arr 32 (.int .u8)) .unit)),(.int .i64)]
abbrev R_32:List Ty:=[.bool]
noncomputable def sm_32:Nat->Option Summ:=smL [(30,s_30),(57,s_57),(77,s_77),(78,s_78)]
noncomputable def F_32(a0:(((List Int)×((List Int)×(Int×Unit)))×((List Int)×Unit)))(a1:Int):Option (Bool×Unit) :=
 gd (p_77 a0 a1) (bif !(v_77 a0 a1).2.1 then some (false,PUnit.unit)else gd (p_30 a0 a1) (gd (sl3 564 (wrap i64 (564+(v_77 a0 a1).1.2.1)) (↑(length ((v_30 a0 a1).1)):Int)) (gd (p_78 ((v_77 a0 a1).1.1) (take (toNat (wrap i64 (564+(v_77 a0 a1).1.2.1))-564) (drop 564 ((v_30 a0 a1).1)))) (bif Ty.beq (Ty.arr 32 (Ty.int u8)) ((v_78 ((v_77 a0 a1).1.1) (take (toNat (wrap i64 (564+(v_77 a0 a1).1.2.1))-564) (drop 564 ((v_30 a0 a1).1)))).1) ((v_77 a0 a1).1.2.2.1)then gd (p_57 (a0.2.1) ((v_77 a0 a1).1.2.2.1) ((v_77 a0 a1).1.2.2.2.1)) (some ((v_57 (a0.2.1) ((v_77 a0 a1).1.2.2.1) ((v_77 a0 a1).1.2.2.2.1)).1,PUnit.unit))else some (false,PUnit.unit)))))
noncomputable def Sp.p_32(a0:(((List Int)×((List Int)×(Int×Unit)))×((List Int)×Unit)))(a1:Int):Bool:=(F_32 a0 a1).isSome
noncomputable def Sp.v_32(a0:(((List Int)×((List Int)×(Int×Unit)))×((List Int)×Unit)))(a1:Int):Bool×Unit:=(F_32 a0 a1).getD (dfH R_32)
noncomputable def s_32:Summ:=shN A_32 R_32 (fun x=>p_32 x.1 x.2.1) (fun x=>v_32 x.1 x.2.1)
theorem run_32(x:HDen A_32)(y:HDen R_32)(h:F_32 x.1 x.2.1=some y):rnF sm_32 1 32 A_32 R_32 x y:=runG noO_ok (os:=[]) trivial (Eq.trans (by kernel_rfl) h)
end
noncomputable section
abbrev A_104:List Ty:=[(.pair (.pair (.slice (.int .u32)) (.pair (.slice (.int .i64)) (.pair (.int .i64) .unit))) (.pair (.arr 32 (.int .u8)) .unit)),(.int .i64)]
abbrev R_104:List Ty:=[.bool]
noncomputable def sm_104:Nat->Option Summ:=smL [(30,s_30),(32,s_32)]
noncomputable def F_104(a0:(((List Int)×((List Int)×(Int×Unit)))×((List Int)×Unit)))(a1:Int):Option (Bool×Unit) :=
 gd (p_30 a0 a1) (gd (inB 0 (length ((v_30 a0 a1).1))) (bif getD ((v_30 a0 a1).1) 0 (0:Int)==(0:Int)then gd (p_32 a0 a1) (some ((v_32 a0 a1).1,PUnit.unit))else some (false,PUnit.unit)))
noncomputable def Sp.p_104(a0:(((List Int)×((List Int)×(Int×Unit)))×((List Int)×Unit)))(a1:Int):Bool:=(F_104 a0 a1).isSome
noncomputable def Sp.v_104(a0:(((List Int)×((List Int)×(Int×Unit)))×((List Int)×Unit)))(a1:Int):Bool×Unit:=(F_104 a0 a1).getD (dfH R_104)
noncomputable def s_104:Summ:=shN A_104 R_104 (fun x=>p_104 x.1 x.2.1) (fun x=>v_104 x.1 x.2.1)
theorem pv_104(a0:(((List Int)×((List Int)×(Int×Unit)))×((List Int)×Unit)))(a1:Int){y:Bool×Unit}(h:F_104 a0 a1=some y):p_104 a0 a1=true/\v_104 a0 a1=y:=pvG h
theorem run_104(x:HDen A_104)(y:HDen R_104)(h:F_104 x.1 x.2.1=some y):rnF sm_104 1 104 A_104 R_104 x y:=runG noO_ok (os:=[]) trivial (Eq.trans (by kernel_rfl) h)
end
noncomputable section
abbrev A_63:List Ty:=[(.pair (.pair (.slice (.int .u32)) (.pair (.slice (.int .i64)) (.pair (.int .i64) .unit))) (.pair (.arr 32 (.int .u8)) .unit))]
abbrev R_63:List Ty:=[(.int .i64),(.int .i64)]
noncomputable def sm_63:Nat->Option Summ:=smL [(12,s_12),(30,s_30),(104,s_104)]
noncomputable def T_63_0:PS:=⟨35,[(1,.kc (.ptr 0 [])),(4,.hv .bool),(5,.hv .bool)],[.mem (.hv (.pair (.pair (.slice (.int .u32)) (.pair (.slice (.int .i64)) (.pair (.int .i64) .unit))) (.pair (.arr 32 (.int .u8)) .unit)))],0⟩
inductive Sp.E_63_0 where
 |e0
 |e1
noncomputable def Sp.B_63_0{R:Type}(r:Option E_63_0)(k0 k1:Option R):Option R:=match r with
 |none=>none
 |some (.e0)=>k0
 |some (.e1)=>k1
noncomputable def Y_63_0{R:Type}(k:Ex->St->Option R):E_63_0->Option R
 | .e0=>k Ex.ret (sx 35 [(2,CV.int i64 1),(3,CV.int i64 0)] [])
 | .e1=>k Ex.ret (sx 35 [(2,CV.int i64 0),(3,CV.int i64 0)] [])
noncomputable def Sp.S_63_0{R:Type}(k:E_63_0->Option R)(p0 p1:Bool)(p2:(List Int×List Int×Int×Unit)×List Int×Unit):Option R:=
 bif p1 then bif !p0 then k (E_63_0.e0)else gd (p_30 p2 1) (gd (inB 1 (length ((v_30 p2 1).1))) (gd (p_30 p2 0) (gd (inB 1 (length ((v_30 p2 0).1))) (bif decide (getD ((v_30 p2 1).1) 1 0>getD ((v_30 p2 0).1) 1 0)then k (E_63_0.e0)else k (E_63_0.e1)))))else k (E_63_0.e1)
noncomputable def Sp.J_63_0(p0 p1:Bool)(p2:(List Int×List Int×Int×Unit)×List Int×Unit):Option E_63_0:=S_63_0 some p0 p1 p2
noncomputable def O_63_0{R:Type}:Orc R:=orL T_63_0 (fun a=>J_63_0 a.1 a.2.1 a.2.2.1) Y_63_0
theorem OK_63_0{R:Type}:okF (R:=R) sm_63 0 (nf 63 0) O_63_0:=jp noO_ok (os:=[]) trivial T_63_0 (fun R k a=>S_63_0 k a.1 a.2.1 a.2.2.1) Y_63_0 (fun k a=>by kernel_rfl) (fun Y a=>by
 unfold S_63_0
 repeat' first|apply gdN|apply condN|rfl) (ok0 _)
noncomputable def F_63(a0:(((List Int)×((List Int)×(Int×Unit)))×((List Int)×Unit))):Option (Int×Int×Unit) :=
 gd (p_12 a0) (bif !(v_12 a0).1 then some (0,1,PUnit.unit)else gd (p_104 a0 0) (gd (p_104 a0 1) (bif !(v_104 a0 0).1 then bif !(v_104 a0 1).1 then some (0,7,PUnit.unit)else B_63_0 (J_63_0 ((v_104 a0 0).1) ((v_104 a0 1).1) a0) (some (1,0,PUnit.unit)) (some (0,0,PUnit.unit))else B_63_0 (J_63_0 ((v_104 a0 0).1) ((v_104 a0 1).1) a0) (some (1,0,PUnit.unit)) (some (0,0,PUnit.unit)))))
noncomputable def Sp.p_63(a0:(((List Int)×((List Int)×(Int×Unit)))×((List Int)×Unit))):Bool:=(F_63 a0).isSome
noncomputable def Sp.v_63(a0:(((List Int)×((List Int)×(Int×Unit)))×((List Int)×Unit))):Int×Int×Unit:=(F_63 a0).getD (dfH R_63)
noncomputable def s_63:Summ:=shN A_63 R_63 (fun x=>p_63 x.1) (fun x=>v_63 x.1)
theorem pv_63(a0:(((List Int)×((List Int)×(Int×Unit)))×((List Int)×Unit))){y:Int×Int×Unit}(h:F_63 a0=some y):p_63 a0=true/\v_63 a0=y:=pvG h
theorem run_63(x:HDen A_63)(y:HDen R_63)(h:F_63 x.1=some y):rnF sm_63 1 63 A_63 R_63 x y:=runG noO_ok (os:=[O_63_0]) ⟨OK_63_0,trivial⟩ (Eq.trans (by kernel_rfl) h)
end
noncomputable section
abbrev A_18:List Ty:=[(.pair (.pair (.slice (.int .u32)) (.pair (.slice (.int .i64)) (.pair (.int .i64) .unit))) (.pair (.arr 32 (.int .u8)) .unit))]
abbrev R_18:List Ty:=[(.int .i64)]
noncomputable def sm_18:Nat->Option Summ:=smL [(63,s_63)]
noncomputable def F_18(a0:(((List Int)×((List Int)×(Int×Unit)))×((List Int)×Unit))):Option (Int×Unit) :=
 gd (p_63 a0) (bif(v_63 a0).2.1 !=0 then some (0,PUnit.unit)else some (wrap i64 (1-(v_63 a0).1),PUnit.unit))
noncomputable def Sp.p_18(a0:(((List Int)×((List Int)×(Int×Unit)))×((List Int)×Unit))):Bool:=(F_18 a0).isSome
noncomputable def Sp.v_18(a0:(((List Int)×((List Int)×(Int×Unit)))×((List Int)×Unit))):Int×Unit:=(F_18 a0).getD (dfH R_18)
noncomputable def s_18:Summ:=shN A_18 R_18 (fun x=>p_18 x.1) (fun x=>v_18 x.1)
theorem pv_18(a0:(((List Int)×((List Int)×(Int×Unit)))×((List Int)×Unit))){y:Int×Unit}(h:F_18 a0=some y):p_18 a0=true/\v_18 a0=y:=pvG h
theorem run_18(x:HDen A_18)(y:HDen R_18)(h:F_18 x.1=some y):rnF sm_18 1 18 A_18 R_18 x y:=runG noO_ok (os:=[]) trivial (Eq.trans (by kernel_rfl) h)
end
end Go.Ev
