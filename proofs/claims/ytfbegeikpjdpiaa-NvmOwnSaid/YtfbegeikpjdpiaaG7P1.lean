/- Helpers: functions of the program as Lean functions, and what they compute. No condition. -/
import Derived.Test.YtfbegeikpjdpiaaG7P0
import Derived.Test.YtfbegeikpjdpiaaProg
import Derived.Test.YtfbegeikpjdpiaaE7P2
set_option maxRecDepth 10000
set_option linter.unusedVariables false
set_option linter.unusedSimpArgs false
open Go.IntKind (wrap i64 i32 i16 i8 u64 u32 u16 u8)
open List (getD length take drop replicate)
open Int (toNat)
open Go.Ev.Sp
namespace Go.Ev
open Go
set_option maxRecDepth 100000
set_option maxHeartbeats 4000000
set_option linter.unusedVariables false
noncomputable section
abbrev A_33:List Ty:=[(.pair (.pair (.slice (.int .u32)) (.pair (.slice (.int .i64)) (.pair (.int .i64) .unit))) (.pair (.int .i64) (.pair (.int .i64) .unit))),(.pair (.pair (.slice (.int .u32)) (.pair (.slice (.int .i64)) (.pair (.int .i64) .unit))) (.pair (.int .i64) (.pair (.int .i64) .unit)))]
abbrev R_33:List Ty:=[.bool]
noncomputable def sm_33:Nat->Option Summ:=smL [(68,s_68)]
noncomputable def T_33_0:PS:=⟨66,[(2,.kc (.ptr 0 [])),(3,.kc (.ptr 1 [])),(5,.hv (.int .i64))],[.mem (.hv (.pair (.pair (.slice (.int .u32)) (.pair (.slice (.int .i64)) (.pair (.int .i64) .unit))) (.pair (.int .i64) (.pair (.int .i64) .unit)))),.mem (.hv (.pair (.pair (.slice (.int .u32)) (.pair (.slice (.int .i64)) (.pair (.int .i64) .unit))) (.pair (.int .i64) (.pair (.int .i64) .unit))))],0⟩
inductive Sp.E_33_0 where
 |e0
 |e1 (p1 p2:(List Int×List Int×Int×Unit)×Int×Int×Unit)
noncomputable def Sp.B_33_0{R:Type}(r:Option E_33_0)(k0:Option R)(k1:((List Int×List Int×Int×Unit)×Int×Int×Unit)->((List Int×List Int×Int×Unit)×Int×Int×Unit)->Option R):Option R:=match r with
 |none=>none
 |some (.e0)=>k0
 |some (.e1 p1 p2)=>k1 p1 p2
noncomputable def Y_33_0{R:Type}(k:Ex->St->Option R):E_33_0->Option R
 | .e0=>k Ex.ret (sx 66 [(4,CV.bool false)] [])
 | .e1 p1 p2=>k (Ex.exit 0) (sx 66 [(2,CV.ptr 0 []),(3,CV.ptr 1 [])] [Blk.mem (CV.pure (Ty.pair (Ty.pair (Ty.slice (Ty.int u32)) (Ty.pair (Ty.slice (Ty.int i64)) (Ty.pair (Ty.int i64) Ty.unit))) (Ty.pair (Ty.int i64) (Ty.pair (Ty.int i64) Ty.unit))) p1),Blk.mem (CV.pure (Ty.pair (Ty.pair (Ty.slice (Ty.int u32)) (Ty.pair (Ty.slice (Ty.int i64)) (Ty.pair (Ty.int i64) Ty.unit))) (Ty.pair (Ty.int i64) (Ty.pair (Ty.int i64) Ty.unit))) p2)])
noncomputable def Sp.S_33_0{R:Type}(K:Int->((List Int×List Int×Int×Unit)×Int×Int×Unit)->((List Int×List Int×Int×Unit)×Int×Int×Unit)->Option R)(k:E_33_0->Option R)(p0:Int)(p1 p2:(List Int×List Int×Int×Unit)×Int×Int×Unit):Option R:=
 bif decide (p0<(↑(length (p1.1.2.1)):Int))then gd (inB p0 (length (p1.1.2.1))) (gd (inB p0 (length (p2.1.2.1))) (bif getD (p1.1.2.1) (toNat p0) 0 !=getD (p2.1.2.1) (toNat p0) 0 then k (E_33_0.e0)else K (wrap i64 (p0+1)) p1 p2))else k (E_33_0.e1 p1 p2)
noncomputable def Sp.L_33_0:Nat->Int->((List Int×List Int×Int×Unit)×Int×Int×Unit)->((List Int×List Int×Int×Unit)×Int×Int×Unit)->Option E_33_0
 |0,_,_,_=>none
 |m+1,p0,p1,p2=>S_33_0 (L_33_0 m) some p0 p1 p2
noncomputable def l_33_0(m:Nat)(a:T_33_0.E):Option E_33_0:=L_33_0 m a.1 a.2.1 a.2.2.1
noncomputable def O_33_0{R:Type}:Orc R:=orL T_33_0 (l_33_0 FU) Y_33_0
theorem OK_33_0{R:Type}:okF (R:=R) sm_33 0 (nf 33 0) O_33_0:=lp0 T_33_0 l_33_0 (fun R K k a=>S_33_0 (fun p0 p1 p2=>K (p0,p1,p2,())) k a.1 a.2.1 a.2.2.1) Y_33_0 (fun _ _ _=>by kernel_rfl) (fun _ _ _=>by
 unfold S_33_0
 repeat' first|apply gdN|apply condN|rfl) (ok0 _)
noncomputable def F_33(a0:(((List Int)×((List Int)×(Int×Unit)))×(Int×(Int×Unit))))(a1:(((List Int)×((List Int)×(Int×Unit)))×(Int×(Int×Unit)))):Option (Bool×Unit) :=
 bif a0.2.1 !=a1.2.1 then some (false,PUnit.unit)else bif a0.2.2.1 !=a1.2.2.1 then some (false,PUnit.unit)else bif a0.1.2.2.1 !=a1.1.2.2.1 then some (false,PUnit.unit)else bif(↑(length (a0.1.2.1)):Int)!=(↑(length (a1.1.2.1)):Int)then some (false,PUnit.unit)else B_33_0 (L_33_0 4611686018427387904 0 a0 a1) (some (false,PUnit.unit)) fun y2 y3=>gd (p_68 (y2.1.1) (y3.1.1)) (some ((v_68 (y2.1.1) (y3.1.1)).1,PUnit.unit))
noncomputable def Sp.p_33(a0:(((List Int)×((List Int)×(Int×Unit)))×(Int×(Int×Unit))))(a1:(((List Int)×((List Int)×(Int×Unit)))×(Int×(Int×Unit)))):Bool:=(F_33 a0 a1).isSome
noncomputable def Sp.v_33(a0:(((List Int)×((List Int)×(Int×Unit)))×(Int×(Int×Unit))))(a1:(((List Int)×((List Int)×(Int×Unit)))×(Int×(Int×Unit)))):Bool×Unit:=(F_33 a0 a1).getD (dfH R_33)
noncomputable def s_33:Summ:=shJN A_33 R_33 (fun x=>p_33 x.1 x.2.1) (fun x=>v_33 x.1 x.2.1)
theorem pv_33(a0:(((List Int)×((List Int)×(Int×Unit)))×(Int×(Int×Unit))))(a1:(((List Int)×((List Int)×(Int×Unit)))×(Int×(Int×Unit)))){y:Bool×Unit}(h:F_33 a0 a1=some y):p_33 a0 a1=true/\v_33 a0 a1=y:=pvG h
theorem run_33(x:HDen A_33)(y:HDen R_33)(h:F_33 x.1 x.2.1=some y):rnF sm_33 1 33 A_33 R_33 x y:=runG noO_ok (os:=[O_33_0]) ⟨OK_33_0,trivial⟩ (Eq.trans (by kernel_rfl) h)
end
noncomputable section
abbrev Zt7_0:Type:=Int×Int×Unit
abbrev Zt7_1:Type:=(List Int×List Int×Int×Unit)×Int×Int×Unit
abbrev Zy7_2:Ty:=(.pair (.pair (.slice (.int .u32)) (.pair (.slice (.int .i64)) (.pair (.int .i64) .unit))) (.pair (.int .i64) (.pair (.int .i64) .unit)))
abbrev Zt7_3:Type:=List Int×Int×Unit
abbrev Zy7_4:Ty:=(.pair (.slice (.int .i64)) (.pair (.int .i64) .unit))
abbrev Zy7_5:Ty:=(.pair (.int .i64) (.pair (.int .u32) .unit))
abbrev Zy7_6:Ty:=(.pair (.int .i64) (.pair (.int .i64) .unit))
abbrev A_7:List Ty:=[(.pair (.pair (.slice (.int .u32)) (.pair (.slice (.int .i64)) (.pair (.int .i64) .unit))) (.pair (.int .i64) (.pair (.int .i64) .unit))),(.int .i64),(.slice (.int .u32)),(.pair (.int .i64) (.pair (.int .u32) .unit))]
abbrev R_7:List Ty:=[(.slice (.int .u32)),(.pair (.pair (.slice (.int .u32)) (.pair (.slice (.int .i64)) (.pair (.int .i64) .unit))) (.pair (.int .i64) (.pair (.int .i64) .unit))),(.pair (.pair (.slice (.int .u32)) (.pair (.slice (.int .i64)) (.pair (.int .i64) .unit))) (.pair (.int .i64) (.pair (.int .i64) .unit))),(.slice (.int .u32))]
noncomputable def sm_7:Nat->Option Summ:=smL [(9,s_9),(10,s_10),(11,s_11),(18,s_18),(19,s_19),(23,s_23),(30,s_30),(31,s_31),(33,s_33),(34,s_34)]
noncomputable def T_7_32_1_0:PS:=⟨27,[(2,.kc (.ptr 13 [])),(14,.hv (.int .i64)),(15,.hv (.int .i64))],[.mem (.hv Zy7_2),.mem (.hv Zy7_5),.mem (.hv Zy7_2),.vec 26 (.int .u32),.vec 26 (.int .u32),.mem (.pr (.pr (.kc (.whole 4)) (.hv Zy7_4)) (.hv Zy7_6)),.mem (.hv Zy7_5),.vec 26 (.int .u32),.mem (.pr (.pr (.kc (.whole 7)) (.hv Zy7_4)) (.hv Zy7_6)),.mem (.hv Zy7_5),.vec 26 (.int .u32),.mem (.pr (.pr (.kc (.whole 10)) (.hv Zy7_4)) (.hv Zy7_6)),.mem (.hv Zy7_5),.mem (.pr (.pr (.kc (.whole 4)) (.hv Zy7_4)) (.hv Zy7_6))],13⟩
inductive Sp.E_7_32_1_0 where
 |e0 (p2:Zt7_1) (p3:Zt7_0) (p4:Zt7_1) (p5 p6:List Int) (p7:Zt7_3) (p8 p9:Zt7_0) (p10:List Int) (p11:Zt7_3) (p12 p13:Zt7_0) (p14:List Int) (p15:Zt7_3) (p16 p17:Zt7_0)
noncomputable def Sp.B_7_32_1_0{R:Type}(r:Option E_7_32_1_0)(k0:Zt7_1->Zt7_0->Zt7_1->List Int->List Int->Zt7_3->Zt7_0->Zt7_0->List Int->Zt7_3->Zt7_0->Zt7_0->List Int->Zt7_3->Zt7_0->Zt7_0->Option R):Option R:=match r with
 |none=>none
 |some (.e0 p2 p3 p4 p5 p6 p7 p8 p9 p10 p11 p12 p13 p14 p15 p16 p17)=>k0 p2 p3 p4 p5 p6 p7 p8 p9 p10 p11 p12 p13 p14 p15 p16 p17
theorem Bn_7_32_1_0{A R:Type}{r:Option E_7_32_1_0}{f:A->Option R}{k0:Zt7_1->Zt7_0->Zt7_1->List Int->List Int->Zt7_3->Zt7_0->Zt7_0->List Int->Zt7_3->Zt7_0->Zt7_0->List Int->Zt7_3->Zt7_0->Zt7_0->Option A}{l0:Zt7_1->Zt7_0->Zt7_1->List Int->List Int->Zt7_3->Zt7_0->Zt7_0->List Int->Zt7_3->Zt7_0->Zt7_0->List Int->Zt7_3->Zt7_0->Zt7_0->Option R}(h0:∀p2 p3 p4 p5 p6 p7 p8 p9 p10 p11 p12 p13 p14 p15 p16 p17,(k0 p2 p3 p4 p5 p6 p7 p8 p9 p10 p11 p12 p13 p14 p15 p16 p17).bind f=l0 p2 p3 p4 p5 p6 p7 p8 p9 p10 p11 p12 p13 p14 p15 p16 p17):(B_7_32_1_0 r k0).bind f=B_7_32_1_0 r l0:=by
 cases r with
 |none=>rfl
 |some e=>cases e<;>first|apply h0
noncomputable def Y_7_32_1_0{R:Type}(k:Ex->St->Option R):E_7_32_1_0->Option R
 | .e0 p2 p3 p4 p5 p6 p7 p8 p9 p10 p11 p12 p13 p14 p15 p16 p17=>k (Ex.exit 0) (sx 27 [] [Blk.mem (CV.pure (Ty.pair (Ty.pair (Ty.slice (Ty.int u32)) (Ty.pair (Ty.slice (Ty.int i64)) (Ty.pair (Ty.int i64) Ty.unit))) (Ty.pair (Ty.int i64) (Ty.pair (Ty.int i64) Ty.unit))) p2),Blk.mem (CV.pure (Ty.pair (Ty.int i64) (Ty.pair (Ty.int u32) Ty.unit)) p3),Blk.mem (CV.pure (Ty.pair (Ty.pair (Ty.slice (Ty.int u32)) (Ty.pair (Ty.slice (Ty.int i64)) (Ty.pair (Ty.int i64) Ty.unit))) (Ty.pair (Ty.int i64) (Ty.pair (Ty.int i64) Ty.unit))) p4),Blk.vec 26 (Ty.int u32) p5,Blk.vec 26 (Ty.int u32) p6,Blk.mem (CV.pair (CV.pair (CV.whole 4) (CV.pure (Ty.pair (Ty.slice (Ty.int i64)) (Ty.pair (Ty.int i64) Ty.unit)) p7)) (CV.pure (Ty.pair (Ty.int i64) (Ty.pair (Ty.int i64) Ty.unit)) p8)),Blk.mem (CV.pure (Ty.pair (Ty.int i64) (Ty.pair (Ty.int u32) Ty.unit)) p9),Blk.vec 26 (Ty.int u32) p10,Blk.mem (CV.pair (CV.pair (CV.whole 7) (CV.pure (Ty.pair (Ty.slice (Ty.int i64)) (Ty.pair (Ty.int i64) Ty.unit)) p11)) (CV.pure (Ty.pair (Ty.int i64) (Ty.pair (Ty.int i64) Ty.unit)) p12)),Blk.mem (CV.pure (Ty.pair (Ty.int i64) (Ty.pair (Ty.int u32) Ty.unit)) p13),Blk.vec 26 (Ty.int u32) p14,Blk.mem (CV.pair (CV.pair (CV.whole 10) (CV.pure (Ty.pair (Ty.slice (Ty.int i64)) (Ty.pair (Ty.int i64) Ty.unit)) p15)) (CV.pure (Ty.pair (Ty.int i64) (Ty.pair (Ty.int i64) Ty.unit)) p16)),Blk.mem (CV.pure (Ty.pair (Ty.int i64) (Ty.pair (Ty.int u32) Ty.unit)) p17)] 13)
noncomputable def Sp.S_7_32_1_0{R:Type}(K:Int->Int->((List Int×List Int×Int×Unit)×Int×Int×Unit)->(Int×Int×Unit)->((List Int×List Int×Int×Unit)×Int×Int×Unit)->List Int->List Int->(List Int×Int×Unit)->(Int×Int×Unit)->(Int×Int×Unit)->List Int->(List Int×Int×Unit)->(Int×Int×Unit)->(Int×Int×Unit)->List Int->(List Int×Int×Unit)->(Int×Int×Unit)->(Int×Int×Unit)->(List Int×Int×Unit)->(Int×Int×Unit)->Option R)(k:E_7_32_1_0->Option R)(p0 p1:Int)(p2:(List Int×List Int×Int×Unit)×Int×Int×Unit)(p3:Int×Int×Unit)(p4:(List Int×List Int×Int×Unit)×Int×Int×Unit)(p5 p6:List Int)(p7:List Int×Int×Unit)(p8 p9:Int×Int×Unit)(p10:List Int)(p11:List Int×Int×Unit)(p12 p13:Int×Int×Unit)(p14:List Int)(p15:List Int×Int×Unit)(p16 p17:Int×Int×Unit)(p18:List Int×Int×Unit)(p19:Int×Int×Unit):Option R:=
 bif decide (p1<p0)then gd (inB p1 (length p6)) (gd (decide (toNat p1<length p6)&&true) (gd (inB p1 (length p6)) (gd (decide (toNat p1<length p6)&&true&&true) (K p0 (wrap i64 (p1+1)) p2 p3 p4 p5 (List.set p6 (toNat p1) (wrap u32 (getD p6 (toNat p1) (0:Int)+(1:Int)))) p7 p8 p9 p10 p11 p12 p13 p14 p15 p16 p17 p18 p19))))else k (E_7_32_1_0.e0 p2 p3 p4 p5 p6 p7 p8 p9 p10 p11 p12 p13 p14 p15 p16 p17)
noncomputable def Sp.L_7_32_1_0:Nat->Int->Int->((List Int×List Int×Int×Unit)×Int×Int×Unit)->(Int×Int×Unit)->((List Int×List Int×Int×Unit)×Int×Int×Unit)->List Int->List Int->(List Int×Int×Unit)->(Int×Int×Unit)->(Int×Int×Unit)->List Int->(List Int×Int×Unit)->(Int×Int×Unit)->(Int×Int×Unit)->List Int->(List Int×Int×Unit)->(Int×Int×Unit)->(Int×Int×Unit)->(List Int×Int×Unit)->(Int×Int×Unit)->Option E_7_32_1_0
 |0,_,_,_,_,_,_,_,_,_,_,_,_,_,_,_,_,_,_,_,_=>none
 |m+1,p0,p1,p2,p3,p4,p5,p6,p7,p8,p9,p10,p11,p12,p13,p14,p15,p16,p17,p18,p19=>S_7_32_1_0 (L_7_32_1_0 m) some p0 p1 p2 p3 p4 p5 p6 p7 p8 p9 p10 p11 p12 p13 p14 p15 p16 p17 p18 p19
noncomputable def l_7_32_1_0(m:Nat)(a:T_7_32_1_0.E):Option E_7_32_1_0:=L_7_32_1_0 m a.1 a.2.1 a.2.2.1 a.2.2.2.1 a.2.2.2.2.1 a.2.2.2.2.2.1 a.2.2.2.2.2.2.1 a.2.2.2.2.2.2.2.1 a.2.2.2.2.2.2.2.2.1 a.2.2.2.2.2.2.2.2.2.1 a.2.2.2.2.2.2.2.2.2.2.1 a.2.2.2.2.2.2.2.2.2.2.2.1 a.2.2.2.2.2.2.2.2.2.2.2.2.1 a.2.2.2.2.2.2.2.2.2.2.2.2.2.1 a.2.2.2.2.2.2.2.2.2.2.2.2.2.2.1 a.2.2.2.2.2.2.2.2.2.2.2.2.2.2.2.1 a.2.2.2.2.2.2.2.2.2.2.2.2.2.2.2.2.1 a.2.2.2.2.2.2.2.2.2.2.2.2.2.2.2.2.2.1 a.2.2.2.2.2.2.2.2.2.2.2.2.2.2.2.2.2.2.1 a.2.2.2.2.2.2.2.2.2.2.2.2.2.2.2.2.2.2.2.1
noncomputable def O_7_32_1_0{R:Type}:Orc R:=orL T_7_32_1_0 (l_7_32_1_0 FU) Y_7_32_1_0
theorem OK_7_32_1_0{R:Type}:okF (R:=R) sm_7 0 (ni (nf 32 0) 0) O_7_32_1_0:=lp0 T_7_32_1_0 l_7_32_1_0 (fun R K k a=>S_7_32_1_0 (fun p0 p1 p2 p3 p4 p5 p6 p7 p8 p9 p10 p11 p12 p13 p14 p15 p16 p17 p18 p19=>K (p0,p1,p2,p3,p4,p5,p6,p7,p8,p9,p10,p11,p12,p13,p14,p15,p16,p17,p18,p19,())) k a.1 a.2.1 a.2.2.1 a.2.2.2.1 a.2.2.2.2.1 a.2.2.2.2.2.1 a.2.2.2.2.2.2.1 a.2.2.2.2.2.2.2.1 a.2.2.2.2.2.2.2.2.1 a.2.2.2.2.2.2.2.2.2.1 a.2.2.2.2.2.2.2.2.2.2.1 a.2.2.2.2.2.2.2.2.2.2.2.1 a.2.2.2.2.2.2.2.2.2.2.2.2.1 a.2.2.2.2.2.2.2.2.2.2.2.2.2.1 a.2.2.2.2.2.2.2.2.2.2.2.2.2.2.1 a.2.2.2.2.2.2.2.2.2.2.2.2.2.2.2.1 a.2.2.2.2.2.2.2.2.2.2.2.2.2.2.2.2.1 a.2.2.2.2.2.2.2.2.2.2.2.2.2.2.2.2.2.1 a.2.2.2.2.2.2.2.2.2.2.2.2.2.2.2.2.2.2.1 a.2.2.2.2.2.2.2.2.2.2.2.2.2.2.2.2.2.2.2.1) Y_7_32_1_0 (fun _ _ _=>by kernel_rfl) (fun _ _ _=>by
 unfold S_7_32_1_0
 repeat' first|apply gdN|apply condN|rfl) (ok0 _)
noncomputable def T_7_32_1_1:PS:=⟨27,[(2,.kc (.ptr 13 [])),(14,.hv (.int .i64)),(15,.hv (.int .i64))],[.mem (.hv Zy7_2),.mem (.hv Zy7_5),.mem (.hv Zy7_2),.vec 26 (.int .u32),.vec 26 (.int .u32),.mem (.pr (.pr (.kc (.whole 4)) (.hv Zy7_4)) (.hv Zy7_6)),.mem (.hv Zy7_5),.vec 26 (.int .u32),.mem (.pr (.pr (.kc (.whole 7)) (.hv Zy7_4)) (.hv Zy7_6)),.mem (.hv Zy7_5),.vec 26 (.int .u32),.mem (.pr (.pr (.kc (.whole 10)) (.hv Zy7_4)) (.hv Zy7_6)),.mem (.hv Zy7_5),.mem (.pr (.pr (.kc (.whole 7)) (.hv Zy7_4)) (.hv Zy7_6))],13⟩
inductive Sp.E_7_32_1_1 where
 |e0 (p2:Zt7_1) (p3:Zt7_0) (p4:Zt7_1) (p5 p6:List Int) (p7:Zt7_3) (p8 p9:Zt7_0) (p10:List Int) (p11:Zt7_3) (p12 p13:Zt7_0) (p14:List Int) (p15:Zt7_3) (p16 p17:Zt7_0)
noncomputable def Sp.B_7_32_1_1{R:Type}(r:Option E_7_32_1_1)(k0:Zt7_1->Zt7_0->Zt7_1->List Int->List Int->Zt7_3->Zt7_0->Zt7_0->List Int->Zt7_3->Zt7_0->Zt7_0->List Int->Zt7_3->Zt7_0->Zt7_0->Option R):Option R:=match r with
 |none=>none
 |some (.e0 p2 p3 p4 p5 p6 p7 p8 p9 p10 p11 p12 p13 p14 p15 p16 p17)=>k0 p2 p3 p4 p5 p6 p7 p8 p9 p10 p11 p12 p13 p14 p15 p16 p17
theorem Bn_7_32_1_1{A R:Type}{r:Option E_7_32_1_1}{f:A->Option R}{k0:Zt7_1->Zt7_0->Zt7_1->List Int->List Int->Zt7_3->Zt7_0->Zt7_0->List Int->Zt7_3->Zt7_0->Zt7_0->List Int->Zt7_3->Zt7_0->Zt7_0->Option A}{l0:Zt7_1->Zt7_0->Zt7_1->List Int->List Int->Zt7_3->Zt7_0->Zt7_0->List Int->Zt7_3->Zt7_0->Zt7_0->List Int->Zt7_3->Zt7_0->Zt7_0->Option R}(h0:∀p2 p3 p4 p5 p6 p7 p8 p9 p10 p11 p12 p13 p14 p15 p16 p17,(k0 p2 p3 p4 p5 p6 p7 p8 p9 p10 p11 p12 p13 p14 p15 p16 p17).bind f=l0 p2 p3 p4 p5 p6 p7 p8 p9 p10 p11 p12 p13 p14 p15 p16 p17):(B_7_32_1_1 r k0).bind f=B_7_32_1_1 r l0:=by
 cases r with
 |none=>rfl
 |some e=>cases e<;>first|apply h0
noncomputable def Y_7_32_1_1{R:Type}(k:Ex->St->Option R):E_7_32_1_1->Option R
 | .e0 p2 p3 p4 p5 p6 p7 p8 p9 p10 p11 p12 p13 p14 p15 p16 p17=>k (Ex.exit 0) (sx 27 [] [Blk.mem (CV.pure (Ty.pair (Ty.pair (Ty.slice (Ty.int u32)) (Ty.pair (Ty.slice (Ty.int i64)) (Ty.pair (Ty.int i64) Ty.unit))) (Ty.pair (Ty.int i64) (Ty.pair (Ty.int i64) Ty.unit))) p2),Blk.mem (CV.pure (Ty.pair (Ty.int i64) (Ty.pair (Ty.int u32) Ty.unit)) p3),Blk.mem (CV.pure (Ty.pair (Ty.pair (Ty.slice (Ty.int u32)) (Ty.pair (Ty.slice (Ty.int i64)) (Ty.pair (Ty.int i64) Ty.unit))) (Ty.pair (Ty.int i64) (Ty.pair (Ty.int i64) Ty.unit))) p4),Blk.vec 26 (Ty.int u32) p5,Blk.vec 26 (Ty.int u32) p6,Blk.mem (CV.pair (CV.pair (CV.whole 4) (CV.pure (Ty.pair (Ty.slice (Ty.int i64)) (Ty.pair (Ty.int i64) Ty.unit)) p7)) (CV.pure (Ty.pair (Ty.int i64) (Ty.pair (Ty.int i64) Ty.unit)) p8)),Blk.mem (CV.pure (Ty.pair (Ty.int i64) (Ty.pair (Ty.int u32) Ty.unit)) p9),Blk.vec 26 (Ty.int u32) p10,Blk.mem (CV.pair (CV.pair (CV.whole 7) (CV.pure (Ty.pair (Ty.slice (Ty.int i64)) (Ty.pair (Ty.int i64) Ty.unit)) p11)) (CV.pure (Ty.pair (Ty.int i64) (Ty.pair (Ty.int i64) Ty.unit)) p12)),Blk.mem (CV.pure (Ty.pair (Ty.int i64) (Ty.pair (Ty.int u32) Ty.unit)) p13),Blk.vec 26 (Ty.int u32) p14,Blk.mem (CV.pair (CV.pair (CV.whole 10) (CV.pure (Ty.pair (Ty.slice (Ty.int i64)) (Ty.pair (Ty.int i64) Ty.unit)) p15)) (CV.pure (Ty.pair (Ty.int i64) (Ty.pair (Ty.int i64) Ty.unit)) p16)),Blk.mem (CV.pure (Ty.pair (Ty.int i64) (Ty.pair (Ty.int u32) Ty.unit)) p17)] 13)
noncomputable def Sp.S_7_32_1_1{R:Type}(K:Int->Int->((List Int×List Int×Int×Unit)×Int×Int×Unit)->(Int×Int×Unit)->((List Int×List Int×Int×Unit)×Int×Int×Unit)->List Int->List Int->(List Int×Int×Unit)->(Int×Int×Unit)->(Int×Int×Unit)->List Int->(List Int×Int×Unit)->(Int×Int×Unit)->(Int×Int×Unit)->List Int->(List Int×Int×Unit)->(Int×Int×Unit)->(Int×Int×Unit)->(List Int×Int×Unit)->(Int×Int×Unit)->Option R)(k:E_7_32_1_1->Option R)(p0 p1:Int)(p2:(List Int×List Int×Int×Unit)×Int×Int×Unit)(p3:Int×Int×Unit)(p4:(List Int×List Int×Int×Unit)×Int×Int×Unit)(p5 p6:List Int)(p7:List Int×Int×Unit)(p8 p9:Int×Int×Unit)(p10:List Int)(p11:List Int×Int×Unit)(p12 p13:Int×Int×Unit)(p14:List Int)(p15:List Int×Int×Unit)(p16 p17:Int×Int×Unit)(p18:List Int×Int×Unit)(p19:Int×Int×Unit):Option R:=
 bif decide (p1<p0)then gd (inB p1 (length p10)) (gd (decide (toNat p1<length p10)&&true) (gd (inB p1 (length p10)) (gd (decide (toNat p1<length p10)&&true&&true) (K p0 (wrap i64 (p1+1)) p2 p3 p4 p5 p6 p7 p8 p9 (List.set p10 (toNat p1) (wrap u32 (getD p10 (toNat p1) (0:Int)+(1:Int)))) p11 p12 p13 p14 p15 p16 p17 p18 p19))))else k (E_7_32_1_1.e0 p2 p3 p4 p5 p6 p7 p8 p9 p10 p11 p12 p13 p14 p15 p16 p17)
noncomputable def Sp.L_7_32_1_1:Nat->Int->Int->((List Int×List Int×Int×Unit)×Int×Int×Unit)->(Int×Int×Unit)->((List Int×List Int×Int×Unit)×Int×Int×Unit)->List Int->List Int->(List Int×Int×Unit)->(Int×Int×Unit)->(Int×Int×Unit)->List Int->(List Int×Int×Unit)->(Int×Int×Unit)->(Int×Int×Unit)->List Int->(List Int×Int×Unit)->(Int×Int×Unit)->(Int×Int×Unit)->(List Int×Int×Unit)->(Int×Int×Unit)->Option E_7_32_1_1
 |0,_,_,_,_,_,_,_,_,_,_,_,_,_,_,_,_,_,_,_,_=>none
 |m+1,p0,p1,p2,p3,p4,p5,p6,p7,p8,p9,p10,p11,p12,p13,p14,p15,p16,p17,p18,p19=>S_7_32_1_1 (L_7_32_1_1 m) some p0 p1 p2 p3 p4 p5 p6 p7 p8 p9 p10 p11 p12 p13 p14 p15 p16 p17 p18 p19
noncomputable def l_7_32_1_1(m:Nat)(a:T_7_32_1_1.E):Option E_7_32_1_1:=L_7_32_1_1 m a.1 a.2.1 a.2.2.1 a.2.2.2.1 a.2.2.2.2.1 a.2.2.2.2.2.1 a.2.2.2.2.2.2.1 a.2.2.2.2.2.2.2.1 a.2.2.2.2.2.2.2.2.1 a.2.2.2.2.2.2.2.2.2.1 a.2.2.2.2.2.2.2.2.2.2.1 a.2.2.2.2.2.2.2.2.2.2.2.1 a.2.2.2.2.2.2.2.2.2.2.2.2.1 a.2.2.2.2.2.2.2.2.2.2.2.2.2.1 a.2.2.2.2.2.2.2.2.2.2.2.2.2.2.1 a.2.2.2.2.2.2.2.2.2.2.2.2.2.2.2.1 a.2.2.2.2.2.2.2.2.2.2.2.2.2.2.2.2.1 a.2.2.2.2.2.2.2.2.2.2.2.2.2.2.2.2.2.1 a.2.2.2.2.2.2.2.2.2.2.2.2.2.2.2.2.2.2.1 a.2.2.2.2.2.2.2.2.2.2.2.2.2.2.2.2.2.2.2.1
noncomputable def O_7_32_1_1{R:Type}:Orc R:=orL T_7_32_1_1 (l_7_32_1_1 FU) Y_7_32_1_1 O_7_32_1_0
theorem OK_7_32_1_1{R:Type}:okF (R:=R) sm_7 0 (ni (nf 32 0) 0) O_7_32_1_1:=lp0 T_7_32_1_1 l_7_32_1_1 (fun R K k a=>S_7_32_1_1 (fun p0 p1 p2 p3 p4 p5 p6 p7 p8 p9 p10 p11 p12 p13 p14 p15 p16 p17 p18 p19=>K (p0,p1,p2,p3,p4,p5,p6,p7,p8,p9,p10,p11,p12,p13,p14,p15,p16,p17,p18,p19,())) k a.1 a.2.1 a.2.2.1 a.2.2.2.1 a.2.2.2.2.1 a.2.2.2.2.2.1 a.2.2.2.2.2.2.1 a.2.2.2.2.2.2.2.1 a.2.2.2.2.2.2.2.2.1 a.2.2.2.2.2.2.2.2.2.1 a.2.2.2.2.2.2.2.2.2.2.1 a.2.2.2.2.2.2.2.2.2.2.2.1 a.2.2.2.2.2.2.2.2.2.2.2.2.1 a.2.2.2.2.2.2.2.2.2.2.2.2.2.1 a.2.2.2.2.2.2.2.2.2.2.2.2.2.2.1 a.2.2.2.2.2.2.2.2.2.2.2.2.2.2.2.1 a.2.2.2.2.2.2.2.2.2.2.2.2.2.2.2.2.1 a.2.2.2.2.2.2.2.2.2.2.2.2.2.2.2.2.2.1 a.2.2.2.2.2.2.2.2.2.2.2.2.2.2.2.2.2.2.1 a.2.2.2.2.2.2.2.2.2.2.2.2.2.2.2.2.2.2.2.1) Y_7_32_1_1 (fun _ _ _=>by kernel_rfl) (fun _ _ _=>by
 unfold S_7_32_1_1
 repeat' first|apply gdN|apply condN|rfl) OK_7_32_1_0
noncomputable def T_7_32_1_2:PS:=⟨27,[(2,.kc (.ptr 13 [])),(14,.hv (.int .i64)),(15,.hv (.int .i64))],[.mem (.hv Zy7_2),.mem (.hv Zy7_5),.mem (.hv Zy7_2),.vec 26 (.int .u32),.vec 26 (.int .u32),.mem (.pr (.pr (.kc (.whole 4)) (.hv Zy7_4)) (.hv Zy7_6)),.mem (.hv Zy7_5),.vec 26 (.int .u32),.mem (.pr (.pr (.kc (.whole 7)) (.hv Zy7_4)) (.hv Zy7_6)),.mem (.hv Zy7_5),.vec 26 (.int .u32),.mem (.pr (.pr (.kc (.whole 10)) (.hv Zy7_4)) (.hv Zy7_6)),.mem (.hv Zy7_5),.mem (.pr (.pr (.kc (.whole 10)) (.hv Zy7_4)) (.hv Zy7_6))],13⟩
inductive Sp.E_7_32_1_2 where
 |e0 (p2:Zt7_1) (p3:Zt7_0) (p4:Zt7_1) (p5 p6:List Int) (p7:Zt7_3) (p8 p9:Zt7_0) (p10:List Int) (p11:Zt7_3) (p12 p13:Zt7_0) (p14:List Int) (p15:Zt7_3) (p16 p17:Zt7_0)
noncomputable def Sp.B_7_32_1_2{R:Type}(r:Option E_7_32_1_2)(k0:Zt7_1->Zt7_0->Zt7_1->List Int->List Int->Zt7_3->Zt7_0->Zt7_0->List Int->Zt7_3->Zt7_0->Zt7_0->List Int->Zt7_3->Zt7_0->Zt7_0->Option R):Option R:=match r with
 |none=>none
 |some (.e0 p2 p3 p4 p5 p6 p7 p8 p9 p10 p11 p12 p13 p14 p15 p16 p17)=>k0 p2 p3 p4 p5 p6 p7 p8 p9 p10 p11 p12 p13 p14 p15 p16 p17
theorem Bn_7_32_1_2{A R:Type}{r:Option E_7_32_1_2}{f:A->Option R}{k0:Zt7_1->Zt7_0->Zt7_1->List Int->List Int->Zt7_3->Zt7_0->Zt7_0->List Int->Zt7_3->Zt7_0->Zt7_0->List Int->Zt7_3->Zt7_0->Zt7_0->Option A}{l0:Zt7_1->Zt7_0->Zt7_1->List Int->List Int->Zt7_3->Zt7_0->Zt7_0->List Int->Zt7_3->Zt7_0->Zt7_0->List Int->Zt7_3->Zt7_0->Zt7_0->Option R}(h0:∀p2 p3 p4 p5 p6 p7 p8 p9 p10 p11 p12 p13 p14 p15 p16 p17,(k0 p2 p3 p4 p5 p6 p7 p8 p9 p10 p11 p12 p13 p14 p15 p16 p17).bind f=l0 p2 p3 p4 p5 p6 p7 p8 p9 p10 p11 p12 p13 p14 p15 p16 p17):(B_7_32_1_2 r k0).bind f=B_7_32_1_2 r l0:=by
 cases r with
 |none=>rfl
 |some e=>cases e<;>first|apply h0
noncomputable def Y_7_32_1_2{R:Type}(k:Ex->St->Option R):E_7_32_1_2->Option R
 | .e0 p2 p3 p4 p5 p6 p7 p8 p9 p10 p11 p12 p13 p14 p15 p16 p17=>k (Ex.exit 0) (sx 27 [] [Blk.mem (CV.pure (Ty.pair (Ty.pair (Ty.slice (Ty.int u32)) (Ty.pair (Ty.slice (Ty.int i64)) (Ty.pair (Ty.int i64) Ty.unit))) (Ty.pair (Ty.int i64) (Ty.pair (Ty.int i64) Ty.unit))) p2),Blk.mem (CV.pure (Ty.pair (Ty.int i64) (Ty.pair (Ty.int u32) Ty.unit)) p3),Blk.mem (CV.pure (Ty.pair (Ty.pair (Ty.slice (Ty.int u32)) (Ty.pair (Ty.slice (Ty.int i64)) (Ty.pair (Ty.int i64) Ty.unit))) (Ty.pair (Ty.int i64) (Ty.pair (Ty.int i64) Ty.unit))) p4),Blk.vec 26 (Ty.int u32) p5,Blk.vec 26 (Ty.int u32) p6,Blk.mem (CV.pair (CV.pair (CV.whole 4) (CV.pure (Ty.pair (Ty.slice (Ty.int i64)) (Ty.pair (Ty.int i64) Ty.unit)) p7)) (CV.pure (Ty.pair (Ty.int i64) (Ty.pair (Ty.int i64) Ty.unit)) p8)),Blk.mem (CV.pure (Ty.pair (Ty.int i64) (Ty.pair (Ty.int u32) Ty.unit)) p9),Blk.vec 26 (Ty.int u32) p10,Blk.mem (CV.pair (CV.pair (CV.whole 7) (CV.pure (Ty.pair (Ty.slice (Ty.int i64)) (Ty.pair (Ty.int i64) Ty.unit)) p11)) (CV.pure (Ty.pair (Ty.int i64) (Ty.pair (Ty.int i64) Ty.unit)) p12)),Blk.mem (CV.pure (Ty.pair (Ty.int i64) (Ty.pair (Ty.int u32) Ty.unit)) p13),Blk.vec 26 (Ty.int u32) p14,Blk.mem (CV.pair (CV.pair (CV.whole 10) (CV.pure (Ty.pair (Ty.slice (Ty.int i64)) (Ty.pair (Ty.int i64) Ty.unit)) p15)) (CV.pure (Ty.pair (Ty.int i64) (Ty.pair (Ty.int i64) Ty.unit)) p16)),Blk.mem (CV.pure (Ty.pair (Ty.int i64) (Ty.pair (Ty.int u32) Ty.unit)) p17)] 13)
noncomputable def Sp.S_7_32_1_2{R:Type}(K:Int->Int->((List Int×List Int×Int×Unit)×Int×Int×Unit)->(Int×Int×Unit)->((List Int×List Int×Int×Unit)×Int×Int×Unit)->List Int->List Int->(List Int×Int×Unit)->(Int×Int×Unit)->(Int×Int×Unit)->List Int->(List Int×Int×Unit)->(Int×Int×Unit)->(Int×Int×Unit)->List Int->(List Int×Int×Unit)->(Int×Int×Unit)->(Int×Int×Unit)->(List Int×Int×Unit)->(Int×Int×Unit)->Option R)(k:E_7_32_1_2->Option R)(p0 p1:Int)(p2:(List Int×List Int×Int×Unit)×Int×Int×Unit)(p3:Int×Int×Unit)(p4:(List Int×List Int×Int×Unit)×Int×Int×Unit)(p5 p6:List Int)(p7:List Int×Int×Unit)(p8 p9:Int×Int×Unit)(p10:List Int)(p11:List Int×Int×Unit)(p12 p13:Int×Int×Unit)(p14:List Int)(p15:List Int×Int×Unit)(p16 p17:Int×Int×Unit)(p18:List Int×Int×Unit)(p19:Int×Int×Unit):Option R:=
 bif decide (p1<p0)then gd (inB p1 (length p14)) (gd (decide (toNat p1<length p14)&&true) (gd (inB p1 (length p14)) (gd (decide (toNat p1<length p14)&&true&&true) (K p0 (wrap i64 (p1+1)) p2 p3 p4 p5 p6 p7 p8 p9 p10 p11 p12 p13 (List.set p14 (toNat p1) (wrap u32 (getD p14 (toNat p1) (0:Int)+(1:Int)))) p15 p16 p17 p18 p19))))else k (E_7_32_1_2.e0 p2 p3 p4 p5 p6 p7 p8 p9 p10 p11 p12 p13 p14 p15 p16 p17)
noncomputable def Sp.L_7_32_1_2:Nat->Int->Int->((List Int×List Int×Int×Unit)×Int×Int×Unit)->(Int×Int×Unit)->((List Int×List Int×Int×Unit)×Int×Int×Unit)->List Int->List Int->(List Int×Int×Unit)->(Int×Int×Unit)->(Int×Int×Unit)->List Int->(List Int×Int×Unit)->(Int×Int×Unit)->(Int×Int×Unit)->List Int->(List Int×Int×Unit)->(Int×Int×Unit)->(Int×Int×Unit)->(List Int×Int×Unit)->(Int×Int×Unit)->Option E_7_32_1_2
 |0,_,_,_,_,_,_,_,_,_,_,_,_,_,_,_,_,_,_,_,_=>none
 |m+1,p0,p1,p2,p3,p4,p5,p6,p7,p8,p9,p10,p11,p12,p13,p14,p15,p16,p17,p18,p19=>S_7_32_1_2 (L_7_32_1_2 m) some p0 p1 p2 p3 p4 p5 p6 p7 p8 p9 p10 p11 p12 p13 p14 p15 p16 p17 p18 p19
noncomputable def l_7_32_1_2(m:Nat)(a:T_7_32_1_2.E):Option E_7_32_1_2:=L_7_32_1_2 m a.1 a.2.1 a.2.2.1 a.2.2.2.1 a.2.2.2.2.1 a.2.2.2.2.2.1 a.2.2.2.2.2.2.1 a.2.2.2.2.2.2.2.1 a.2.2.2.2.2.2.2.2.1 a.2.2.2.2.2.2.2.2.2.1 a.2.2.2.2.2.2.2.2.2.2.1 a.2.2.2.2.2.2.2.2.2.2.2.1 a.2.2.2.2.2.2.2.2.2.2.2.2.1 a.2.2.2.2.2.2.2.2.2.2.2.2.2.1 a.2.2.2.2.2.2.2.2.2.2.2.2.2.2.1 a.2.2.2.2.2.2.2.2.2.2.2.2.2.2.2.1 a.2.2.2.2.2.2.2.2.2.2.2.2.2.2.2.2.1 a.2.2.2.2.2.2.2.2.2.2.2.2.2.2.2.2.2.1 a.2.2.2.2.2.2.2.2.2.2.2.2.2.2.2.2.2.2.1 a.2.2.2.2.2.2.2.2.2.2.2.2.2.2.2.2.2.2.2.1
noncomputable def O_7_32_1_2{R:Type}:Orc R:=orL T_7_32_1_2 (l_7_32_1_2 FU) Y_7_32_1_2 O_7_32_1_1
theorem OK_7_32_1_2{R:Type}:okF (R:=R) sm_7 0 (ni (nf 32 0) 0) O_7_32_1_2:=lp0 T_7_32_1_2 l_7_32_1_2 (fun R K k a=>S_7_32_1_2 (fun p0 p1 p2 p3 p4 p5 p6 p7 p8 p9 p10 p11 p12 p13 p14 p15 p16 p17 p18 p19=>K (p0,p1,p2,p3,p4,p5,p6,p7,p8,p9,p10,p11,p12,p13,p14,p15,p16,p17,p18,p19,())) k a.1 a.2.1 a.2.2.1 a.2.2.2.1 a.2.2.2.2.1 a.2.2.2.2.2.1 a.2.2.2.2.2.2.1 a.2.2.2.2.2.2.2.1 a.2.2.2.2.2.2.2.2.1 a.2.2.2.2.2.2.2.2.2.1 a.2.2.2.2.2.2.2.2.2.2.1 a.2.2.2.2.2.2.2.2.2.2.2.1 a.2.2.2.2.2.2.2.2.2.2.2.2.1 a.2.2.2.2.2.2.2.2.2.2.2.2.2.1 a.2.2.2.2.2.2.2.2.2.2.2.2.2.2.1 a.2.2.2.2.2.2.2.2.2.2.2.2.2.2.2.1 a.2.2.2.2.2.2.2.2.2.2.2.2.2.2.2.2.1 a.2.2.2.2.2.2.2.2.2.2.2.2.2.2.2.2.2.1 a.2.2.2.2.2.2.2.2.2.2.2.2.2.2.2.2.2.2.1 a.2.2.2.2.2.2.2.2.2.2.2.2.2.2.2.2.2.2.2.1) Y_7_32_1_2 (fun _ _ _=>by kernel_rfl) (fun _ _ _=>by
 unfold S_7_32_1_2
 repeat' first|apply gdN|apply condN|rfl) OK_7_32_1_1
noncomputable def T_7_32_0_0:PS:=⟨27,[(2,.kc (.ptr 13 []))],[.mem (.hv Zy7_2),.mem (.hv Zy7_5),.mem (.hv Zy7_2),.vec 26 (.int .u32),.vec 26 (.int .u32),.mem (.pr (.pr (.kc (.whole 4)) (.hv Zy7_4)) (.hv Zy7_6)),.mem (.hv Zy7_5),.vec 26 (.int .u32),.mem (.pr (.pr (.kc (.whole 7)) (.hv Zy7_4)) (.hv Zy7_6)),.mem (.hv Zy7_5),.vec 26 (.int .u32),.mem (.pr (.pr (.kc (.whole 10)) (.hv Zy7_4)) (.hv Zy7_6)),.mem (.hv Zy7_5),.mem (.pr (.pr (.kc (.whole 4)) (.hv Zy7_4)) (.hv Zy7_6))],13⟩
inductive Sp.E_7_32_0_0 where
 |e0 (y16:Zt7_1) (y17:Zt7_0) (y18:Zt7_1) (y19 y20:List Int) (y21:Zt7_3) (y22 y23:Zt7_0) (y24:List Int) (y25:Zt7_3) (y26 y27:Zt7_0) (y28:List Int) (y29:Zt7_3) (y30 y31:Zt7_0)
noncomputable def Sp.B_7_32_0_0{R:Type}(r:Option E_7_32_0_0)(k0:Zt7_1->Zt7_0->Zt7_1->List Int->List Int->Zt7_3->Zt7_0->Zt7_0->List Int->Zt7_3->Zt7_0->Zt7_0->List Int->Zt7_3->Zt7_0->Zt7_0->Option R):Option R:=match r with
 |none=>none
 |some (.e0 y16 y17 y18 y19 y20 y21 y22 y23 y24 y25 y26 y27 y28 y29 y30 y31)=>k0 y16 y17 y18 y19 y20 y21 y22 y23 y24 y25 y26 y27 y28 y29 y30 y31
noncomputable def Y_7_32_0_0{R:Type}(k:Ex->St->Option R):E_7_32_0_0->Option R
 | .e0 y16 y17 y18 y19 y20 y21 y22 y23 y24 y25 y26 y27 y28 y29 y30 y31=>k Ex.normal (sx 27 [] [Blk.mem (CV.pure (Ty.pair (Ty.pair (Ty.slice (Ty.int u32)) (Ty.pair (Ty.slice (Ty.int i64)) (Ty.pair (Ty.int i64) Ty.unit))) (Ty.pair (Ty.int i64) (Ty.pair (Ty.int i64) Ty.unit))) y16),Blk.mem (CV.pure (Ty.pair (Ty.int i64) (Ty.pair (Ty.int u32) Ty.unit)) y17),Blk.mem (CV.pure (Ty.pair (Ty.pair (Ty.slice (Ty.int u32)) (Ty.pair (Ty.slice (Ty.int i64)) (Ty.pair (Ty.int i64) Ty.unit))) (Ty.pair (Ty.int i64) (Ty.pair (Ty.int i64) Ty.unit))) y18),Blk.vec 26 (Ty.int u32) y19,Blk.vec 26 (Ty.int u32) y20,Blk.mem (CV.pair (CV.pair (CV.whole 4) (CV.pure (Ty.pair (Ty.slice (Ty.int i64)) (Ty.pair (Ty.int i64) Ty.unit)) y21)) (CV.pure (Ty.pair (Ty.int i64) (Ty.pair (Ty.int i64) Ty.unit)) y22)),Blk.mem (CV.pure (Ty.pair (Ty.int i64) (Ty.pair (Ty.int u32) Ty.unit)) y23),Blk.vec 26 (Ty.int u32) y24,Blk.mem (CV.pair (CV.pair (CV.whole 7) (CV.pure (Ty.pair (Ty.slice (Ty.int i64)) (Ty.pair (Ty.int i64) Ty.unit)) y25)) (CV.pure (Ty.pair (Ty.int i64) (Ty.pair (Ty.int i64) Ty.unit)) y26)),Blk.mem (CV.pure (Ty.pair (Ty.int i64) (Ty.pair (Ty.int u32) Ty.unit)) y27),Blk.vec 26 (Ty.int u32) y28,Blk.mem (CV.pair (CV.pair (CV.whole 10) (CV.pure (Ty.pair (Ty.slice (Ty.int i64)) (Ty.pair (Ty.int i64) Ty.unit)) y29)) (CV.pure (Ty.pair (Ty.int i64) (Ty.pair (Ty.int i64) Ty.unit)) y30)),Blk.mem (CV.pure (Ty.pair (Ty.int i64) (Ty.pair (Ty.int u32) Ty.unit)) y31)] 13)
noncomputable def Sp.S_7_32_0_0{R:Type}(k:E_7_32_0_0->Option R)(p0:(List Int×List Int×Int×Unit)×Int×Int×Unit)(p1:Int×Int×Unit)(p2:(List Int×List Int×Int×Unit)×Int×Int×Unit)(p3 p4:List Int)(p5:List Int×Int×Unit)(p6 p7:Int×Int×Unit)(p8:List Int)(p9:List Int×Int×Unit)(p10 p11:Int×Int×Unit)(p12:List Int)(p13:List Int×Int×Unit)(p14 p15:Int×Int×Unit)(p16:List Int×Int×Unit)(p17:Int×Int×Unit):Option R:=
 B_7_32_1_0 (L_7_32_1_0 4611686018427387904 (↑(length p4):Int) 0 p0 p1 p2 p3 p4 p5 p6 p7 p8 p9 p10 p11 p12 p13 p14 p15 p16 p17) fun y16 y17 y18 y19 y20 y21 y22 y23 y24 y25 y26 y27 y28 y29 y30 y31=>k (E_7_32_0_0.e0 y16 y17 y18 y19 y20 y21 y22 y23 y24 y25 y26 y27 y28 y29 y30 y31)
noncomputable def Sp.J_7_32_0_0(p0:(List Int×List Int×Int×Unit)×Int×Int×Unit)(p1:Int×Int×Unit)(p2:(List Int×List Int×Int×Unit)×Int×Int×Unit)(p3 p4:List Int)(p5:List Int×Int×Unit)(p6 p7:Int×Int×Unit)(p8:List Int)(p9:List Int×Int×Unit)(p10 p11:Int×Int×Unit)(p12:List Int)(p13:List Int×Int×Unit)(p14 p15:Int×Int×Unit)(p16:List Int×Int×Unit)(p17:Int×Int×Unit):Option E_7_32_0_0:=S_7_32_0_0 some p0 p1 p2 p3 p4 p5 p6 p7 p8 p9 p10 p11 p12 p13 p14 p15 p16 p17
noncomputable def O_7_32_0_0{R:Type}:Orc R:=orL T_7_32_0_0 (fun a=>J_7_32_0_0 a.1 a.2.1 a.2.2.1 a.2.2.2.1 a.2.2.2.2.1 a.2.2.2.2.2.1 a.2.2.2.2.2.2.1 a.2.2.2.2.2.2.2.1 a.2.2.2.2.2.2.2.2.1 a.2.2.2.2.2.2.2.2.2.1 a.2.2.2.2.2.2.2.2.2.2.1 a.2.2.2.2.2.2.2.2.2.2.2.1 a.2.2.2.2.2.2.2.2.2.2.2.2.1 a.2.2.2.2.2.2.2.2.2.2.2.2.2.1 a.2.2.2.2.2.2.2.2.2.2.2.2.2.2.1 a.2.2.2.2.2.2.2.2.2.2.2.2.2.2.2.1 a.2.2.2.2.2.2.2.2.2.2.2.2.2.2.2.2.1 a.2.2.2.2.2.2.2.2.2.2.2.2.2.2.2.2.2.1) Y_7_32_0_0
theorem OK_7_32_0_0{R:Type}:okF (R:=R) sm_7 0 (nf 32 0) O_7_32_0_0:=jp noO_ok (os:=[O_7_32_1_2]) ⟨OK_7_32_1_2,trivial⟩ T_7_32_0_0 (fun R k a=>S_7_32_0_0 k a.1 a.2.1 a.2.2.1 a.2.2.2.1 a.2.2.2.2.1 a.2.2.2.2.2.1 a.2.2.2.2.2.2.1 a.2.2.2.2.2.2.2.1 a.2.2.2.2.2.2.2.2.1 a.2.2.2.2.2.2.2.2.2.1 a.2.2.2.2.2.2.2.2.2.2.1 a.2.2.2.2.2.2.2.2.2.2.2.1 a.2.2.2.2.2.2.2.2.2.2.2.2.1 a.2.2.2.2.2.2.2.2.2.2.2.2.2.1 a.2.2.2.2.2.2.2.2.2.2.2.2.2.2.1 a.2.2.2.2.2.2.2.2.2.2.2.2.2.2.2.1 a.2.2.2.2.2.2.2.2.2.2.2.2.2.2.2.2.1 a.2.2.2.2.2.2.2.2.2.2.2.2.2.2.2.2.2.1) Y_7_32_0_0 (fun k a=>by kernel_rfl) (fun Y a=>by
 unfold S_7_32_0_0
 repeat' first|apply gdN|apply condN|(apply Bn_7_32_1_0<;>intros)|rfl) (ok0 _)
noncomputable def T_7_32_0_1:PS:=⟨27,[(2,.kc (.ptr 13 []))],[.mem (.hv Zy7_2),.mem (.hv Zy7_5),.mem (.hv Zy7_2),.vec 26 (.int .u32),.vec 26 (.int .u32),.mem (.pr (.pr (.kc (.whole 4)) (.hv Zy7_4)) (.hv Zy7_6)),.mem (.hv Zy7_5),.vec 26 (.int .u32),.mem (.pr (.pr (.kc (.whole 7)) (.hv Zy7_4)) (.hv Zy7_6)),.mem (.hv Zy7_5),.vec 26 (.int .u32),.mem (.pr (.pr (.kc (.whole 10)) (.hv Zy7_4)) (.hv Zy7_6)),.mem (.hv Zy7_5),.mem (.pr (.pr (.kc (.whole 7)) (.hv Zy7_4)) (.hv Zy7_6))],13⟩
inductive Sp.E_7_32_0_1 where
 |e0 (y16:Zt7_1) (y17:Zt7_0) (y18:Zt7_1) (y19 y20:List Int) (y21:Zt7_3) (y22 y23:Zt7_0) (y24:List Int) (y25:Zt7_3) (y26 y27:Zt7_0) (y28:List Int) (y29:Zt7_3) (y30 y31:Zt7_0)
noncomputable def Sp.B_7_32_0_1{R:Type}(r:Option E_7_32_0_1)(k0:Zt7_1->Zt7_0->Zt7_1->List Int->List Int->Zt7_3->Zt7_0->Zt7_0->List Int->Zt7_3->Zt7_0->Zt7_0->List Int->Zt7_3->Zt7_0->Zt7_0->Option R):Option R:=match r with
 |none=>none
 |some (.e0 y16 y17 y18 y19 y20 y21 y22 y23 y24 y25 y26 y27 y28 y29 y30 y31)=>k0 y16 y17 y18 y19 y20 y21 y22 y23 y24 y25 y26 y27 y28 y29 y30 y31
noncomputable def Y_7_32_0_1{R:Type}(k:Ex->St->Option R):E_7_32_0_1->Option R
 | .e0 y16 y17 y18 y19 y20 y21 y22 y23 y24 y25 y26 y27 y28 y29 y30 y31=>k Ex.normal (sx 27 [] [Blk.mem (CV.pure (Ty.pair (Ty.pair (Ty.slice (Ty.int u32)) (Ty.pair (Ty.slice (Ty.int i64)) (Ty.pair (Ty.int i64) Ty.unit))) (Ty.pair (Ty.int i64) (Ty.pair (Ty.int i64) Ty.unit))) y16),Blk.mem (CV.pure (Ty.pair (Ty.int i64) (Ty.pair (Ty.int u32) Ty.unit)) y17),Blk.mem (CV.pure (Ty.pair (Ty.pair (Ty.slice (Ty.int u32)) (Ty.pair (Ty.slice (Ty.int i64)) (Ty.pair (Ty.int i64) Ty.unit))) (Ty.pair (Ty.int i64) (Ty.pair (Ty.int i64) Ty.unit))) y18),Blk.vec 26 (Ty.int u32) y19,Blk.vec 26 (Ty.int u32) y20,Blk.mem (CV.pair (CV.pair (CV.whole 4) (CV.pure (Ty.pair (Ty.slice (Ty.int i64)) (Ty.pair (Ty.int i64) Ty.unit)) y21)) (CV.pure (Ty.pair (Ty.int i64) (Ty.pair (Ty.int i64) Ty.unit)) y22)),Blk.mem (CV.pure (Ty.pair (Ty.int i64) (Ty.pair (Ty.int u32) Ty.unit)) y23),Blk.vec 26 (Ty.int u32) y24,Blk.mem (CV.pair (CV.pair (CV.whole 7) (CV.pure (Ty.pair (Ty.slice (Ty.int i64)) (Ty.pair (Ty.int i64) Ty.unit)) y25)) (CV.pure (Ty.pair (Ty.int i64) (Ty.pair (Ty.int i64) Ty.unit)) y26)),Blk.mem (CV.pure (Ty.pair (Ty.int i64) (Ty.pair (Ty.int u32) Ty.unit)) y27),Blk.vec 26 (Ty.int u32) y28,Blk.mem (CV.pair (CV.pair (CV.whole 10) (CV.pure (Ty.pair (Ty.slice (Ty.int i64)) (Ty.pair (Ty.int i64) Ty.unit)) y29)) (CV.pure (Ty.pair (Ty.int i64) (Ty.pair (Ty.int i64) Ty.unit)) y30)),Blk.mem (CV.pure (Ty.pair (Ty.int i64) (Ty.pair (Ty.int u32) Ty.unit)) y31)] 13)
noncomputable def Sp.S_7_32_0_1{R:Type}(k:E_7_32_0_1->Option R)(p0:(List Int×List Int×Int×Unit)×Int×Int×Unit)(p1:Int×Int×Unit)(p2:(List Int×List Int×Int×Unit)×Int×Int×Unit)(p3 p4:List Int)(p5:List Int×Int×Unit)(p6 p7:Int×Int×Unit)(p8:List Int)(p9:List Int×Int×Unit)(p10 p11:Int×Int×Unit)(p12:List Int)(p13:List Int×Int×Unit)(p14 p15:Int×Int×Unit)(p16:List Int×Int×Unit)(p17:Int×Int×Unit):Option R:=
 B_7_32_1_1 (L_7_32_1_1 4611686018427387904 (↑(length p8):Int) 0 p0 p1 p2 p3 p4 p5 p6 p7 p8 p9 p10 p11 p12 p13 p14 p15 p16 p17) fun y16 y17 y18 y19 y20 y21 y22 y23 y24 y25 y26 y27 y28 y29 y30 y31=>k (E_7_32_0_1.e0 y16 y17 y18 y19 y20 y21 y22 y23 y24 y25 y26 y27 y28 y29 y30 y31)
noncomputable def Sp.J_7_32_0_1(p0:(List Int×List Int×Int×Unit)×Int×Int×Unit)(p1:Int×Int×Unit)(p2:(List Int×List Int×Int×Unit)×Int×Int×Unit)(p3 p4:List Int)(p5:List Int×Int×Unit)(p6 p7:Int×Int×Unit)(p8:List Int)(p9:List Int×Int×Unit)(p10 p11:Int×Int×Unit)(p12:List Int)(p13:List Int×Int×Unit)(p14 p15:Int×Int×Unit)(p16:List Int×Int×Unit)(p17:Int×Int×Unit):Option E_7_32_0_1:=S_7_32_0_1 some p0 p1 p2 p3 p4 p5 p6 p7 p8 p9 p10 p11 p12 p13 p14 p15 p16 p17
noncomputable def O_7_32_0_1{R:Type}:Orc R:=orL T_7_32_0_1 (fun a=>J_7_32_0_1 a.1 a.2.1 a.2.2.1 a.2.2.2.1 a.2.2.2.2.1 a.2.2.2.2.2.1 a.2.2.2.2.2.2.1 a.2.2.2.2.2.2.2.1 a.2.2.2.2.2.2.2.2.1 a.2.2.2.2.2.2.2.2.2.1 a.2.2.2.2.2.2.2.2.2.2.1 a.2.2.2.2.2.2.2.2.2.2.2.1 a.2.2.2.2.2.2.2.2.2.2.2.2.1 a.2.2.2.2.2.2.2.2.2.2.2.2.2.1 a.2.2.2.2.2.2.2.2.2.2.2.2.2.2.1 a.2.2.2.2.2.2.2.2.2.2.2.2.2.2.2.1 a.2.2.2.2.2.2.2.2.2.2.2.2.2.2.2.2.1 a.2.2.2.2.2.2.2.2.2.2.2.2.2.2.2.2.2.1) Y_7_32_0_1 O_7_32_0_0
theorem OK_7_32_0_1{R:Type}:okF (R:=R) sm_7 0 (nf 32 0) O_7_32_0_1:=jp noO_ok (os:=[O_7_32_1_2]) ⟨OK_7_32_1_2,trivial⟩ T_7_32_0_1 (fun R k a=>S_7_32_0_1 k a.1 a.2.1 a.2.2.1 a.2.2.2.1 a.2.2.2.2.1 a.2.2.2.2.2.1 a.2.2.2.2.2.2.1 a.2.2.2.2.2.2.2.1 a.2.2.2.2.2.2.2.2.1 a.2.2.2.2.2.2.2.2.2.1 a.2.2.2.2.2.2.2.2.2.2.1 a.2.2.2.2.2.2.2.2.2.2.2.1 a.2.2.2.2.2.2.2.2.2.2.2.2.1 a.2.2.2.2.2.2.2.2.2.2.2.2.2.1 a.2.2.2.2.2.2.2.2.2.2.2.2.2.2.1 a.2.2.2.2.2.2.2.2.2.2.2.2.2.2.2.1 a.2.2.2.2.2.2.2.2.2.2.2.2.2.2.2.2.1 a.2.2.2.2.2.2.2.2.2.2.2.2.2.2.2.2.2.1) Y_7_32_0_1 (fun k a=>by kernel_rfl) (fun Y a=>by
 unfold S_7_32_0_1
 repeat' first|apply gdN|apply condN|(apply Bn_7_32_1_1<;>intros)|rfl) OK_7_32_0_0
noncomputable def T_7_32_0_2:PS:=⟨27,[(2,.kc (.ptr 13 []))],[.mem (.hv Zy7_2),.mem (.hv Zy7_5),.mem (.hv Zy7_2),.vec 26 (.int .u32),.vec 26 (.int .u32),.mem (.pr (.pr (.kc (.whole 4)) (.hv Zy7_4)) (.hv Zy7_6)),.mem (.hv Zy7_5),.vec 26 (.int .u32),.mem (.pr (.pr (.kc (.whole 7)) (.hv Zy7_4)) (.hv Zy7_6)),.mem (.hv Zy7_5),.vec 26 (.int .u32),.mem (.pr (.pr (.kc (.whole 10)) (.hv Zy7_4)) (.hv Zy7_6)),.mem (.hv Zy7_5),.mem (.pr (.pr (.kc (.whole 10)) (.hv Zy7_4)) (.hv Zy7_6))],13⟩
inductive Sp.E_7_32_0_2 where
 |e0 (y16:Zt7_1) (y17:Zt7_0) (y18:Zt7_1) (y19 y20:List Int) (y21:Zt7_3) (y22 y23:Zt7_0) (y24:List Int) (y25:Zt7_3) (y26 y27:Zt7_0) (y28:List Int) (y29:Zt7_3) (y30 y31:Zt7_0)
noncomputable def Sp.B_7_32_0_2{R:Type}(r:Option E_7_32_0_2)(k0:Zt7_1->Zt7_0->Zt7_1->List Int->List Int->Zt7_3->Zt7_0->Zt7_0->List Int->Zt7_3->Zt7_0->Zt7_0->List Int->Zt7_3->Zt7_0->Zt7_0->Option R):Option R:=match r with
 |none=>none
 |some (.e0 y16 y17 y18 y19 y20 y21 y22 y23 y24 y25 y26 y27 y28 y29 y30 y31)=>k0 y16 y17 y18 y19 y20 y21 y22 y23 y24 y25 y26 y27 y28 y29 y30 y31
noncomputable def Y_7_32_0_2{R:Type}(k:Ex->St->Option R):E_7_32_0_2->Option R
 | .e0 y16 y17 y18 y19 y20 y21 y22 y23 y24 y25 y26 y27 y28 y29 y30 y31=>k Ex.normal (sx 27 [] [Blk.mem (CV.pure (Ty.pair (Ty.pair (Ty.slice (Ty.int u32)) (Ty.pair (Ty.slice (Ty.int i64)) (Ty.pair (Ty.int i64) Ty.unit))) (Ty.pair (Ty.int i64) (Ty.pair (Ty.int i64) Ty.unit))) y16),Blk.mem (CV.pure (Ty.pair (Ty.int i64) (Ty.pair (Ty.int u32) Ty.unit)) y17),Blk.mem (CV.pure (Ty.pair (Ty.pair (Ty.slice (Ty.int u32)) (Ty.pair (Ty.slice (Ty.int i64)) (Ty.pair (Ty.int i64) Ty.unit))) (Ty.pair (Ty.int i64) (Ty.pair (Ty.int i64) Ty.unit))) y18),Blk.vec 26 (Ty.int u32) y19,Blk.vec 26 (Ty.int u32) y20,Blk.mem (CV.pair (CV.pair (CV.whole 4) (CV.pure (Ty.pair (Ty.slice (Ty.int i64)) (Ty.pair (Ty.int i64) Ty.unit)) y21)) (CV.pure (Ty.pair (Ty.int i64) (Ty.pair (Ty.int i64) Ty.unit)) y22)),Blk.mem (CV.pure (Ty.pair (Ty.int i64) (Ty.pair (Ty.int u32) Ty.unit)) y23),Blk.vec 26 (Ty.int u32) y24,Blk.mem (CV.pair (CV.pair (CV.whole 7) (CV.pure (Ty.pair (Ty.slice (Ty.int i64)) (Ty.pair (Ty.int i64) Ty.unit)) y25)) (CV.pure (Ty.pair (Ty.int i64) (Ty.pair (Ty.int i64) Ty.unit)) y26)),Blk.mem (CV.pure (Ty.pair (Ty.int i64) (Ty.pair (Ty.int u32) Ty.unit)) y27),Blk.vec 26 (Ty.int u32) y28,Blk.mem (CV.pair (CV.pair (CV.whole 10) (CV.pure (Ty.pair (Ty.slice (Ty.int i64)) (Ty.pair (Ty.int i64) Ty.unit)) y29)) (CV.pure (Ty.pair (Ty.int i64) (Ty.pair (Ty.int i64) Ty.unit)) y30)),Blk.mem (CV.pure (Ty.pair (Ty.int i64) (Ty.pair (Ty.int u32) Ty.unit)) y31)] 13)
noncomputable def Sp.S_7_32_0_2{R:Type}(k:E_7_32_0_2->Option R)(p0:(List Int×List Int×Int×Unit)×Int×Int×Unit)(p1:Int×Int×Unit)(p2:(List Int×List Int×Int×Unit)×Int×Int×Unit)(p3 p4:List Int)(p5:List Int×Int×Unit)(p6 p7:Int×Int×Unit)(p8:List Int)(p9:List Int×Int×Unit)(p10 p11:Int×Int×Unit)(p12:List Int)(p13:List Int×Int×Unit)(p14 p15:Int×Int×Unit)(p16:List Int×Int×Unit)(p17:Int×Int×Unit):Option R:=
 B_7_32_1_2 (L_7_32_1_2 4611686018427387904 (↑(length p12):Int) 0 p0 p1 p2 p3 p4 p5 p6 p7 p8 p9 p10 p11 p12 p13 p14 p15 p16 p17) fun y16 y17 y18 y19 y20 y21 y22 y23 y24 y25 y26 y27 y28 y29 y30 y31=>k (E_7_32_0_2.e0 y16 y17 y18 y19 y20 y21 y22 y23 y24 y25 y26 y27 y28 y29 y30 y31)
noncomputable def Sp.J_7_32_0_2(p0:(List Int×List Int×Int×Unit)×Int×Int×Unit)(p1:Int×Int×Unit)(p2:(List Int×List Int×Int×Unit)×Int×Int×Unit)(p3 p4:List Int)(p5:List Int×Int×Unit)(p6 p7:Int×Int×Unit)(p8:List Int)(p9:List Int×Int×Unit)(p10 p11:Int×Int×Unit)(p12:List Int)(p13:List Int×Int×Unit)(p14 p15:Int×Int×Unit)(p16:List Int×Int×Unit)(p17:Int×Int×Unit):Option E_7_32_0_2:=S_7_32_0_2 some p0 p1 p2 p3 p4 p5 p6 p7 p8 p9 p10 p11 p12 p13 p14 p15 p16 p17
noncomputable def O_7_32_0_2{R:Type}:Orc R:=orL T_7_32_0_2 (fun a=>J_7_32_0_2 a.1 a.2.1 a.2.2.1 a.2.2.2.1 a.2.2.2.2.1 a.2.2.2.2.2.1 a.2.2.2.2.2.2.1 a.2.2.2.2.2.2.2.1 a.2.2.2.2.2.2.2.2.1 a.2.2.2.2.2.2.2.2.2.1 a.2.2.2.2.2.2.2.2.2.2.1 a.2.2.2.2.2.2.2.2.2.2.2.1 a.2.2.2.2.2.2.2.2.2.2.2.2.1 a.2.2.2.2.2.2.2.2.2.2.2.2.2.1 a.2.2.2.2.2.2.2.2.2.2.2.2.2.2.1 a.2.2.2.2.2.2.2.2.2.2.2.2.2.2.2.1 a.2.2.2.2.2.2.2.2.2.2.2.2.2.2.2.2.1 a.2.2.2.2.2.2.2.2.2.2.2.2.2.2.2.2.2.1) Y_7_32_0_2 O_7_32_0_1
theorem OK_7_32_0_2{R:Type}:okF (R:=R) sm_7 0 (nf 32 0) O_7_32_0_2:=jp noO_ok (os:=[O_7_32_1_2]) ⟨OK_7_32_1_2,trivial⟩ T_7_32_0_2 (fun R k a=>S_7_32_0_2 k a.1 a.2.1 a.2.2.1 a.2.2.2.1 a.2.2.2.2.1 a.2.2.2.2.2.1 a.2.2.2.2.2.2.1 a.2.2.2.2.2.2.2.1 a.2.2.2.2.2.2.2.2.1 a.2.2.2.2.2.2.2.2.2.1 a.2.2.2.2.2.2.2.2.2.2.1 a.2.2.2.2.2.2.2.2.2.2.2.1 a.2.2.2.2.2.2.2.2.2.2.2.2.1 a.2.2.2.2.2.2.2.2.2.2.2.2.2.1 a.2.2.2.2.2.2.2.2.2.2.2.2.2.2.1 a.2.2.2.2.2.2.2.2.2.2.2.2.2.2.2.1 a.2.2.2.2.2.2.2.2.2.2.2.2.2.2.2.2.1 a.2.2.2.2.2.2.2.2.2.2.2.2.2.2.2.2.2.1) Y_7_32_0_2 (fun k a=>by kernel_rfl) (fun Y a=>by
 unfold S_7_32_0_2
 repeat' first|apply gdN|apply condN|(apply Bn_7_32_1_2<;>intros)|rfl) OK_7_32_0_1
noncomputable def g_7_32{R:Type}:List CV->List Blk->(CV->List Blk->Option R)->Option R:=evFnL sm_7 FU (ovr noO (evFn sm_7 fns FU 0)) (mkT (fB fns 32) [O_7_32_0_2]) (fO fns 32)
theorem g_7_32_ok{R:Type}(args:List CV)(hp:List Blk)(k:CV->List Blk->Option R)(r:R)(h:g_7_32 args hp k=some r):evFn sm_7 fns FU 1 32 args hp k=some r:=runG noO_ok (os:=[O_7_32_0_2]) ⟨OK_7_32_0_2,trivial⟩ h
noncomputable def ov_7_7{R:Type}:Nat->Option (List CV->List Blk->(CV->List Blk->Option R)->Option R):=fun f'=>bif Nat.beq f' 32 then some g_7_32 else none
theorem ov_7_7_ok{R:Type}:OvrOK (R:=R) ov_7_7 (evFn sm_7 fns FU 2):=by
 intro f' g h args hp k r hg
 dsimp only[ov_7_7]at h
 by_cases h32:f'=32
 ·subst h32
  injection h with h
  subst h
  exact evFn_le 1 (g_7_32_ok _ _ _ _ hg)
 rw[nbeq_ne h32,cond_false]at h
 cases h
noncomputable def F_7(a0:(((List Int)×((List Int)×(Int×Unit)))×(Int×(Int×Unit))))(a1:Int)(a2:(List Int))(a3:(Int×(Int×Unit))):Option ((List Int)×(((List Int)×((List Int)×(Int×Unit)))×(Int×(Int×Unit)))×(((List Int)×((List Int)×(Int×Unit)))×(Int×(Int×Unit)))×(List Int)×Unit) :=
 gd p_9 (bif !v_9.1 then none else gd (p_10 (a0.1)) (bif(v_10 (a0.1)).1 then none else bif decide ((↑(length a2):Int)>24)then none else gd (p_30 (a0.1)) (gd (room (length a2) 4) (gd (p_19 a0 a1 a2 a3) (gd (p_23 a0 a3) (gd (p_11 (a0.1) (a0.2.1) (a0.2.2.1) a3) (bif(v_19 a0 a1 a2 a3).2.2.1==0 then B_7_32_0_0 (J_7_32_0_0 a0 a3 ((v_30 (a0.1)).1,a0.2) a2 ((v_19 a0 a1 a2 a3).1.1.1) ((v_19 a0 a1 a2 a3).1.1.2) ((v_19 a0 a1 a2 a3).1.2) ((v_19 a0 a1 a2 a3).2.1) ((v_23 a0 a3).1.1.1) ((v_23 a0 a3).1.1.2) ((v_23 a0 a3).1.2) ((v_23 a0 a3).2.1) ((v_11 (a0.1) (a0.2.1) (a0.2.2.1) a3).1.1.1) ((v_11 (a0.1) (a0.2.1) (a0.2.2.1) a3).1.1.2) ((v_11 (a0.1) (a0.2.1) (a0.2.2.1) a3).1.2) ((v_11 (a0.1) (a0.2.1) (a0.2.2.1) a3).2.1) ((v_19 a0 a1 a2 a3).1.1.2) ((v_19 a0 a1 a2 a3).1.2)) fun y420 y421 y422 y423 y424 y425 y426 y427 y428 y429 y430 y431 y432 y433 y434 y435=>bif(v_23 a0 a3).2.2.1==0 then B_7_32_0_1 (J_7_32_0_1 y420 y421 y422 y423 y424 y425 y426 y427 y428 y429 y430 y431 y432 y433 y434 y435 y429 y430) fun y436 y437 y438 y439 y440 y441 y442 y443 y444 y445 y446 y447 y448 y449 y450 y451=>bif(v_11 (a0.1) (a0.2.1) (a0.2.2.1) a3).2.2.1==0 then B_7_32_0_2 (J_7_32_0_2 y436 y437 y438 y439 y440 y441 y442 y443 y444 y445 y446 y447 y448 y449 y450 y451 y449 y450) fun y452 y453 y454 y455 y456 y457 y458 y459 y460 y461 y462 y463 y464 y465 y466 y467=>some (a2,y452,y454,y455,PUnit.unit)else bif(v_11 (a0.1) (a0.2.1) (a0.2.2.1) a3).2.2.1==18 then B_7_32_0_2 (J_7_32_0_2 y436 y437 y438 y439 y440 y441 y442 y443 y444 y445 y446 y447 y448 y449 y450 y451 y449 y450) fun y468 y469 y470 y471 y472 y473 y474 y475 y476 y477 y478 y479 y480 y481 y482 y483=>some (a2,y468,y470,y471,PUnit.unit)else some (a2,y436,y438,y439,PUnit.unit)else bif(v_23 a0 a3).2.2.1==18 then B_7_32_0_1 (J_7_32_0_1 y420 y421 y422 y423 y424 y425 y426 y427 y428 y429 y430 y431 y432 y433 y434 y435 y429 y430) fun y484 y485 y486 y487 y488 y489 y490 y491 y492 y493 y494 y495 y496 y497 y498 y499=>bif(v_11 (a0.1) (a0.2.1) (a0.2.2.1) a3).2.2.1==0 then B_7_32_0_2 (J_7_32_0_2 y484 y485 y486 y487 y488 y489 y490 y491 y492 y493 y494 y495 y496 y497 y498 y499 y497 y498) fun y500 y501 y502 y503 y504 y505 y506 y507 y508 y509 y510 y511 y512 y513 y514 y515=>some (a2,y500,y502,y503,PUnit.unit)else bif(v_11 (a0.1) (a0.2.1) (a0.2.2.1) a3).2.2.1==18 then B_7_32_0_2 (J_7_32_0_2 y484 y485 y486 y487 y488 y489 y490 y491 y492 y493 y494 y495 y496 y497 y498 y499 y497 y498) fun y516 y517 y518 y519 y520 y521 y522 y523 y524 y525 y526 y527 y528 y529 y530 y531=>some (a2,y516,y518,y519,PUnit.unit)else some (a2,y484,y486,y487,PUnit.unit)else bif(v_11 (a0.1) (a0.2.1) (a0.2.2.1) a3).2.2.1==0 then B_7_32_0_2 (J_7_32_0_2 y420 y421 y422 y423 y424 y425 y426 y427 y428 y429 y430 y431 y432 y433 y434 y435 y433 y434) fun y532 y533 y534 y535 y536 y537 y538 y539 y540 y541 y542 y543 y544 y545 y546 y547=>some (a2,y532,y534,y535,PUnit.unit)else bif(v_11 (a0.1) (a0.2.1) (a0.2.2.1) a3).2.2.1==18 then B_7_32_0_2 (J_7_32_0_2 y420 y421 y422 y423 y424 y425 y426 y427 y428 y429 y430 y431 y432 y433 y434 y435 y433 y434) fun y548 y549 y550 y551 y552 y553 y554 y555 y556 y557 y558 y559 y560 y561 y562 y563=>some (a2,y548,y550,y551,PUnit.unit)else some (a2,y420,y422,y423,PUnit.unit)else bif(v_19 a0 a1 a2 a3).2.2.1==18 then B_7_32_0_0 (J_7_32_0_0 a0 a3 ((v_30 (a0.1)).1,a0.2) a2 ((v_19 a0 a1 a2 a3).1.1.1) ((v_19 a0 a1 a2 a3).1.1.2) ((v_19 a0 a1 a2 a3).1.2) ((v_19 a0 a1 a2 a3).2.1) ((v_23 a0 a3).1.1.1) ((v_23 a0 a3).1.1.2) ((v_23 a0 a3).1.2) ((v_23 a0 a3).2.1) ((v_11 (a0.1) (a0.2.1) (a0.2.2.1) a3).1.1.1) ((v_11 (a0.1) (a0.2.1) (a0.2.2.1) a3).1.1.2) ((v_11 (a0.1) (a0.2.1) (a0.2.2.1) a3).1.2) ((v_11 (a0.1) (a0.2.1) (a0.2.2.1) a3).2.1) ((v_19 a0 a1 a2 a3).1.1.2) ((v_19 a0 a1 a2 a3).1.2)) fun y564 y565 y566 y567 y568 y569 y570 y571 y572 y573 y574 y575 y576 y577 y578 y579=>bif(v_23 a0 a3).2.2.1==0 then B_7_32_0_1 (J_7_32_0_1 y564 y565 y566 y567 y568 y569 y570 y571 y572 y573 y574 y575 y576 y577 y578 y579 y573 y574) fun y580 y581 y582 y583 y584 y585 y586 y587 y588 y589 y590 y591 y592 y593 y594 y595=>bif(v_11 (a0.1) (a0.2.1) (a0.2.2.1) a3).2.2.1==0 then B_7_32_0_2 (J_7_32_0_2 y580 y581 y582 y583 y584 y585 y586 y587 y588 y589 y590 y591 y592 y593 y594 y595 y593 y594) fun y596 y597 y598 y599 y600 y601 y602 y603 y604 y605 y606 y607 y608 y609 y610 y611=>some (a2,y596,y598,y599,PUnit.unit)else bif(v_11 (a0.1) (a0.2.1) (a0.2.2.1) a3).2.2.1==18 then B_7_32_0_2 (J_7_32_0_2 y580 y581 y582 y583 y584 y585 y586 y587 y588 y589 y590 y591 y592 y593 y594 y595 y593 y594) fun y612 y613 y614 y615 y616 y617 y618 y619 y620 y621 y622 y623 y624 y625 y626 y627=>some (a2,y612,y614,y615,PUnit.unit)else some (a2,y580,y582,y583,PUnit.unit)else bif(v_23 a0 a3).2.2.1==18 then B_7_32_0_1 (J_7_32_0_1 y564 y565 y566 y567 y568 y569 y570 y571 y572 y573 y574 y575 y576 y577 y578 y579 y573 y574) fun y628 y629 y630 y631 y632 y633 y634 y635 y636 y637 y638 y639 y640 y641 y642 y643=>bif(v_11 (a0.1) (a0.2.1) (a0.2.2.1) a3).2.2.1==0 then B_7_32_0_2 (J_7_32_0_2 y628 y629 y630 y631 y632 y633 y634 y635 y636 y637 y638 y639 y640 y641 y642 y643 y641 y642) fun y644 y645 y646 y647 y648 y649 y650 y651 y652 y653 y654 y655 y656 y657 y658 y659=>some (a2,y644,y646,y647,PUnit.unit)else bif(v_11 (a0.1) (a0.2.1) (a0.2.2.1) a3).2.2.1==18 then B_7_32_0_2 (J_7_32_0_2 y628 y629 y630 y631 y632 y633 y634 y635 y636 y637 y638 y639 y640 y641 y642 y643 y641 y642) fun y660 y661 y662 y663 y664 y665 y666 y667 y668 y669 y670 y671 y672 y673 y674 y675=>some (a2,y660,y662,y663,PUnit.unit)else some (a2,y628,y630,y631,PUnit.unit)else bif(v_11 (a0.1) (a0.2.1) (a0.2.2.1) a3).2.2.1==0 then B_7_32_0_2 (J_7_32_0_2 y564 y565 y566 y567 y568 y569 y570 y571 y572 y573 y574 y575 y576 y577 y578 y579 y577 y578) fun y676 y677 y678 y679 y680 y681 y682 y683 y684 y685 y686 y687 y688 y689 y690 y691=>some (a2,y676,y678,y679,PUnit.unit)else bif(v_11 (a0.1) (a0.2.1) (a0.2.2.1) a3).2.2.1==18 then B_7_32_0_2 (J_7_32_0_2 y564 y565 y566 y567 y568 y569 y570 y571 y572 y573 y574 y575 y576 y577 y578 y579 y577 y578) fun y692 y693 y694 y695 y696 y697 y698 y699 y700 y701 y702 y703 y704 y705 y706 y707=>some (a2,y692,y694,y695,PUnit.unit)else some (a2,y564,y566,y567,PUnit.unit)else bif(v_23 a0 a3).2.2.1==0 then B_7_32_0_1 (J_7_32_0_1 a0 a3 ((v_30 (a0.1)).1,a0.2) a2 ((v_19 a0 a1 a2 a3).1.1.1) ((v_19 a0 a1 a2 a3).1.1.2) ((v_19 a0 a1 a2 a3).1.2) ((v_19 a0 a1 a2 a3).2.1) ((v_23 a0 a3).1.1.1) ((v_23 a0 a3).1.1.2) ((v_23 a0 a3).1.2) ((v_23 a0 a3).2.1) ((v_11 (a0.1) (a0.2.1) (a0.2.2.1) a3).1.1.1) ((v_11 (a0.1) (a0.2.1) (a0.2.2.1) a3).1.1.2) ((v_11 (a0.1) (a0.2.1) (a0.2.2.1) a3).1.2) ((v_11 (a0.1) (a0.2.1) (a0.2.2.1) a3).2.1) ((v_23 a0 a3).1.1.2) ((v_23 a0 a3).1.2)) fun y708 y709 y710 y711 y712 y713 y714 y715 y716 y717 y718 y719 y720 y721 y722 y723=>bif(v_11 (a0.1) (a0.2.1) (a0.2.2.1) a3).2.2.1==0 then B_7_32_0_2 (J_7_32_0_2 y708 y709 y710 y711 y712 y713 y714 y715 y716 y717 y718 y719 y720 y721 y722 y723 y721 y722) fun y724 y725 y726 y727 y728 y729 y730 y731 y732 y733 y734 y735 y736 y737 y738 y739=>some (a2,y724,y726,y727,PUnit.unit)else bif(v_11 (a0.1) (a0.2.1) (a0.2.2.1) a3).2.2.1==18 then B_7_32_0_2 (J_7_32_0_2 y708 y709 y710 y711 y712 y713 y714 y715 y716 y717 y718 y719 y720 y721 y722 y723 y721 y722) fun y740 y741 y742 y743 y744 y745 y746 y747 y748 y749 y750 y751 y752 y753 y754 y755=>some (a2,y740,y742,y743,PUnit.unit)else some (a2,y708,y710,y711,PUnit.unit)else bif(v_23 a0 a3).2.2.1==18 then B_7_32_0_1 (J_7_32_0_1 a0 a3 ((v_30 (a0.1)).1,a0.2) a2 ((v_19 a0 a1 a2 a3).1.1.1) ((v_19 a0 a1 a2 a3).1.1.2) ((v_19 a0 a1 a2 a3).1.2) ((v_19 a0 a1 a2 a3).2.1) ((v_23 a0 a3).1.1.1) ((v_23 a0 a3).1.1.2) ((v_23 a0 a3).1.2) ((v_23 a0 a3).2.1) ((v_11 (a0.1) (a0.2.1) (a0.2.2.1) a3).1.1.1) ((v_11 (a0.1) (a0.2.1) (a0.2.2.1) a3).1.1.2) ((v_11 (a0.1) (a0.2.1) (a0.2.2.1) a3).1.2) ((v_11 (a0.1) (a0.2.1) (a0.2.2.1) a3).2.1) ((v_23 a0 a3).1.1.2) ((v_23 a0 a3).1.2)) fun y756 y757 y758 y759 y760 y761 y762 y763 y764 y765 y766 y767 y768 y769 y770 y771=>bif(v_11 (a0.1) (a0.2.1) (a0.2.2.1) a3).2.2.1==0 then B_7_32_0_2 (J_7_32_0_2 y756 y757 y758 y759 y760 y761 y762 y763 y764 y765 y766 y767 y768 y769 y770 y771 y769 y770) fun y772 y773 y774 y775 y776 y777 y778 y779 y780 y781 y782 y783 y784 y785 y786 y787=>some (a2,y772,y774,y775,PUnit.unit)else bif(v_11 (a0.1) (a0.2.1) (a0.2.2.1) a3).2.2.1==18 then B_7_32_0_2 (J_7_32_0_2 y756 y757 y758 y759 y760 y761 y762 y763 y764 y765 y766 y767 y768 y769 y770 y771 y769 y770) fun y788 y789 y790 y791 y792 y793 y794 y795 y796 y797 y798 y799 y800 y801 y802 y803=>some (a2,y788,y790,y791,PUnit.unit)else some (a2,y756,y758,y759,PUnit.unit)else bif(v_11 (a0.1) (a0.2.1) (a0.2.2.1) a3).2.2.1==0 then B_7_32_0_2 (J_7_32_0_2 a0 a3 ((v_30 (a0.1)).1,a0.2) a2 ((v_19 a0 a1 a2 a3).1.1.1) ((v_19 a0 a1 a2 a3).1.1.2) ((v_19 a0 a1 a2 a3).1.2) ((v_19 a0 a1 a2 a3).2.1) ((v_23 a0 a3).1.1.1) ((v_23 a0 a3).1.1.2) ((v_23 a0 a3).1.2) ((v_23 a0 a3).2.1) ((v_11 (a0.1) (a0.2.1) (a0.2.2.1) a3).1.1.1) ((v_11 (a0.1) (a0.2.1) (a0.2.2.1) a3).1.1.2) ((v_11 (a0.1) (a0.2.1) (a0.2.2.1) a3).1.2) ((v_11 (a0.1) (a0.2.1) (a0.2.2.1) a3).2.1) ((v_11 (a0.1) (a0.2.1) (a0.2.2.1) a3).1.1.2) ((v_11 (a0.1) (a0.2.1) (a0.2.2.1) a3).1.2)) fun y804 y805 y806 y807 y808 y809 y810 y811 y812 y813 y814 y815 y816 y817 y818 y819=>some (a2,y804,y806,y807,PUnit.unit)else bif(v_11 (a0.1) (a0.2.1) (a0.2.2.1) a3).2.2.1==18 then B_7_32_0_2 (J_7_32_0_2 a0 a3 ((v_30 (a0.1)).1,a0.2) a2 ((v_19 a0 a1 a2 a3).1.1.1) ((v_19 a0 a1 a2 a3).1.1.2) ((v_19 a0 a1 a2 a3).1.2) ((v_19 a0 a1 a2 a3).2.1) ((v_23 a0 a3).1.1.1) ((v_23 a0 a3).1.1.2) ((v_23 a0 a3).1.2) ((v_23 a0 a3).2.1) ((v_11 (a0.1) (a0.2.1) (a0.2.2.1) a3).1.1.1) ((v_11 (a0.1) (a0.2.1) (a0.2.2.1) a3).1.1.2) ((v_11 (a0.1) (a0.2.1) (a0.2.2.1) a3).1.2) ((v_11 (a0.1) (a0.2.1) (a0.2.2.1) a3).2.1) ((v_11 (a0.1) (a0.2.1) (a0.2.2.1) a3).1.1.2) ((v_11 (a0.1) (a0.2.1) (a0.2.2.1) a3).1.2)) fun y820 y821 y822 y823 y824 y825 y826 y827 y828 y829 y830 y831 y832 y833 y834 y835=>some (a2,y820,y822,y823,PUnit.unit)else some (a2,a0,((v_30 (a0.1)).1,a0.2),a2,PUnit.unit))))))))
theorem run_7(a0:(((List Int)×((List Int)×(Int×Unit)))×(Int×(Int×Unit))))(a1:Int)(a2:(List Int))(a3:(Int×(Int×Unit))){y:(List Int)×(((List Int)×((List Int)×(Int×Unit)))×(Int×(Int×Unit)))×(((List Int)×((List Int)×(Int×Unit)))×(Int×(Int×Unit)))×(List Int)×Unit}(h:F_7 a0 a1 a2 a3=some y):evPre sm_7 FU (evFn sm_7 fns FU 2) 119 [.inl 2,.inr (4,true,5),.inr (9,true,5),.inl 10] pre7 (ofH A_7 (a0,a1,a2,a3,())) (pureK [(.slice (.int .u32)),Zy7_2,Zy7_2,(.slice (.int .u32))])=some y:=evPre_ovr ov_7_7_ok (Eq.trans (by kernel_rfl) h)
end
end Go.Ev
namespace Go.Proofs
open Go.Shelf
noncomputable def Try.clone31_ren:Go.Shelf.Ren:=⟨fun|41=>31|n=>n,fun|22=>22|23=>26|4=>4|n=>n,fun|n=>n⟩
theorem Try.clone31:Go.Proofs.SlLaysE0.n41 Try.prog Try.clone31_ren:= {
 mixed:=by kernel_rfl
 f41:=⟨Try.f31.name,by decide,Try.func31.trans (congrArg some (by kernel_rfl))⟩
 t4:=Try.underlying4
 a4:=Try.isAgg4
 z4:=Try.sizeOf4
 v4:=Try.zeroValue4
 t22:=Try.underlying22
 a22:=Try.isAgg22
 z22:=Try.sizeOf22
 v22:=Try.zeroValue22}
noncomputable def Try.clone90_ren:Go.Shelf.Ren:=⟨fun|41=>90|n=>n,fun|22=>23|23=>3|4=>4|n=>n,fun|n=>n⟩
theorem Try.clone90:Go.Proofs.SlLaysE0.n41 Try.prog Try.clone90_ren:= {
 mixed:=by kernel_rfl
 f41:=⟨Try.f90.name,by decide,Try.func90.trans (congrArg some (by kernel_rfl))⟩
 t4:=Try.underlying4
 a4:=Try.isAgg4
 z4:=Try.sizeOf4
 v4:=Try.zeroValue4
 t22:=Try.underlying23
 a22:=Try.isAgg23
 z22:=Try.sizeOf23
 v22:=Try.zeroValue23}
end Go.Proofs
namespace Go.Ev
open Go Go.Proofs Go.RowKit
set_option maxRecDepth 100000
set_option maxHeartbeats 4000000
theorem info31:∃i,Try.prog.info? 26=some i/\i.zero=some (.int .u32 0)/\i.size=1/\i.bytes=4:=⟨_,rfl,by kernel_rfl,by kernel_rfl,by kernel_rfl⟩
theorem sok_31:SummOK Try.prog 31 (vecJ (.int .u32) 26 4):=by
 obtain⟨i,hi,h0,h1,h2⟩:=info31
 exact clone_vecJ (by decide) (by kernel_rfl) (by decide)
  (fun b off n c news w hl hn hb hc h3=>AnyE.slices_Clone Try.clone31 i _ 1 4 hi h0 h1 h2 (by kernel_rfl) (by decide) Try.sizeOf26 b off n c news w hl hn hb hc h3)
  (fun n c w=>AnyE.slices_Clone_nil Try.clone31 n c w)
  (fun a c w=>clone_zero Try.clone31 i _ 1 4 hi h0 h1 h2 (by kernel_rfl) (by decide) Try.sizeOf26 a c w)
theorem info90:∃i,Try.prog.info? 3=some i/\i.zero=some (.int .i64 0)/\i.size=1/\i.bytes=8:=⟨_,rfl,by kernel_rfl,by kernel_rfl,by kernel_rfl⟩
theorem sok_90:SummOK Try.prog 90 (vecJ (.int .i64) 3 8):=by
 obtain⟨i,hi,h0,h1,h2⟩:=info90
 exact clone_vecJ (by decide) (by kernel_rfl) (by decide)
  (fun b off n c news w hl hn hb hc h3=>AnyE.slices_Clone Try.clone90 i _ 1 8 hi h0 h1 h2 (by kernel_rfl) (by decide) Try.sizeOf3 b off n c news w hl hn hb hc h3)
  (fun n c w=>AnyE.slices_Clone_nil Try.clone90 n c w)
  (fun a c w=>clone_zero Try.clone90 i _ 1 8 hi h0 h1 h2 (by kernel_rfl) (by decide) Try.sizeOf3 a c w)
noncomputable def ins86_ren:Go.Shelf.Ren:=⟨fun|22=>86|29=>103|30=>104|n=>n,fun|9=>59|24=>43|n=>n,fun|n=>n⟩
theorem ins86_lay:InsL Try.prog ins86_ren (.agg #[.int .i64 0,.slice none 0 0]) 32:= {
 mixed:=by kernel_rfl
 f22:=⟨Try.f86.name,by decide,Try.func86.trans (congrArg some (by kernel_rfl))⟩
 f29:=⟨_,Try.func103,by decide,by kernel_rfl,by kernel_rfl,by kernel_rfl⟩
 t0:=Try.underlying0
 a0:=Try.isAgg0
 z0:=Try.sizeOf0
 v0:=Try.zeroValue0
 t3:=Try.underlying3
 a3:=Try.isAgg3
 z3:=Try.sizeOf3
 v3:=Try.zeroValue3
 t4:=Try.underlying4
 a4:=Try.isAgg4
 z4:=Try.sizeOf4
 v4:=Try.zeroValue4
 t24:=Try.underlying43
 a24:=Try.isAgg43
 z24:=Try.sizeOf43
 v24:=Try.zeroValue43
 z9:=Try.sizeOf59
 i9:=by kernel_rfl
 c9:=by kernel_rfl}
theorem sok_86:SummOK Try.prog 86 (insS (.pair (.int .i64) (.pair (.slice (.int .u32)) .unit)) 59 32):=ins_sum ins86_lay rfl rfl (by kernel_rfl) (by decide) (by decide)
theorem sok_43:SummOK Try.prog 43 s_43:=sokJN hm0 run_43 trivial
theorem sok_45:SummOK Try.prog 45 s_45:=sokJN hm0 run_45 trivial
theorem sok_49:SummOK Try.prog 49 s_49:=sokJN hm0 run_49 trivial
theorem sok_83:SummOK Try.prog 83 s_83:=sokJN hm0 run_83 trivial
theorem sok_50:SummOK Try.prog 50 s_50:=sokJN hm0 run_50 trivial
theorem sok_100:SummOK Try.prog 100 s_100:=sokJN hm0 run_100 ⟨sok_50,trivial⟩
theorem sok_77:SummOK Try.prog 77 s_77:=sokJN hm0 run_77 ⟨sok_49,sok_83,sok_100,trivial⟩
theorem sok_57:SummOK Try.prog 57 s_57:=sokJN hm0 run_57 ⟨sok_77,trivial⟩
theorem sok_26:SummOK Try.prog 26 s_26:=sokJN hm0 run_26 ⟨sok_43,sok_45,sok_57,trivial⟩
theorem sok_44:SummOK Try.prog 44 s_44:=sokJN hm0 run_44 trivial
theorem sok_69:SummOK Try.prog 69 s_69:=sokO hm0 run_69 ⟨sok_31,sok_90,trivial⟩
theorem sok_93:SummOK Try.prog 93 s_93:=sokJN hm0 run_93 ⟨sok_43,trivial⟩
theorem sok_73:SummOK Try.prog 73 s_73:=sokO hm0 run_73 ⟨sok_31,sok_90,sok_93,trivial⟩
theorem sok_74:SummOK Try.prog 74 s_74:=sokO hm0 run_74 ⟨sok_31,sok_90,sok_93,trivial⟩
theorem sok_47:SummOK Try.prog 47 s_47:=sokO hm0 run_47 ⟨sok_69,sok_73,sok_74,trivial⟩
theorem sok_48:SummOK Try.prog 48 s_48:=sokS hm0 run_48 trivial
theorem sok_61:SummOK Try.prog 61 s_61:=sokOM hm0 run_61 runJ_61 ⟨sok_31,sok_86,trivial⟩
theorem sok_82:SummOK Try.prog 82 s_82:=sokJN hm0 run_82 trivial
theorem sok_58:SummOK Try.prog 58 s_58:=sokOJ hm0 run_58 ⟨sok_49,sok_61,sok_82,sok_83,sok_100,trivial⟩
theorem sok_59:SummOK Try.prog 59 s_59:=sokS hm0 run_59 ⟨sok_50,sok_82,trivial⟩
theorem sok_46:SummOK Try.prog 46 s_46:=sokO hm0 run_46 trivial
theorem sok_60:SummOK Try.prog 60 s_60:=sokS hm0 run_60 ⟨sok_46,sok_48,sok_49,sok_50,sok_57,sok_59,sok_77,sok_83,trivial⟩
theorem sok_19:SummOK Try.prog 19 s_19:=sokO hm0 run_19 ⟨sok_26,sok_44,sok_47,sok_48,sok_49,sok_57,sok_58,sok_59,sok_60,sok_61,trivial⟩
theorem sok_27:SummOK Try.prog 27 s_27:=sokJN hm0 run_27 trivial
theorem sok_28:SummOK Try.prog 28 s_28:=sokJN hm0 run_28 ⟨sok_26,sok_57,sok_58,trivial⟩
theorem sok_34:SummOK Try.prog 34 s_34:=sokJN hm0 run_34 trivial
theorem call_18{R:Type}(n base:Nat):CallOK Try.prog base (rokOf Try.prog smB fns) (evFn (R:=R) sm_18 fns FU n):=callG hm0 (l:=[(26,s_26),(57,s_57),(58,s_58)]) ⟨sok_26,sok_57,sok_58,trivial⟩ n base
theorem sok_18:SummOK Try.prog 18 s_18:=sokJ hm0 run_18 ⟨sok_26,sok_57,sok_58,trivial⟩
theorem sok_36:SummOK Try.prog 36 s_36:=sokS hm0 run_36 ⟨sok_18,trivial⟩
theorem sok_11:SummOK Try.prog 11 s_11:=sokO hm0 run_11 ⟨sok_43,sok_44,sok_45,sok_46,sok_47,sok_48,sok_49,sok_50,trivial⟩
theorem sok_108:SummOK Try.prog 108 s_108:=sokJN hm0 run_108 trivial
theorem sok_109:SummOK Try.prog 109 s_109:=sokJN hm0 run_109 trivial
theorem sok_105:SummOK Try.prog 105 s_105:=sokJN hm0 run_105 ⟨sok_108,sok_109,trivial⟩
theorem sok_91:SummOK Try.prog 91 s_91:=sokS hm0 run_91 ⟨sok_105,trivial⟩
theorem sok_70:SummOK Try.prog 70 s_70:=sokS hm0 run_70 ⟨sok_91,trivial⟩
theorem sok_41:SummOK Try.prog 41 s_41:=sokS hm0 run_41 ⟨sok_11,sok_26,sok_27,sok_70,trivial⟩
theorem sok_9:SummOK Try.prog 9 s_9:=sokJN hm0 run_9 ⟨sok_19,sok_27,sok_28,sok_34,sok_36,sok_41,trivial⟩
theorem sok_10:SummOK Try.prog 10 s_10:=sokJN hm0 run_10 trivial
theorem sok_23:SummOK Try.prog 23 s_23:=sokO hm0 run_23 ⟨sok_18,sok_44,sok_47,sok_60,trivial⟩
theorem sok_30:SummOK Try.prog 30 s_30:=sokS hm0 run_30 trivial
theorem sok_68:SummOK Try.prog 68 s_68:=sokJN hm0 run_68 trivial
theorem sok_33:SummOK Try.prog 33 s_33:=sokJN hm0 run_33 ⟨sok_68,trivial⟩
theorem all_7:SmAll Try.prog [(9,s_9),(10,s_10),(11,s_11),(18,s_18),(19,s_19),(23,s_23),(30,s_30),(31,s_31),(33,s_33),(34,s_34)]:=⟨sok_9,sok_10,sok_11,sok_18,sok_19,sok_23,sok_30,sok_31,sok_33,sok_34,trivial⟩
theorem call_7{R:Type}(n base:Nat):CallOK Try.prog base (rokOf Try.prog smB fns) (evFn (R:=R) sm_7 fns FU n):=callG hm0 (l:=[(9,s_9),(10,s_10),(11,s_11),(18,s_18),(19,s_19),(23,s_23),(30,s_30),(31,s_31),(33,s_33),(34,s_34)]) ⟨sok_9,sok_10,sok_11,sok_18,sok_19,sok_23,sok_30,sok_31,sok_33,sok_34,trivial⟩ n base
end Go.Ev
