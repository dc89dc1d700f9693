/- Helpers: functions of the program as Lean functions, and what they compute. No condition. -/
import Derived.Test.YtnmiibgmjfiknaaGreatG6P1
import Derived.Test.YtnmiibgmjfiknaaGreatG6P2
import Derived.Test.YtnmiibgmjfiknaaGreatProg
import Derived.Test.YtnmiibgmjfiknaaGreatE6P2
import Derived.Test.YtnmiibgmjfiknaaGreatG6P0
set_option maxRecDepth 10000
set_option linter.unusedVariables false
set_option linter.unusedSimpArgs false
open Go.IntKind (wrap i64 i32 i16 i8 u64 u32 u16 u8)
open List (getD length take drop replicate)
open Int (toNat)
open Go.Ev.Sp
namespace Go.Ev
open Go
set_option maxRecDepth 100000
set_option maxHeartbeats 4000000
set_option linter.unusedVariables false
noncomputable section
abbrev Zt6_0:Type:=List (Int×Int×Int×Int×Int×Int×Bool×Int×Unit)×List (Int×Int×Int×Int×Int×List Int×Int×Unit)×Int×Bool×Unit
abbrev Zt6_1:Type:=(List Int×List Int×Int×Unit)×Int×Int×Unit
abbrev Zy6_2:Ty:=(.pair (.slice (.pair (.int .i64) (.pair (.int .i64) (.pair (.int .i64) (.pair (.int .i64) (.pair (.int .i64) (.pair (.int .i64) (.pair .bool (.pair (.int .i64) .unit))))))))) (.pair (.slice (.pair (.int .i64) (.pair (.int .i64) (.pair (.int .i64) (.pair (.int .i64) (.pair (.int .i64) (.pair (.slice (.int .i64)) (.pair (.int .i64) .unit)))))))) (.pair (.int .i64) (.pair .bool .unit))))
abbrev Zy6_3:Ty:=(.pair (.pair (.slice (.int .u32)) (.pair (.slice (.int .i64)) (.pair (.int .i64) .unit))) (.pair (.int .i64) (.pair (.int .i64) .unit)))
abbrev Zt6_4:Type:=List (Int×List Int×Unit)
abbrev Zt6_5:Type:=Int×Int×Unit
abbrev Zy6_6:Ty:=(.pair (.int .i64) (.pair (.int .u32) .unit))
abbrev Zy6_7:Ty:=(.pair (.int .i64) (.pair (.slice (.int .u32)) .unit))
abbrev A_6:List Ty:=[(.pair (.pair (.slice (.int .u32)) (.pair (.slice (.int .i64)) (.pair (.int .i64) .unit))) (.pair (.int .i64) (.pair (.int .i64) .unit))),(.pair (.slice (.pair (.int .i64) (.pair (.int .i64) (.pair (.int .i64) (.pair (.int .i64) (.pair (.int .i64) (.pair (.int .i64) (.pair .bool (.pair (.int .i64) .unit))))))))) (.pair (.slice (.pair (.int .i64) (.pair (.int .i64) (.pair (.int .i64) (.pair (.int .i64) (.pair (.int .i64) (.pair (.slice (.int .i64)) (.pair (.int .i64) .unit)))))))) (.pair (.int .i64) (.pair .bool .unit))))]
abbrev R_6:List Ty:=[.bool]
noncomputable def sm_6:Nat->Option Summ:=smL [(7,s_7),(8,s_8),(10,s_10),(21,s_21),(22,s_22),(23,s_23),(25,s_25),(26,s_26),(28,s_28),(31,s_31),(33,s_33)]
noncomputable def T_6_71_0_0:PS:=⟨19,[(0,.kc (.whole 13)),(1,.kc (.clo 32 (.pair (.ptr 1 []) (.pure .unit PUnit.unit)))),(7,.hv (.int .i64)),(8,.hv (.int .i64))],[.mem (.hv Zy6_3),.mem (.hv Zy6_2),.fresh,.fresh,.fresh,.fresh,.fresh,.fresh,.mem (.hv Zy6_3),.mem (.hv Zy6_6),.mem (.hv Zy6_2),.mem (.hv Zy6_3),.mem (.hv Zy6_6),.vec 71 Zy6_7],14⟩
inductive Sp.E_6_71_0_0 where
 |e0 (p1:Int) (p2:Zt6_1) (p3:Zt6_0) (p4:Zt6_1) (p5:Zt6_5) (p6:Zt6_0) (p7:Zt6_1) (p8:Zt6_5) (p9:Zt6_4)
 |e1 (p2:Zt6_1) (p3:Zt6_0) (p4:Zt6_1) (p5:Zt6_5) (p6:Zt6_0) (p7:Zt6_1) (p8:Zt6_5) (p9:Zt6_4)
noncomputable def Sp.B_6_71_0_0{R:Type}(r:Option E_6_71_0_0)(k0:Int->Zt6_1->Zt6_0->Zt6_1->Zt6_5->Zt6_0->Zt6_1->Zt6_5->Zt6_4->Option R)(k1:Zt6_1->Zt6_0->Zt6_1->Zt6_5->Zt6_0->Zt6_1->Zt6_5->Zt6_4->Option R):Option R:=match r with
 |none=>none
 |some (.e0 p1 p2 p3 p4 p5 p6 p7 p8 p9)=>k0 p1 p2 p3 p4 p5 p6 p7 p8 p9
 |some (.e1 p2 p3 p4 p5 p6 p7 p8 p9)=>k1 p2 p3 p4 p5 p6 p7 p8 p9
noncomputable def Y_6_71_0_0{R:Type}(k:Ex->St->Option R):E_6_71_0_0->Option R
 | .e0 p1 p2 p3 p4 p5 p6 p7 p8 p9=>k Ex.ret (sx 19 [(4,CV.int i64 p1)] [Blk.mem (CV.pure (Ty.pair (Ty.pair (Ty.slice (Ty.int u32)) (Ty.pair (Ty.slice (Ty.int i64)) (Ty.pair (Ty.int i64) Ty.unit))) (Ty.pair (Ty.int i64) (Ty.pair (Ty.int i64) Ty.unit))) p2),Blk.mem (CV.pure (Ty.pair (Ty.slice (Ty.pair (Ty.int i64) (Ty.pair (Ty.int i64) (Ty.pair (Ty.int i64) (Ty.pair (Ty.int i64) (Ty.pair (Ty.int i64) (Ty.pair (Ty.int i64) (Ty.pair Ty.bool (Ty.pair (Ty.int i64) Ty.unit))))))))) (Ty.pair (Ty.slice (Ty.pair (Ty.int i64) (Ty.pair (Ty.int i64) (Ty.pair (Ty.int i64) (Ty.pair (Ty.int i64) (Ty.pair (Ty.int i64) (Ty.pair (Ty.slice (Ty.int i64)) (Ty.pair (Ty.int i64) Ty.unit)))))))) (Ty.pair (Ty.int i64) (Ty.pair Ty.bool Ty.unit)))) p3),Blk.fresh,Blk.fresh,Blk.fresh,Blk.fresh,Blk.fresh,Blk.fresh,Blk.mem (CV.pure (Ty.pair (Ty.pair (Ty.slice (Ty.int u32)) (Ty.pair (Ty.slice (Ty.int i64)) (Ty.pair (Ty.int i64) Ty.unit))) (Ty.pair (Ty.int i64) (Ty.pair (Ty.int i64) Ty.unit))) p4),Blk.mem (CV.pure (Ty.pair (Ty.int i64) (Ty.pair (Ty.int u32) Ty.unit)) p5),Blk.mem (CV.pure (Ty.pair (Ty.slice (Ty.pair (Ty.int i64) (Ty.pair (Ty.int i64) (Ty.pair (Ty.int i64) (Ty.pair (Ty.int i64) (Ty.pair (Ty.int i64) (Ty.pair (Ty.int i64) (Ty.pair Ty.bool (Ty.pair (Ty.int i64) Ty.unit))))))))) (Ty.pair (Ty.slice (Ty.pair (Ty.int i64) (Ty.pair (Ty.int i64) (Ty.pair (Ty.int i64) (Ty.pair (Ty.int i64) (Ty.pair (Ty.int i64) (Ty.pair (Ty.slice (Ty.int i64)) (Ty.pair (Ty.int i64) Ty.unit)))))))) (Ty.pair (Ty.int i64) (Ty.pair Ty.bool Ty.unit)))) p6),Blk.mem (CV.pure (Ty.pair (Ty.pair (Ty.slice (Ty.int u32)) (Ty.pair (Ty.slice (Ty.int i64)) (Ty.pair (Ty.int i64) Ty.unit))) (Ty.pair (Ty.int i64) (Ty.pair (Ty.int i64) Ty.unit))) p7),Blk.mem (CV.pure (Ty.pair (Ty.int i64) (Ty.pair (Ty.int u32) Ty.unit)) p8),Blk.vec 71 (Ty.pair (Ty.int i64) (Ty.pair (Ty.slice (Ty.int u32)) Ty.unit)) p9] 14)
 | .e1 p2 p3 p4 p5 p6 p7 p8 p9=>k (Ex.exit 0) (sx 19 [] [Blk.mem (CV.pure (Ty.pair (Ty.pair (Ty.slice (Ty.int u32)) (Ty.pair (Ty.slice (Ty.int i64)) (Ty.pair (Ty.int i64) Ty.unit))) (Ty.pair (Ty.int i64) (Ty.pair (Ty.int i64) Ty.unit))) p2),Blk.mem (CV.pure (Ty.pair (Ty.slice (Ty.pair (Ty.int i64) (Ty.pair (Ty.int i64) (Ty.pair (Ty.int i64) (Ty.pair (Ty.int i64) (Ty.pair (Ty.int i64) (Ty.pair (Ty.int i64) (Ty.pair Ty.bool (Ty.pair (Ty.int i64) Ty.unit))))))))) (Ty.pair (Ty.slice (Ty.pair (Ty.int i64) (Ty.pair (Ty.int i64) (Ty.pair (Ty.int i64) (Ty.pair (Ty.int i64) (Ty.pair (Ty.int i64) (Ty.pair (Ty.slice (Ty.int i64)) (Ty.pair (Ty.int i64) Ty.unit)))))))) (Ty.pair (Ty.int i64) (Ty.pair Ty.bool Ty.unit)))) p3),Blk.fresh,Blk.fresh,Blk.fresh,Blk.fresh,Blk.fresh,Blk.fresh,Blk.mem (CV.pure (Ty.pair (Ty.pair (Ty.slice (Ty.int u32)) (Ty.pair (Ty.slice (Ty.int i64)) (Ty.pair (Ty.int i64) Ty.unit))) (Ty.pair (Ty.int i64) (Ty.pair (Ty.int i64) Ty.unit))) p4),Blk.mem (CV.pure (Ty.pair (Ty.int i64) (Ty.pair (Ty.int u32) Ty.unit)) p5),Blk.mem (CV.pure (Ty.pair (Ty.slice (Ty.pair (Ty.int i64) (Ty.pair (Ty.int i64) (Ty.pair (Ty.int i64) (Ty.pair (Ty.int i64) (Ty.pair (Ty.int i64) (Ty.pair (Ty.int i64) (Ty.pair Ty.bool (Ty.pair (Ty.int i64) Ty.unit))))))))) (Ty.pair (Ty.slice (Ty.pair (Ty.int i64) (Ty.pair (Ty.int i64) (Ty.pair (Ty.int i64) (Ty.pair (Ty.int i64) (Ty.pair (Ty.int i64) (Ty.pair (Ty.slice (Ty.int i64)) (Ty.pair (Ty.int i64) Ty.unit)))))))) (Ty.pair (Ty.int i64) (Ty.pair Ty.bool Ty.unit)))) p6),Blk.mem (CV.pure (Ty.pair (Ty.pair (Ty.slice (Ty.int u32)) (Ty.pair (Ty.slice (Ty.int i64)) (Ty.pair (Ty.int i64) Ty.unit))) (Ty.pair (Ty.int i64) (Ty.pair (Ty.int i64) Ty.unit))) p7),Blk.mem (CV.pure (Ty.pair (Ty.int i64) (Ty.pair (Ty.int u32) Ty.unit)) p8),Blk.vec 71 (Ty.pair (Ty.int i64) (Ty.pair (Ty.slice (Ty.int u32)) Ty.unit)) p9] 14)
noncomputable def Sp.S_6_71_0_0{R:Type}(K:Int->Int->((List Int×List Int×Int×Unit)×Int×Int×Unit)->(List (Int×Int×Int×Int×Int×Int×Bool×Int×Unit)×List (Int×Int×Int×Int×Int×List Int×Int×Unit)×Int×Bool×Unit)->((List Int×List Int×Int×Unit)×Int×Int×Unit)->(Int×Int×Unit)->(List (Int×Int×Int×Int×Int×Int×Bool×Int×Unit)×List (Int×Int×Int×Int×Int×List Int×Int×Unit)×Int×Bool×Unit)->((List Int×List Int×Int×Unit)×Int×Int×Unit)->(Int×Int×Unit)->(List (Int×List Int×Unit))->Option R)(k:E_6_71_0_0->Option R)(p0 p1:Int)(p2:(List Int×List Int×Int×Unit)×Int×Int×Unit)(p3:List (Int×Int×Int×Int×Int×Int×Bool×Int×Unit)×List (Int×Int×Int×Int×Int×List Int×Int×Unit)×Int×Bool×Unit)(p4:(List Int×List Int×Int×Unit)×Int×Int×Unit)(p5:Int×Int×Unit)(p6:List (Int×Int×Int×Int×Int×Int×Bool×Int×Unit)×List (Int×Int×Int×Int×Int×List Int×Int×Unit)×Int×Bool×Unit)(p7:(List Int×List Int×Int×Unit)×Int×Int×Unit)(p8:Int×Int×Unit)(p9:List (Int×List Int×Unit)):Option R:=
 bif decide (p1<p0)then gd (inB p1 (length p9)) (gd (decide (toNat p1<length p9)&&true) (bif(getD p9 (toNat p1) Zd2).1==254 then k (E_6_71_0_0.e0 p1 p2 p3 p4 p5 p6 p7 p8 p9)else bif decide ((getD p9 (toNat p1) Zd2).1<(↑(length (p3.2.1)):Int))then k (E_6_71_0_0.e0 p1 p2 p3 p4 p5 p6 p7 p8 p9)else K p0 (wrap i64 (p1+1)) p2 p3 p4 p5 p6 p7 p8 p9))else k (E_6_71_0_0.e1 p2 p3 p4 p5 p6 p7 p8 p9)
noncomputable def Sp.L_6_71_0_0:Nat->Int->Int->((List Int×List Int×Int×Unit)×Int×Int×Unit)->(List (Int×Int×Int×Int×Int×Int×Bool×Int×Unit)×List (Int×Int×Int×Int×Int×List Int×Int×Unit)×Int×Bool×Unit)->((List Int×List Int×Int×Unit)×Int×Int×Unit)->(Int×Int×Unit)->(List (Int×Int×Int×Int×Int×Int×Bool×Int×Unit)×List (Int×Int×Int×Int×Int×List Int×Int×Unit)×Int×Bool×Unit)->((List Int×List Int×Int×Unit)×Int×Int×Unit)->(Int×Int×Unit)->(List (Int×List Int×Unit))->Option E_6_71_0_0
 |0,_,_,_,_,_,_,_,_,_,_=>none
 |m+1,p0,p1,p2,p3,p4,p5,p6,p7,p8,p9=>S_6_71_0_0 (L_6_71_0_0 m) some p0 p1 p2 p3 p4 p5 p6 p7 p8 p9
noncomputable def l_6_71_0_0(m:Nat)(a:T_6_71_0_0.E):Option E_6_71_0_0:=L_6_71_0_0 m a.1 a.2.1 a.2.2.1 a.2.2.2.1 a.2.2.2.2.1 a.2.2.2.2.2.1 a.2.2.2.2.2.2.1 a.2.2.2.2.2.2.2.1 a.2.2.2.2.2.2.2.2.1 a.2.2.2.2.2.2.2.2.2.1
noncomputable def O_6_71_0_0{R:Type}:Orc R:=orL T_6_71_0_0 (l_6_71_0_0 FU) Y_6_71_0_0
theorem OK_6_71_0_0{R:Type}:okF (R:=R) sm_6 3 (nf 71 0) O_6_71_0_0:=lp0 T_6_71_0_0 l_6_71_0_0 (fun R K k a=>S_6_71_0_0 (fun p0 p1 p2 p3 p4 p5 p6 p7 p8 p9=>K (p0,p1,p2,p3,p4,p5,p6,p7,p8,p9,())) k a.1 a.2.1 a.2.2.1 a.2.2.2.1 a.2.2.2.2.1 a.2.2.2.2.2.1 a.2.2.2.2.2.2.1 a.2.2.2.2.2.2.2.1 a.2.2.2.2.2.2.2.2.1 a.2.2.2.2.2.2.2.2.2.1) Y_6_71_0_0 (fun _ _ _=>by kernel_rfl) (fun _ _ _=>by
 unfold S_6_71_0_0
 repeat' first|apply gdN|apply condN|rfl) (ok0 _)
noncomputable def T_6_71_0_1:PS:=⟨19,[(0,.kc (.whole 14)),(1,.kc (.clo 32 (.pair (.ptr 1 []) (.pure .unit PUnit.unit)))),(7,.hv (.int .i64)),(8,.hv (.int .i64))],[.mem (.hv Zy6_3),.mem (.hv Zy6_2),.fresh,.fresh,.fresh,.fresh,.fresh,.fresh,.mem (.hv Zy6_3),.mem (.hv Zy6_6),.mem (.hv Zy6_2),.mem (.hv Zy6_3),.mem (.hv Zy6_6),.vec 71 Zy6_7,.vec 71 Zy6_7],15⟩
inductive Sp.E_6_71_0_1 where
 |e0 (p1:Int) (p2:Zt6_1) (p3:Zt6_0) (p4:Zt6_1) (p5:Zt6_5) (p6:Zt6_0) (p7:Zt6_1) (p8:Zt6_5) (p9 p10:Zt6_4)
 |e1 (p2:Zt6_1) (p3:Zt6_0) (p4:Zt6_1) (p5:Zt6_5) (p6:Zt6_0) (p7:Zt6_1) (p8:Zt6_5) (p9 p10:Zt6_4)
noncomputable def Sp.B_6_71_0_1{R:Type}(r:Option E_6_71_0_1)(k0:Int->Zt6_1->Zt6_0->Zt6_1->Zt6_5->Zt6_0->Zt6_1->Zt6_5->Zt6_4->Zt6_4->Option R)(k1:Zt6_1->Zt6_0->Zt6_1->Zt6_5->Zt6_0->Zt6_1->Zt6_5->Zt6_4->Zt6_4->Option R):Option R:=match r with
 |none=>none
 |some (.e0 p1 p2 p3 p4 p5 p6 p7 p8 p9 p10)=>k0 p1 p2 p3 p4 p5 p6 p7 p8 p9 p10
 |some (.e1 p2 p3 p4 p5 p6 p7 p8 p9 p10)=>k1 p2 p3 p4 p5 p6 p7 p8 p9 p10
noncomputable def Y_6_71_0_1{R:Type}(k:Ex->St->Option R):E_6_71_0_1->Option R
 | .e0 p1 p2 p3 p4 p5 p6 p7 p8 p9 p10=>k Ex.ret (sx 19 [(4,CV.int i64 p1)] [Blk.mem (CV.pure (Ty.pair (Ty.pair (Ty.slice (Ty.int u32)) (Ty.pair (Ty.slice (Ty.int i64)) (Ty.pair (Ty.int i64) Ty.unit))) (Ty.pair (Ty.int i64) (Ty.pair (Ty.int i64) Ty.unit))) p2),Blk.mem (CV.pure (Ty.pair (Ty.slice (Ty.pair (Ty.int i64) (Ty.pair (Ty.int i64) (Ty.pair (Ty.int i64) (Ty.pair (Ty.int i64) (Ty.pair (Ty.int i64) (Ty.pair (Ty.int i64) (Ty.pair Ty.bool (Ty.pair (Ty.int i64) Ty.unit))))))))) (Ty.pair (Ty.slice (Ty.pair (Ty.int i64) (Ty.pair (Ty.int i64) (Ty.pair (Ty.int i64) (Ty.pair (Ty.int i64) (Ty.pair (Ty.int i64) (Ty.pair (Ty.slice (Ty.int i64)) (Ty.pair (Ty.int i64) Ty.unit)))))))) (Ty.pair (Ty.int i64) (Ty.pair Ty.bool Ty.unit)))) p3),Blk.fresh,Blk.fresh,Blk.fresh,Blk.fresh,Blk.fresh,Blk.fresh,Blk.mem (CV.pure (Ty.pair (Ty.pair (Ty.slice (Ty.int u32)) (Ty.pair (Ty.slice (Ty.int i64)) (Ty.pair (Ty.int i64) Ty.unit))) (Ty.pair (Ty.int i64) (Ty.pair (Ty.int i64) Ty.unit))) p4),Blk.mem (CV.pure (Ty.pair (Ty.int i64) (Ty.pair (Ty.int u32) Ty.unit)) p5),Blk.mem (CV.pure (Ty.pair (Ty.slice (Ty.pair (Ty.int i64) (Ty.pair (Ty.int i64) (Ty.pair (Ty.int i64) (Ty.pair (Ty.int i64) (Ty.pair (Ty.int i64) (Ty.pair (Ty.int i64) (Ty.pair Ty.bool (Ty.pair (Ty.int i64) Ty.unit))))))))) (Ty.pair (Ty.slice (Ty.pair (Ty.int i64) (Ty.pair (Ty.int i64) (Ty.pair (Ty.int i64) (Ty.pair (Ty.int i64) (Ty.pair (Ty.int i64) (Ty.pair (Ty.slice (Ty.int i64)) (Ty.pair (Ty.int i64) Ty.unit)))))))) (Ty.pair (Ty.int i64) (Ty.pair Ty.bool Ty.unit)))) p6),Blk.mem (CV.pure (Ty.pair (Ty.pair (Ty.slice (Ty.int u32)) (Ty.pair (Ty.slice (Ty.int i64)) (Ty.pair (Ty.int i64) Ty.unit))) (Ty.pair (Ty.int i64) (Ty.pair (Ty.int i64) Ty.unit))) p7),Blk.mem (CV.pure (Ty.pair (Ty.int i64) (Ty.pair (Ty.int u32) Ty.unit)) p8),Blk.vec 71 (Ty.pair (Ty.int i64) (Ty.pair (Ty.slice (Ty.int u32)) Ty.unit)) p9,Blk.vec 71 (Ty.pair (Ty.int i64) (Ty.pair (Ty.slice (Ty.int u32)) Ty.unit)) p10] 15)
 | .e1 p2 p3 p4 p5 p6 p7 p8 p9 p10=>k (Ex.exit 0) (sx 19 [] [Blk.mem (CV.pure (Ty.pair (Ty.pair (Ty.slice (Ty.int u32)) (Ty.pair (Ty.slice (Ty.int i64)) (Ty.pair (Ty.int i64) Ty.unit))) (Ty.pair (Ty.int i64) (Ty.pair (Ty.int i64) Ty.unit))) p2),Blk.mem (CV.pure (Ty.pair (Ty.slice (Ty.pair (Ty.int i64) (Ty.pair (Ty.int i64) (Ty.pair (Ty.int i64) (Ty.pair (Ty.int i64) (Ty.pair (Ty.int i64) (Ty.pair (Ty.int i64) (Ty.pair Ty.bool (Ty.pair (Ty.int i64) Ty.unit))))))))) (Ty.pair (Ty.slice (Ty.pair (Ty.int i64) (Ty.pair (Ty.int i64) (Ty.pair (Ty.int i64) (Ty.pair (Ty.int i64) (Ty.pair (Ty.int i64) (Ty.pair (Ty.slice (Ty.int i64)) (Ty.pair (Ty.int i64) Ty.unit)))))))) (Ty.pair (Ty.int i64) (Ty.pair Ty.bool Ty.unit)))) p3),Blk.fresh,Blk.fresh,Blk.fresh,Blk.fresh,Blk.fresh,Blk.fresh,Blk.mem (CV.pure (Ty.pair (Ty.pair (Ty.slice (Ty.int u32)) (Ty.pair (Ty.slice (Ty.int i64)) (Ty.pair (Ty.int i64) Ty.unit))) (Ty.pair (Ty.int i64) (Ty.pair (Ty.int i64) Ty.unit))) p4),Blk.mem (CV.pure (Ty.pair (Ty.int i64) (Ty.pair (Ty.int u32) Ty.unit)) p5),Blk.mem (CV.pure (Ty.pair (Ty.slice (Ty.pair (Ty.int i64) (Ty.pair (Ty.int i64) (Ty.pair (Ty.int i64) (Ty.pair (Ty.int i64) (Ty.pair (Ty.int i64) (Ty.pair (Ty.int i64) (Ty.pair Ty.bool (Ty.pair (Ty.int i64) Ty.unit))))))))) (Ty.pair (Ty.slice (Ty.pair (Ty.int i64) (Ty.pair (Ty.int i64) (Ty.pair (Ty.int i64) (Ty.pair (Ty.int i64) (Ty.pair (Ty.int i64) (Ty.pair (Ty.slice (Ty.int i64)) (Ty.pair (Ty.int i64) Ty.unit)))))))) (Ty.pair (Ty.int i64) (Ty.pair Ty.bool Ty.unit)))) p6),Blk.mem (CV.pure (Ty.pair (Ty.pair (Ty.slice (Ty.int u32)) (Ty.pair (Ty.slice (Ty.int i64)) (Ty.pair (Ty.int i64) Ty.unit))) (Ty.pair (Ty.int i64) (Ty.pair (Ty.int i64) Ty.unit))) p7),Blk.mem (CV.pure (Ty.pair (Ty.int i64) (Ty.pair (Ty.int u32) Ty.unit)) p8),Blk.vec 71 (Ty.pair (Ty.int i64) (Ty.pair (Ty.slice (Ty.int u32)) Ty.unit)) p9,Blk.vec 71 (Ty.pair (Ty.int i64) (Ty.pair (Ty.slice (Ty.int u32)) Ty.unit)) p10] 15)
noncomputable def Sp.S_6_71_0_1{R:Type}(K:Int->Int->((List Int×List Int×Int×Unit)×Int×Int×Unit)->(List (Int×Int×Int×Int×Int×Int×Bool×Int×Unit)×List (Int×Int×Int×Int×Int×List Int×Int×Unit)×Int×Bool×Unit)->((List Int×List Int×Int×Unit)×Int×Int×Unit)->(Int×Int×Unit)->(List (Int×Int×Int×Int×Int×Int×Bool×Int×Unit)×List (Int×Int×Int×Int×Int×List Int×Int×Unit)×Int×Bool×Unit)->((List Int×List Int×Int×Unit)×Int×Int×Unit)->(Int×Int×Unit)->(List (Int×List Int×Unit))->(List (Int×List Int×Unit))->Option R)(k:E_6_71_0_1->Option R)(p0 p1:Int)(p2:(List Int×List Int×Int×Unit)×Int×Int×Unit)(p3:List (Int×Int×Int×Int×Int×Int×Bool×Int×Unit)×List (Int×Int×Int×Int×Int×List Int×Int×Unit)×Int×Bool×Unit)(p4:(List Int×List Int×Int×Unit)×Int×Int×Unit)(p5:Int×Int×Unit)(p6:List (Int×Int×Int×Int×Int×Int×Bool×Int×Unit)×List (Int×Int×Int×Int×Int×List Int×Int×Unit)×Int×Bool×Unit)(p7:(List Int×List Int×Int×Unit)×Int×Int×Unit)(p8:Int×Int×Unit)(p9 p10:List (Int×List Int×Unit)):Option R:=
 bif decide (p1<p0)then gd (inB p1 (length p10)) (gd (decide (toNat p1<length p10)&&true) (bif(getD p10 (toNat p1) Zd2).1==254 then k (E_6_71_0_1.e0 p1 p2 p3 p4 p5 p6 p7 p8 p9 p10)else bif decide ((getD p10 (toNat p1) Zd2).1<(↑(length (p3.2.1)):Int))then k (E_6_71_0_1.e0 p1 p2 p3 p4 p5 p6 p7 p8 p9 p10)else K p0 (wrap i64 (p1+1)) p2 p3 p4 p5 p6 p7 p8 p9 p10))else k (E_6_71_0_1.e1 p2 p3 p4 p5 p6 p7 p8 p9 p10)
noncomputable def Sp.L_6_71_0_1:Nat->Int->Int->((List Int×List Int×Int×Unit)×Int×Int×Unit)->(List (Int×Int×Int×Int×Int×Int×Bool×Int×Unit)×List (Int×Int×Int×Int×Int×List Int×Int×Unit)×Int×Bool×Unit)->((List Int×List Int×Int×Unit)×Int×Int×Unit)->(Int×Int×Unit)->(List (Int×Int×Int×Int×Int×Int×Bool×Int×Unit)×List (Int×Int×Int×Int×Int×List Int×Int×Unit)×Int×Bool×Unit)->((List Int×List Int×Int×Unit)×Int×Int×Unit)->(Int×Int×Unit)->(List (Int×List Int×Unit))->(List (Int×List Int×Unit))->Option E_6_71_0_1
 |0,_,_,_,_,_,_,_,_,_,_,_=>none
 |m+1,p0,p1,p2,p3,p4,p5,p6,p7,p8,p9,p10=>S_6_71_0_1 (L_6_71_0_1 m) some p0 p1 p2 p3 p4 p5 p6 p7 p8 p9 p10
noncomputable def l_6_71_0_1(m:Nat)(a:T_6_71_0_1.E):Option E_6_71_0_1:=L_6_71_0_1 m a.1 a.2.1 a.2.2.1 a.2.2.2.1 a.2.2.2.2.1 a.2.2.2.2.2.1 a.2.2.2.2.2.2.1 a.2.2.2.2.2.2.2.1 a.2.2.2.2.2.2.2.2.1 a.2.2.2.2.2.2.2.2.2.1 a.2.2.2.2.2.2.2.2.2.2.1
noncomputable def O_6_71_0_1{R:Type}:Orc R:=orL T_6_71_0_1 (l_6_71_0_1 FU) Y_6_71_0_1 O_6_71_0_0
theorem OK_6_71_0_1{R:Type}:okF (R:=R) sm_6 3 (nf 71 0) O_6_71_0_1:=lp0 T_6_71_0_1 l_6_71_0_1 (fun R K k a=>S_6_71_0_1 (fun p0 p1 p2 p3 p4 p5 p6 p7 p8 p9 p10=>K (p0,p1,p2,p3,p4,p5,p6,p7,p8,p9,p10,())) k a.1 a.2.1 a.2.2.1 a.2.2.2.1 a.2.2.2.2.1 a.2.2.2.2.2.1 a.2.2.2.2.2.2.1 a.2.2.2.2.2.2.2.1 a.2.2.2.2.2.2.2.2.1 a.2.2.2.2.2.2.2.2.2.1 a.2.2.2.2.2.2.2.2.2.2.1) Y_6_71_0_1 (fun _ _ _=>by kernel_rfl) (fun _ _ _=>by
 unfold S_6_71_0_1
 repeat' first|apply gdN|apply condN|rfl) OK_6_71_0_0
noncomputable def g_6_71{R:Type}:List CV->List Blk->(CV->List Blk->Option R)->Option R:=evFnL sm_6 FU (ovr noO (evFn sm_6 fns FU 3)) (mkT (fB fns 71) [O_6_71_0_1]) (fO fns 71)
theorem g_6_71_ok{R:Type}(args:List CV)(hp:List Blk)(k:CV->List Blk->Option R)(r:R)(h:g_6_71 args hp k=some r):evFn sm_6 fns FU 4 71 args hp k=some r:=runG noO_ok (os:=[O_6_71_0_1]) ⟨OK_6_71_0_1,trivial⟩ h
noncomputable def ov_6_30{R:Type}:Nat->Option (List CV->List Blk->(CV->List Blk->Option R)->Option R):=fun f'=>bif Nat.beq f' 71 then some g_6_71 else none
theorem ov_6_30_ok{R:Type}:OvrOK (R:=R) ov_6_30 (evFn sm_6 fns FU 4):=by
 intro f' g h args hp k r hg
 dsimp only[ov_6_30]at h
 by_cases h71:f'=71
 ·subst h71
  injection h with h
  subst h
  exact evFn_le 0 (g_6_71_ok _ _ _ _ hg)
 rw[nbeq_ne h71,cond_false]at h
 cases h
noncomputable def T_6_30_0_0:PS:=⟨42,[(0,.kc (.whole 14)),(1,.kc (.clo 32 (.pair (.ptr 1 []) (.pure .unit PUnit.unit)))),(5,.hv (.int .i64)),(6,.hv (.int .i64))],[.mem (.hv Zy6_3),.mem (.hv Zy6_2),.fresh,.fresh,.fresh,.fresh,.fresh,.fresh,.mem (.hv Zy6_3),.mem (.hv Zy6_6),.mem (.hv Zy6_2),.mem (.hv Zy6_3),.mem (.hv Zy6_6),.vec 71 Zy6_7,.vec 71 Zy6_7],15⟩
inductive Sp.E_6_30_0_0 where
 |e0 (p0:Int) (p2:Zt6_1) (p3:Zt6_0) (p4:Zt6_1) (p5:Zt6_5) (p6:Zt6_0) (p7:Zt6_1) (p8:Zt6_5) (p9 p10:Zt6_4)
noncomputable def Sp.B_6_30_0_0{R:Type}(r:Option E_6_30_0_0)(k0:Int->Zt6_1->Zt6_0->Zt6_1->Zt6_5->Zt6_0->Zt6_1->Zt6_5->Zt6_4->Zt6_4->Option R):Option R:=match r with
 |none=>none
 |some (.e0 p0 p2 p3 p4 p5 p6 p7 p8 p9 p10)=>k0 p0 p2 p3 p4 p5 p6 p7 p8 p9 p10
noncomputable def Y_6_30_0_0{R:Type}(k:Ex->St->Option R):E_6_30_0_0->Option R
 | .e0 p0 p2 p3 p4 p5 p6 p7 p8 p9 p10=>k (Ex.exit 0) (sx 42 [(0,CV.whole 14),(5,CV.int i64 p0)] [Blk.mem (CV.pure (Ty.pair (Ty.pair (Ty.slice (Ty.int u32)) (Ty.pair (Ty.slice (Ty.int i64)) (Ty.pair (Ty.int i64) Ty.unit))) (Ty.pair (Ty.int i64) (Ty.pair (Ty.int i64) Ty.unit))) p2),Blk.mem (CV.pure (Ty.pair (Ty.slice (Ty.pair (Ty.int i64) (Ty.pair (Ty.int i64) (Ty.pair (Ty.int i64) (Ty.pair (Ty.int i64) (Ty.pair (Ty.int i64) (Ty.pair (Ty.int i64) (Ty.pair Ty.bool (Ty.pair (Ty.int i64) Ty.unit))))))))) (Ty.pair (Ty.slice (Ty.pair (Ty.int i64) (Ty.pair (Ty.int i64) (Ty.pair (Ty.int i64) (Ty.pair (Ty.int i64) (Ty.pair (Ty.int i64) (Ty.pair (Ty.slice (Ty.int i64)) (Ty.pair (Ty.int i64) Ty.unit)))))))) (Ty.pair (Ty.int i64) (Ty.pair Ty.bool Ty.unit)))) p3),Blk.fresh,Blk.fresh,Blk.fresh,Blk.fresh,Blk.fresh,Blk.fresh,Blk.mem (CV.pure (Ty.pair (Ty.pair (Ty.slice (Ty.int u32)) (Ty.pair (Ty.slice (Ty.int i64)) (Ty.pair (Ty.int i64) Ty.unit))) (Ty.pair (Ty.int i64) (Ty.pair (Ty.int i64) Ty.unit))) p4),Blk.mem (CV.pure (Ty.pair (Ty.int i64) (Ty.pair (Ty.int u32) Ty.unit)) p5),Blk.mem (CV.pure (Ty.pair (Ty.slice (Ty.pair (Ty.int i64) (Ty.pair (Ty.int i64) (Ty.pair (Ty.int i64) (Ty.pair (Ty.int i64) (Ty.pair (Ty.int i64) (Ty.pair (Ty.int i64) (Ty.pair Ty.bool (Ty.pair (Ty.int i64) Ty.unit))))))))) (Ty.pair (Ty.slice (Ty.pair (Ty.int i64) (Ty.pair (Ty.int i64) (Ty.pair (Ty.int i64) (Ty.pair (Ty.int i64) (Ty.pair (Ty.int i64) (Ty.pair (Ty.slice (Ty.int i64)) (Ty.pair (Ty.int i64) Ty.unit)))))))) (Ty.pair (Ty.int i64) (Ty.pair Ty.bool Ty.unit)))) p6),Blk.mem (CV.pure (Ty.pair (Ty.pair (Ty.slice (Ty.int u32)) (Ty.pair (Ty.slice (Ty.int i64)) (Ty.pair (Ty.int i64) Ty.unit))) (Ty.pair (Ty.int i64) (Ty.pair (Ty.int i64) Ty.unit))) p7),Blk.mem (CV.pure (Ty.pair (Ty.int i64) (Ty.pair (Ty.int u32) Ty.unit)) p8),Blk.vec 71 (Ty.pair (Ty.int i64) (Ty.pair (Ty.slice (Ty.int u32)) Ty.unit)) p9,Blk.vec 71 (Ty.pair (Ty.int i64) (Ty.pair (Ty.slice (Ty.int u32)) Ty.unit)) p10] 15)
noncomputable def Sp.S_6_30_0_0{R:Type}(K:Int->Int->((List Int×List Int×Int×Unit)×Int×Int×Unit)->(List (Int×Int×Int×Int×Int×Int×Bool×Int×Unit)×List (Int×Int×Int×Int×Int×List Int×Int×Unit)×Int×Bool×Unit)->((List Int×List Int×Int×Unit)×Int×Int×Unit)->(Int×Int×Unit)->(List (Int×Int×Int×Int×Int×Int×Bool×Int×Unit)×List (Int×Int×Int×Int×Int×List Int×Int×Unit)×Int×Bool×Unit)->((List Int×List Int×Int×Unit)×Int×Int×Unit)->(Int×Int×Unit)->(List (Int×List Int×Unit))->(List (Int×List Int×Unit))->Option R)(k:E_6_30_0_0->Option R)(p0 p1:Int)(p2:(List Int×List Int×Int×Unit)×Int×Int×Unit)(p3:List (Int×Int×Int×Int×Int×Int×Bool×Int×Unit)×List (Int×Int×Int×Int×Int×List Int×Int×Unit)×Int×Bool×Unit)(p4:(List Int×List Int×Int×Unit)×Int×Int×Unit)(p5:Int×Int×Unit)(p6:List (Int×Int×Int×Int×Int×Int×Bool×Int×Unit)×List (Int×Int×Int×Int×Int×List Int×Int×Unit)×Int×Bool×Unit)(p7:(List Int×List Int×Int×Unit)×Int×Int×Unit)(p8:Int×Int×Unit)(p9 p10:List (Int×List Int×Unit)):Option R:=
 bif decide (p1<(↑(length p10):Int))then gd (inB p1 (length p10)) (gd (decide (toNat p1<length p10)&&true) (bif(getD p10 (toNat p1) Zd2).1==254 then K p0 (wrap i64 (p1+1)) p2 p3 p4 p5 p6 p7 p8 p9 p10 else bif !decide ((getD p10 (toNat p1) Zd2).1<(↑(length (p3.2.1)):Int))then gd (inB p0 (length p10)) (gd (decide (toNat p0<length p10)&&true&&true) (K (wrap i64 (p0+1)) (wrap i64 (p1+1)) p2 p3 p4 p5 p6 p7 p8 p9 (List.set p10 (toNat p0) (getD p10 (toNat p1) Zd2))))else K p0 (wrap i64 (p1+1)) p2 p3 p4 p5 p6 p7 p8 p9 p10))else k (E_6_30_0_0.e0 p0 p2 p3 p4 p5 p6 p7 p8 p9 p10)
noncomputable def Sp.L_6_30_0_0:Nat->Int->Int->((List Int×List Int×Int×Unit)×Int×Int×Unit)->(List (Int×Int×Int×Int×Int×Int×Bool×Int×Unit)×List (Int×Int×Int×Int×Int×List Int×Int×Unit)×Int×Bool×Unit)->((List Int×List Int×Int×Unit)×Int×Int×Unit)->(Int×Int×Unit)->(List (Int×Int×Int×Int×Int×Int×Bool×Int×Unit)×List (Int×Int×Int×Int×Int×List Int×Int×Unit)×Int×Bool×Unit)->((List Int×List Int×Int×Unit)×Int×Int×Unit)->(Int×Int×Unit)->(List (Int×List Int×Unit))->(List (Int×List Int×Unit))->Option E_6_30_0_0
 |0,_,_,_,_,_,_,_,_,_,_,_=>none
 |m+1,p0,p1,p2,p3,p4,p5,p6,p7,p8,p9,p10=>S_6_30_0_0 (L_6_30_0_0 m) some p0 p1 p2 p3 p4 p5 p6 p7 p8 p9 p10
noncomputable def l_6_30_0_0(m:Nat)(a:T_6_30_0_0.E):Option E_6_30_0_0:=L_6_30_0_0 m a.1 a.2.1 a.2.2.1 a.2.2.2.1 a.2.2.2.2.1 a.2.2.2.2.2.1 a.2.2.2.2.2.2.1 a.2.2.2.2.2.2.2.1 a.2.2.2.2.2.2.2.2.1 a.2.2.2.2.2.2.2.2.2.1 a.2.2.2.2.2.2.2.2.2.2.1
noncomputable def O_6_30_0_0{R:Type}:Orc R:=orL T_6_30_0_0 (l_6_30_0_0 FU) Y_6_30_0_0
theorem OK_6_30_0_0{R:Type}:okF (R:=R) sm_6 4 (nf 30 0) O_6_30_0_0:=lp ov_6_30_ok (os:=[]) trivial T_6_30_0_0 l_6_30_0_0 (fun R K k a=>S_6_30_0_0 (fun p0 p1 p2 p3 p4 p5 p6 p7 p8 p9 p10=>K (p0,p1,p2,p3,p4,p5,p6,p7,p8,p9,p10,())) k a.1 a.2.1 a.2.2.1 a.2.2.2.1 a.2.2.2.2.1 a.2.2.2.2.2.1 a.2.2.2.2.2.2.1 a.2.2.2.2.2.2.2.1 a.2.2.2.2.2.2.2.2.1 a.2.2.2.2.2.2.2.2.2.1 a.2.2.2.2.2.2.2.2.2.2.1) Y_6_30_0_0 (fun _=>rfl) (fun _ _=>rfl) (fun k K a=>by kernel_rfl) (fun Y K a=>by
 unfold S_6_30_0_0
 repeat' first|apply gdN|apply condN|rfl) (ok0 _)
noncomputable def T_6_30_0_1:PS:=⟨42,[(0,.kc (.whole 13)),(1,.kc (.clo 32 (.pair (.ptr 1 []) (.pure .unit PUnit.unit)))),(5,.hv (.int .i64)),(6,.hv (.int .i64))],[.mem (.hv Zy6_3),.mem (.hv Zy6_2),.fresh,.fresh,.fresh,.fresh,.fresh,.fresh,.mem (.hv Zy6_3),.mem (.hv Zy6_6),.mem (.hv Zy6_2),.mem (.hv Zy6_3),.mem (.hv Zy6_6),.vec 71 Zy6_7],14⟩
inductive Sp.E_6_30_0_1 where
 |e0 (p0:Int) (p2:Zt6_1) (p3:Zt6_0) (p4:Zt6_1) (p5:Zt6_5) (p6:Zt6_0) (p7:Zt6_1) (p8:Zt6_5) (p9:Zt6_4)
noncomputable def Sp.B_6_30_0_1{R:Type}(r:Option E_6_30_0_1)(k0:Int->Zt6_1->Zt6_0->Zt6_1->Zt6_5->Zt6_0->Zt6_1->Zt6_5->Zt6_4->Option R):Option R:=match r with
 |none=>none
 |some (.e0 p0 p2 p3 p4 p5 p6 p7 p8 p9)=>k0 p0 p2 p3 p4 p5 p6 p7 p8 p9
noncomputable def Y_6_30_0_1{R:Type}(k:Ex->St->Option R):E_6_30_0_1->Option R
 | .e0 p0 p2 p3 p4 p5 p6 p7 p8 p9=>k (Ex.exit 0) (sx 42 [(0,CV.whole 13),(5,CV.int i64 p0)] [Blk.mem (CV.pure (Ty.pair (Ty.pair (Ty.slice (Ty.int u32)) (Ty.pair (Ty.slice (Ty.int i64)) (Ty.pair (Ty.int i64) Ty.unit))) (Ty.pair (Ty.int i64) (Ty.pair (Ty.int i64) Ty.unit))) p2),Blk.mem (CV.pure (Ty.pair (Ty.slice (Ty.pair (Ty.int i64) (Ty.pair (Ty.int i64) (Ty.pair (Ty.int i64) (Ty.pair (Ty.int i64) (Ty.pair (Ty.int i64) (Ty.pair (Ty.int i64) (Ty.pair Ty.bool (Ty.pair (Ty.int i64) Ty.unit))))))))) (Ty.pair (Ty.slice (Ty.pair (Ty.int i64) (Ty.pair (Ty.int i64) (Ty.pair (Ty.int i64) (Ty.pair (Ty.int i64) (Ty.pair (Ty.int i64) (Ty.pair (Ty.slice (Ty.int i64)) (Ty.pair (Ty.int i64) Ty.unit)))))))) (Ty.pair (Ty.int i64) (Ty.pair Ty.bool Ty.unit)))) p3),Blk.fresh,Blk.fresh,Blk.fresh,Blk.fresh,Blk.fresh,Blk.fresh,Blk.mem (CV.pure (Ty.pair (Ty.pair (Ty.slice (Ty.int u32)) (Ty.pair (Ty.slice (Ty.int i64)) (Ty.pair (Ty.int i64) Ty.unit))) (Ty.pair (Ty.int i64) (Ty.pair (Ty.int i64) Ty.unit))) p4),Blk.mem (CV.pure (Ty.pair (Ty.int i64) (Ty.pair (Ty.int u32) Ty.unit)) p5),Blk.mem (CV.pure (Ty.pair (Ty.slice (Ty.pair (Ty.int i64) (Ty.pair (Ty.int i64) (Ty.pair (Ty.int i64) (Ty.pair (Ty.int i64) (Ty.pair (Ty.int i64) (Ty.pair (Ty.int i64) (Ty.pair Ty.bool (Ty.pair (Ty.int i64) Ty.unit))))))))) (Ty.pair (Ty.slice (Ty.pair (Ty.int i64) (Ty.pair (Ty.int i64) (Ty.pair (Ty.int i64) (Ty.pair (Ty.int i64) (Ty.pair (Ty.int i64) (Ty.pair (Ty.slice (Ty.int i64)) (Ty.pair (Ty.int i64) Ty.unit)))))))) (Ty.pair (Ty.int i64) (Ty.pair Ty.bool Ty.unit)))) p6),Blk.mem (CV.pure (Ty.pair (Ty.pair (Ty.slice (Ty.int u32)) (Ty.pair (Ty.slice (Ty.int i64)) (Ty.pair (Ty.int i64) Ty.unit))) (Ty.pair (Ty.int i64) (Ty.pair (Ty.int i64) Ty.unit))) p7),Blk.mem (CV.pure (Ty.pair (Ty.int i64) (Ty.pair (Ty.int u32) Ty.unit)) p8),Blk.vec 71 (Ty.pair (Ty.int i64) (Ty.pair (Ty.slice (Ty.int u32)) Ty.unit)) p9] 14)
noncomputable def Sp.S_6_30_0_1{R:Type}(K:Int->Int->((List Int×List Int×Int×Unit)×Int×Int×Unit)->(List (Int×Int×Int×Int×Int×Int×Bool×Int×Unit)×List (Int×Int×Int×Int×Int×List Int×Int×Unit)×Int×Bool×Unit)->((List Int×List Int×Int×Unit)×Int×Int×Unit)->(Int×Int×Unit)->(List (Int×Int×Int×Int×Int×Int×Bool×Int×Unit)×List (Int×Int×Int×Int×Int×List Int×Int×Unit)×Int×Bool×Unit)->((List Int×List Int×Int×Unit)×Int×Int×Unit)->(Int×Int×Unit)->(List (Int×List Int×Unit))->Option R)(k:E_6_30_0_1->Option R)(p0 p1:Int)(p2:(List Int×List Int×Int×Unit)×Int×Int×Unit)(p3:List (Int×Int×Int×Int×Int×Int×Bool×Int×Unit)×List (Int×Int×Int×Int×Int×List Int×Int×Unit)×Int×Bool×Unit)(p4:(List Int×List Int×Int×Unit)×Int×Int×Unit)(p5:Int×Int×Unit)(p6:List (Int×Int×Int×Int×Int×Int×Bool×Int×Unit)×List (Int×Int×Int×Int×Int×List Int×Int×Unit)×Int×Bool×Unit)(p7:(List Int×List Int×Int×Unit)×Int×Int×Unit)(p8:Int×Int×Unit)(p9:List (Int×List Int×Unit)):Option R:=
 bif decide (p1<(↑(length p9):Int))then gd (inB p1 (length p9)) (gd (decide (toNat p1<length p9)&&true) (bif(getD p9 (toNat p1) Zd2).1==254 then K p0 (wrap i64 (p1+1)) p2 p3 p4 p5 p6 p7 p8 p9 else bif !decide ((getD p9 (toNat p1) Zd2).1<(↑(length (p3.2.1)):Int))then gd (inB p0 (length p9)) (gd (decide (toNat p0<length p9)&&true&&true) (K (wrap i64 (p0+1)) (wrap i64 (p1+1)) p2 p3 p4 p5 p6 p7 p8 (List.set p9 (toNat p0) (getD p9 (toNat p1) Zd2))))else K p0 (wrap i64 (p1+1)) p2 p3 p4 p5 p6 p7 p8 p9))else k (E_6_30_0_1.e0 p0 p2 p3 p4 p5 p6 p7 p8 p9)
noncomputable def Sp.L_6_30_0_1:Nat->Int->Int->((List Int×List Int×Int×Unit)×Int×Int×Unit)->(List (Int×Int×Int×Int×Int×Int×Bool×Int×Unit)×List (Int×Int×Int×Int×Int×List Int×Int×Unit)×Int×Bool×Unit)->((List Int×List Int×Int×Unit)×Int×Int×Unit)->(Int×Int×Unit)->(List (Int×Int×Int×Int×Int×Int×Bool×Int×Unit)×List (Int×Int×Int×Int×Int×List Int×Int×Unit)×Int×Bool×Unit)->((List Int×List Int×Int×Unit)×Int×Int×Unit)->(Int×Int×Unit)->(List (Int×List Int×Unit))->Option E_6_30_0_1
 |0,_,_,_,_,_,_,_,_,_,_=>none
 |m+1,p0,p1,p2,p3,p4,p5,p6,p7,p8,p9=>S_6_30_0_1 (L_6_30_0_1 m) some p0 p1 p2 p3 p4 p5 p6 p7 p8 p9
noncomputable def l_6_30_0_1(m:Nat)(a:T_6_30_0_1.E):Option E_6_30_0_1:=L_6_30_0_1 m a.1 a.2.1 a.2.2.1 a.2.2.2.1 a.2.2.2.2.1 a.2.2.2.2.2.1 a.2.2.2.2.2.2.1 a.2.2.2.2.2.2.2.1 a.2.2.2.2.2.2.2.2.1 a.2.2.2.2.2.2.2.2.2.1
noncomputable def O_6_30_0_1{R:Type}:Orc R:=orL T_6_30_0_1 (l_6_30_0_1 FU) Y_6_30_0_1 O_6_30_0_0
theorem OK_6_30_0_1{R:Type}:okF (R:=R) sm_6 4 (nf 30 0) O_6_30_0_1:=lp ov_6_30_ok (os:=[]) trivial T_6_30_0_1 l_6_30_0_1 (fun R K k a=>S_6_30_0_1 (fun p0 p1 p2 p3 p4 p5 p6 p7 p8 p9=>K (p0,p1,p2,p3,p4,p5,p6,p7,p8,p9,())) k a.1 a.2.1 a.2.2.1 a.2.2.2.1 a.2.2.2.2.1 a.2.2.2.2.2.1 a.2.2.2.2.2.2.1 a.2.2.2.2.2.2.2.1 a.2.2.2.2.2.2.2.2.1 a.2.2.2.2.2.2.2.2.2.1) Y_6_30_0_1 (fun _=>rfl) (fun _ _=>rfl) (fun k K a=>by kernel_rfl) (fun Y K a=>by
 unfold S_6_30_0_1
 repeat' first|apply gdN|apply condN|rfl) OK_6_30_0_0
noncomputable def g_6_30{R:Type}:List CV->List Blk->(CV->List Blk->Option R)->Option R:=evFnL sm_6 FU (ovr ov_6_30 (evFn sm_6 fns FU 4)) (mkT (fB fns 30) [O_6_30_0_1]) (fO fns 30)
theorem g_6_30_ok{R:Type}(args:List CV)(hp:List Blk)(k:CV->List Blk->Option R)(r:R)(h:g_6_30 args hp k=some r):evFn sm_6 fns FU 5 30 args hp k=some r:=runG ov_6_30_ok (os:=[O_6_30_0_1]) ⟨OK_6_30_0_1,trivial⟩ h
noncomputable def ov_6_29{R:Type}:Nat->Option (List CV->List Blk->(CV->List Blk->Option R)->Option R):=fun f'=>bif Nat.beq f' 30 then some g_6_30 else none
theorem ov_6_29_ok{R:Type}:OvrOK (R:=R) ov_6_29 (evFn sm_6 fns FU 5):=by
 intro f' g h args hp k r hg
 dsimp only[ov_6_29]at h
 by_cases h30:f'=30
 ·subst h30
  injection h with h
  subst h
  exact evFn_le 0 (g_6_30_ok _ _ _ _ hg)
 rw[nbeq_ne h30,cond_false]at h
 cases h
noncomputable def g_6_29{R:Type}:List CV->List Blk->(CV->List Blk->Option R)->Option R:=evFnL sm_6 FU (ovr ov_6_29 (evFn sm_6 fns FU 5)) (mkT (fB fns 29) []) (fO fns 29)
theorem g_6_29_ok{R:Type}(args:List CV)(hp:List Blk)(k:CV->List Blk->Option R)(r:R)(h:g_6_29 args hp k=some r):evFn sm_6 fns FU 6 29 args hp k=some r:=runG ov_6_29_ok (os:=[]) trivial h
noncomputable def ov_6_6{R:Type}:Nat->Option (List CV->List Blk->(CV->List Blk->Option R)->Option R):=fun f'=>bif Nat.beq f' 29 then some g_6_29 else none
theorem ov_6_6_ok{R:Type}:OvrOK (R:=R) ov_6_6 (evFn sm_6 fns FU 6):=by
 intro f' g h args hp k r hg
 dsimp only[ov_6_6]at h
 by_cases h29:f'=29
 ·subst h29
  injection h with h
  subst h
  exact evFn_le 0 (g_6_29_ok _ _ _ _ hg)
 rw[nbeq_ne h29,cond_false]at h
 cases h
noncomputable def F_6(a0:(((List Int)×((List Int)×(Int×Unit)))×(Int×(Int×Unit))))(a1:((List (Int×(Int×(Int×(Int×(Int×(Int×(Bool×(Int×Unit)))))))))×((List (Int×(Int×(Int×(Int×(Int×((List Int)×(Int×Unit))))))))×(Int×(Bool×Unit))))):Option (Bool) :=
 gd p_7 (bif !v_7.1 then gd p_7 (some (v_7.1))else gd (p_8 a0 a1) (bif !(v_8 a0 a1).1 then gd p_7 (some (v_7.1))else gd p_25 (gd (p_22 a0 a1 (v_25.1)) (bif !(v_22 a0 a1 (v_25.1)).1 then gd p_7 (some (v_7.1))else gd p_25 (gd (p_21 a0 a1 (v_25.1)) (bif(v_21 a0 a1 (v_25.1)).2.2.1 !=0 then bif(v_21 a0 a1 (v_25.1)).2.2.1==5 then gd (p_23 ((v_21 a0 a1 (v_25.1)).1) (([],[],0,PUnit.unit),0,0,PUnit.unit)) (some ((v_23 ((v_21 a0 a1 (v_25.1)).1) (([],[],0,PUnit.unit),0,0,PUnit.unit)).1))else bif(v_21 a0 a1 (v_25.1)).2.2.1==19 then gd (p_23 ((v_21 a0 a1 (v_25.1)).1) (([],[],0,PUnit.unit),0,0,PUnit.unit)) (some ((v_23 ((v_21 a0 a1 (v_25.1)).1) (([],[],0,PUnit.unit),0,0,PUnit.unit)).1))else some false else gd (p_10 ((v_21 a0 a1 (v_25.1)).1) (a1.1)) (bif(v_10 ((v_21 a0 a1 (v_25.1)).1) (a1.1)).2.1 !=0 then some false else gd (p_26 ((v_10 ((v_21 a0 a1 (v_25.1)).1) (a1.1)).1) a1) (bif !(v_26 ((v_10 ((v_21 a0 a1 (v_25.1)).1) (a1.1)).1) a1).1 then some false else gd (p_21 ((v_21 a0 a1 (v_25.1)).1) a1 (0,0,PUnit.unit)) (bif(v_21 ((v_21 a0 a1 (v_25.1)).1) a1 (0,0,PUnit.unit)).2.2.1 !=0 then some false else bif !Ty.beq (Ty.pair (Ty.int i64) (Ty.pair (Ty.int u32) Ty.unit)) ((v_21 ((v_21 a0 a1 (v_25.1)).1) a1 (0,0,PUnit.unit)).2.1) (0,0,PUnit.unit)then some false else gd (p_23 ((v_21 ((v_21 a0 a1 (v_25.1)).1) a1 (0,0,PUnit.unit)).1) ((v_21 a0 a1 (v_25.1)).1)) (bif !(v_23 ((v_21 ((v_21 a0 a1 (v_25.1)).1) a1 (0,0,PUnit.unit)).1) ((v_21 a0 a1 (v_25.1)).1)).1 then some false else gd (p_28 a0) (gd (p_28 ((v_21 a0 a1 (v_25.1)).1)) (bif(v_28 a0).2.1 !=0 then some false else bif(v_28 ((v_21 a0 a1 (v_25.1)).1)).2.1 !=0 then some false else gd (room (length ((v_28 a0).1)) 32) (B_6_71_0_0 (L_6_71_0_0 4611686018427387904 (↑(length ((v_28 a0).1)):Int) 0 a0 a1 ((v_21 a0 a1 (v_25.1)).1) ((v_21 a0 a1 (v_25.1)).2.1) ((v_10 ((v_21 a0 a1 (v_25.1)).1) (a1.1)).1) ((v_21 ((v_21 a0 a1 (v_25.1)).1) a1 (0,0,PUnit.unit)).1) ((v_21 ((v_21 a0 a1 (v_25.1)).1) a1 (0,0,PUnit.unit)).2.1) ((v_28 a0).1)) (fun y113 y114 y115 y116 y117 y118 y119 y120 y121=>bif y113==(-1:Int)then gd (room (length ((v_28 ((v_21 a0 a1 (v_25.1)).1)).1)) 32) (B_6_71_0_1 (L_6_71_0_1 4611686018427387904 (↑(length ((v_28 ((v_21 a0 a1 (v_25.1)).1)).1)):Int) 0 y114 y115 y116 y117 y118 y119 y120 y121 ((v_28 ((v_21 a0 a1 (v_25.1)).1)).1)) (fun y122 y123 y124 y125 y126 y127 y128 y129 y130 y131=>bif y122==(-1:Int)then gd (p_33 y130 y131) (some ((v_33 y130 y131).1))else B_6_30_0_0 (L_6_30_0_0 4611686018427387904 y122 (wrap i64 (y122+1)) y123 y124 y125 y126 y127 y128 y129 y130 y131) fun y132 y133 y134 y135 y136 y137 y138 y139 y140 y141=>gd (sl3 y132 (↑(length y141):Int) (↑(length y141):Int)) (gd (decide (toNat y132+(toNat (↑(length y141):Int)-toNat y132)<=length y141)&&decide (0<length y141)) (gd (sl3 0 y132 (↑(length (over y141 (toNat y132) (replicate (toNat (↑(length y141):Int)-toNat y132) Zd2))):Int)) (gd (decide (0+(toNat y132-0)<=length (over y141 (toNat y132) (replicate (toNat (↑(length y141):Int)-toNat y132) Zd2)))&&true&&p_33 y140 (take (toNat y132-0) (drop 0 (over y141 (toNat y132) (replicate (toNat (↑(length y141):Int)-toNat y132) Zd2))))) (some ((v_33 y140 (take (toNat y132-0) (drop 0 (over y141 (toNat y132) (replicate (toNat (↑(length y141):Int)-toNat y132) Zd2))))).1)))))) fun y142 y143 y144 y145 y146 y147 y148 y149 y150=>gd (p_33 y149 y150) (some ((v_33 y149 y150).1)))else B_6_30_0_1 (L_6_30_0_1 4611686018427387904 y113 (wrap i64 (y113+1)) y114 y115 y116 y117 y118 y119 y120 y121) fun y151 y152 y153 y154 y155 y156 y157 y158 y159=>gd (sl3 y151 (↑(length y159):Int) (↑(length y159):Int)) (gd (decide (toNat y151+(toNat (↑(length y159):Int)-toNat y151)<=length y159)&&decide (0<length y159)) (gd (sl3 0 y151 (↑(length (over y159 (toNat y151) (replicate (toNat (↑(length y159):Int)-toNat y151) Zd2))):Int)) (gd (room (length ((v_28 ((v_21 a0 a1 (v_25.1)).1)).1)) 32) (B_6_71_0_1 (L_6_71_0_1 4611686018427387904 (↑(length ((v_28 ((v_21 a0 a1 (v_25.1)).1)).1)):Int) 0 y152 y153 y154 y155 y156 y157 y158 (over y159 (toNat y151) (replicate (toNat (↑(length y159):Int)-toNat y151) Zd2)) ((v_28 ((v_21 a0 a1 (v_25.1)).1)).1)) (fun y160 y161 y162 y163 y164 y165 y166 y167 y168 y169=>bif y160==(-1:Int)then gd (decide (0+(toNat y151-0)<=length y168)&&true&&p_33 (take (toNat y151-0) (drop 0 y168)) y169) (some ((v_33 (take (toNat y151-0) (drop 0 y168)) y169).1))else B_6_30_0_0 (L_6_30_0_0 4611686018427387904 y160 (wrap i64 (y160+1)) y161 y162 y163 y164 y165 y166 y167 y168 y169) fun y170 y171 y172 y173 y174 y175 y176 y177 y178 y179=>gd (sl3 y170 (↑(length y179):Int) (↑(length y179):Int)) (gd (decide (toNat y170+(toNat (↑(length y179):Int)-toNat y170)<=length y179)&&decide (0<length y179)) (gd (sl3 0 y170 (↑(length (over y179 (toNat y170) (replicate (toNat (↑(length y179):Int)-toNat y170) Zd2))):Int)) (gd (decide (0+(toNat y151-0)<=length y178)&&(decide (0+(toNat y170-0)<=length (over y179 (toNat y170) (replicate (toNat (↑(length y179):Int)-toNat y170) Zd2)))&&true)&&p_33 (take (toNat y151-0) (drop 0 y178)) (take (toNat y170-0) (drop 0 (over y179 (toNat y170) (replicate (toNat (↑(length y179):Int)-toNat y170) Zd2))))) (some ((v_33 (take (toNat y151-0) (drop 0 y178)) (take (toNat y170-0) (drop 0 (over y179 (toNat y170) (replicate (toNat (↑(length y179):Int)-toNat y170) Zd2))))).1)))))) fun y180 y181 y182 y183 y184 y185 y186 y187 y188=>gd (decide (0+(toNat y151-0)<=length y187)&&true&&p_33 (take (toNat y151-0) (drop 0 y187)) y188) (some ((v_33 (take (toNat y151-0) (drop 0 y187)) y188).1))))))) fun y189 y190 y191 y192 y193 y194 y195 y196=>gd (room (length ((v_28 ((v_21 a0 a1 (v_25.1)).1)).1)) 32) (B_6_71_0_1 (L_6_71_0_1 4611686018427387904 (↑(length ((v_28 ((v_21 a0 a1 (v_25.1)).1)).1)):Int) 0 y189 y190 y191 y192 y193 y194 y195 y196 ((v_28 ((v_21 a0 a1 (v_25.1)).1)).1)) (fun y197 y198 y199 y200 y201 y202 y203 y204 y205 y206=>bif y197==(-1:Int)then gd (p_33 y205 y206) (some ((v_33 y205 y206).1))else B_6_30_0_0 (L_6_30_0_0 4611686018427387904 y197 (wrap i64 (y197+1)) y198 y199 y200 y201 y202 y203 y204 y205 y206) fun y207 y208 y209 y210 y211 y212 y213 y214 y215 y216=>gd (sl3 y207 (↑(length y216):Int) (↑(length y216):Int)) (gd (decide (toNat y207+(toNat (↑(length y216):Int)-toNat y207)<=length y216)&&decide (0<length y216)) (gd (sl3 0 y207 (↑(length (over y216 (toNat y207) (replicate (toNat (↑(length y216):Int)-toNat y207) Zd2))):Int)) (gd (decide (0+(toNat y207-0)<=length (over y216 (toNat y207) (replicate (toNat (↑(length y216):Int)-toNat y207) Zd2)))&&true&&p_33 y215 (take (toNat y207-0) (drop 0 (over y216 (toNat y207) (replicate (toNat (↑(length y216):Int)-toNat y207) Zd2))))) (some ((v_33 y215 (take (toNat y207-0) (drop 0 (over y216 (toNat y207) (replicate (toNat (↑(length y216):Int)-toNat y207) Zd2))))).1)))))) fun y217 y218 y219 y220 y221 y222 y223 y224 y225=>gd (p_33 y224 y225) (some ((v_33 y224 y225).1))))))))))))))))
theorem run_6(a0:(((List Int)×((List Int)×(Int×Unit)))×(Int×(Int×Unit))))(a1:((List (Int×(Int×(Int×(Int×(Int×(Int×(Bool×(Int×Unit)))))))))×((List (Int×(Int×(Int×(Int×(Int×((List Int)×(Int×Unit))))))))×(Int×(Bool×Unit))))){b:Bool}(h:F_6 a0 a1=some b):evFn sm_6 fns FU 7 6 (ofH A_6 (a0,a1,())) [] bk=some b:=runG ov_6_6_ok (os:=[]) trivial (Eq.trans (by kernel_rfl) h)
end
end Go.Ev
namespace Go.Proofs
open Go.Shelf
noncomputable def Tryz.clone31_ren:Go.Shelf.Ren:=⟨fun|41=>31|n=>n,fun|22=>66|23=>71|4=>4|n=>n,fun|n=>n⟩
theorem Tryz.clone31:Go.Proofs.SlLaysE0.n41 Tryz.prog Tryz.clone31_ren:= {
 mixed:=by kernel_rfl
 f41:=⟨Tryz.f31.name,by decide,Tryz.func31.trans (congrArg some (by kernel_rfl))⟩
 t4:=Tryz.underlying4
 a4:=Tryz.isAgg4
 z4:=Tryz.sizeOf4
 v4:=Tryz.zeroValue4
 t22:=Tryz.underlying66
 a22:=Tryz.isAgg66
 z22:=Tryz.sizeOf66
 v22:=Tryz.zeroValue66}
noncomputable def Tryz.clone57_ren:Go.Shelf.Ren:=⟨fun|41=>57|n=>n,fun|22=>22|23=>51|4=>4|n=>n,fun|n=>n⟩
theorem Tryz.clone57:Go.Proofs.SlLaysE0.n41 Tryz.prog Tryz.clone57_ren:= {
 mixed:=by kernel_rfl
 f41:=⟨Tryz.f57.name,by decide,Tryz.func57.trans (congrArg some (by kernel_rfl))⟩
 t4:=Tryz.underlying4
 a4:=Tryz.isAgg4
 z4:=Tryz.sizeOf4
 v4:=Tryz.zeroValue4
 t22:=Tryz.underlying22
 a22:=Tryz.isAgg22
 z22:=Tryz.sizeOf22
 v22:=Tryz.zeroValue22}
noncomputable def Tryz.clone58_ren:Go.Shelf.Ren:=⟨fun|41=>58|n=>n,fun|22=>23|23=>3|4=>4|n=>n,fun|n=>n⟩
theorem Tryz.clone58:Go.Proofs.SlLaysE0.n41 Tryz.prog Tryz.clone58_ren:= {
 mixed:=by kernel_rfl
 f41:=⟨Tryz.f58.name,by decide,Tryz.func58.trans (congrArg some (by kernel_rfl))⟩
 t4:=Tryz.underlying4
 a4:=Tryz.isAgg4
 z4:=Tryz.sizeOf4
 v4:=Tryz.zeroValue4
 t22:=Tryz.underlying23
 a22:=Tryz.isAgg23
 z22:=Tryz.sizeOf23
 v22:=Tryz.zeroValue23}
noncomputable def Tryz.clone83_ren:Go.Shelf.Ren:=⟨fun|41=>83|n=>n,fun|22=>28|23=>63|4=>4|n=>n,fun|n=>n⟩
theorem Tryz.clone83:Go.Proofs.SlLaysE0.n41 Tryz.prog Tryz.clone83_ren:= {
 mixed:=by kernel_rfl
 f41:=⟨Tryz.f83.name,by decide,Tryz.func83.trans (congrArg some (by kernel_rfl))⟩
 t4:=Tryz.underlying4
 a4:=Tryz.isAgg4
 z4:=Tryz.sizeOf4
 v4:=Tryz.zeroValue4
 t22:=Tryz.underlying28
 a22:=Tryz.isAgg28
 z22:=Tryz.sizeOf28
 v22:=Tryz.zeroValue28}
end Go.Proofs
namespace Go.Ev
open Go Go.Proofs Go.RowKit
set_option maxRecDepth 100000
set_option maxHeartbeats 4000000
theorem info31:∃i,Tryz.prog.info? 71=some i/\i.zero=some (.agg #[.int .i64 0,.slice none 0 0])/\i.size=2/\i.bytes=32:=⟨_,rfl,by kernel_rfl,by kernel_rfl,by kernel_rfl⟩
theorem sok_31:SummOK Tryz.prog 31 (vecS (.pair (.int .i64) (.pair (.slice (.int .u32)) .unit)) 71 32):=by
 obtain⟨i,hi,h0,h1,h2⟩:=info31
 exact clone_vec (by kernel_rfl) (by decide)
  (fun b off n c news w hl hn hb hc h3=>AnyE.slices_Clone Tryz.clone31 i _ 2 32 hi h0 h1 h2 (by kernel_rfl) (by decide) Tryz.sizeOf71 b off n c news w hl hn hb hc h3)
  (fun n c w=>AnyE.slices_Clone_nil Tryz.clone31 n c w)
  (fun a c w=>clone_zero Tryz.clone31 i _ 2 32 hi h0 h1 h2 (by kernel_rfl) (by decide) Tryz.sizeOf71 a c w)
theorem info57:∃i,Tryz.prog.info? 51=some i/\i.zero=some (.int .u32 0)/\i.size=1/\i.bytes=4:=⟨_,rfl,by kernel_rfl,by kernel_rfl,by kernel_rfl⟩
theorem sok_57:SummOK Tryz.prog 57 (vecS (.int .u32) 51 4):=by
 obtain⟨i,hi,h0,h1,h2⟩:=info57
 exact clone_vec (by kernel_rfl) (by decide)
  (fun b off n c news w hl hn hb hc h3=>AnyE.slices_Clone Tryz.clone57 i _ 1 4 hi h0 h1 h2 (by kernel_rfl) (by decide) Tryz.sizeOf51 b off n c news w hl hn hb hc h3)
  (fun n c w=>AnyE.slices_Clone_nil Tryz.clone57 n c w)
  (fun a c w=>clone_zero Tryz.clone57 i _ 1 4 hi h0 h1 h2 (by kernel_rfl) (by decide) Tryz.sizeOf51 a c w)
theorem info58:∃i,Tryz.prog.info? 3=some i/\i.zero=some (.int .i64 0)/\i.size=1/\i.bytes=8:=⟨_,rfl,by kernel_rfl,by kernel_rfl,by kernel_rfl⟩
theorem sok_58:SummOK Tryz.prog 58 (vecS (.int .i64) 3 8):=by
 obtain⟨i,hi,h0,h1,h2⟩:=info58
 exact clone_vec (by kernel_rfl) (by decide)
  (fun b off n c news w hl hn hb hc h3=>AnyE.slices_Clone Tryz.clone58 i _ 1 8 hi h0 h1 h2 (by kernel_rfl) (by decide) Tryz.sizeOf3 b off n c news w hl hn hb hc h3)
  (fun n c w=>AnyE.slices_Clone_nil Tryz.clone58 n c w)
  (fun a c w=>clone_zero Tryz.clone58 i _ 1 8 hi h0 h1 h2 (by kernel_rfl) (by decide) Tryz.sizeOf3 a c w)
theorem info83:∃i,Tryz.prog.info? 63=some i/\i.zero=some (.agg #[.int .i64 0,.int .i64 0,.int .i64 0,.int .i64 0,.int .i64 0,.int .i64 0,.bool false,.int .i64 0])/\i.size=8/\i.bytes=64:=⟨_,rfl,by kernel_rfl,by kernel_rfl,by kernel_rfl⟩
theorem sok_83:SummOK Tryz.prog 83 (vecS (.pair (.int .i64) (.pair (.int .i64) (.pair (.int .i64) (.pair (.int .i64) (.pair (.int .i64) (.pair (.int .i64) (.pair .bool (.pair (.int .i64) .unit)))))))) 63 64):=by
 obtain⟨i,hi,h0,h1,h2⟩:=info83
 exact clone_vec (by kernel_rfl) (by decide)
  (fun b off n c news w hl hn hb hc h3=>AnyE.slices_Clone Tryz.clone83 i _ 8 64 hi h0 h1 h2 (by kernel_rfl) (by decide) Tryz.sizeOf63 b off n c news w hl hn hb hc h3)
  (fun n c w=>AnyE.slices_Clone_nil Tryz.clone83 n c w)
  (fun a c w=>clone_zero Tryz.clone83 i _ 8 64 hi h0 h1 h2 (by kernel_rfl) (by decide) Tryz.sizeOf63 a c w)
noncomputable def ins133_ren:Go.Shelf.Ren:=⟨fun|22=>133|29=>151|30=>152|n=>n,fun|9=>71|24=>66|n=>n,fun|n=>n⟩
theorem ins133_lay:InsL Tryz.prog ins133_ren (.agg #[.int .i64 0,.slice none 0 0]) 32:= {
 mixed:=by kernel_rfl
 f22:=⟨Tryz.f133.name,by decide,Tryz.func133.trans (congrArg some (by kernel_rfl))⟩
 f29:=⟨_,Tryz.func151,by decide,by kernel_rfl,by kernel_rfl,by kernel_rfl⟩
 t0:=Tryz.underlying0
 a0:=Tryz.isAgg0
 z0:=Tryz.sizeOf0
 v0:=Tryz.zeroValue0
 t3:=Tryz.underlying3
 a3:=Tryz.isAgg3
 z3:=Tryz.sizeOf3
 v3:=Tryz.zeroValue3
 t4:=Tryz.underlying4
 a4:=Tryz.isAgg4
 z4:=Tryz.sizeOf4
 v4:=Tryz.zeroValue4
 t24:=Tryz.underlying66
 a24:=Tryz.isAgg66
 z24:=Tryz.sizeOf66
 v24:=Tryz.zeroValue66
 z9:=Tryz.sizeOf71
 i9:=by kernel_rfl
 c9:=by kernel_rfl}
theorem sok_133:SummOK Tryz.prog 133 (insS (.pair (.int .i64) (.pair (.slice (.int .u32)) .unit)) 71 32):=ins_sum ins133_lay rfl rfl (by kernel_rfl) (by decide) (by decide)
theorem sok_72:SummOK Tryz.prog 72 s_72:=sokN hm0 run_72 trivial
theorem sok_75:SummOK Tryz.prog 75 s_75:=sokN hm0 run_75 trivial
theorem sok_34:SummOK Tryz.prog 34 s_34:=sokS hm0 run_34 ⟨sok_72,sok_75,trivial⟩
theorem sok_35:SummOK Tryz.prog 35 s_35:=sokN hm0 run_35 trivial
theorem sok_7:SummOK Tryz.prog 7 s_7:=sokN hm0 run_7 ⟨sok_34,sok_35,trivial⟩
theorem sok_9:SummOK Tryz.prog 9 s_9:=sokN hm0 run_9 trivial
theorem sok_8:SummOK Tryz.prog 8 s_8:=sokN hm0 run_8 ⟨sok_9,trivial⟩
theorem sok_96:SummOK Tryz.prog 96 s_96:=sokN hm0 run_96 trivial
theorem sok_129:SummOK Tryz.prog 129 s_129:=sokN hm0 run_129 trivial
theorem sok_110:SummOK Tryz.prog 110 s_110:=sokS hm0 run_110 ⟨sok_96,sok_129,trivial⟩
theorem sok_124:SummOK Tryz.prog 124 s_124:=sokN hm0 run_124 trivial
theorem sok_141:SummOK Tryz.prog 141 s_141:=sokN hm0 run_141 ⟨sok_124,trivial⟩
theorem sok_109:SummOK Tryz.prog 109 s_109:=sokN hm0 run_109 ⟨sok_110,sok_141,trivial⟩
theorem sok_69:SummOK Tryz.prog 69 s_69:=sokN hm0 run_69 ⟨sok_109,trivial⟩
theorem sok_78:SummOK Tryz.prog 78 s_78:=sokN hm0 run_78 trivial
theorem sok_79:SummOK Tryz.prog 79 s_79:=sokN hm0 run_79 trivial
theorem sok_38:SummOK Tryz.prog 38 s_38:=sokN hm0 run_38 ⟨sok_69,sok_78,sok_79,trivial⟩
theorem sok_84:SummOK Tryz.prog 84 s_84:=sokN hm0 run_84 trivial
theorem sok_117:SummOK Tryz.prog 117 s_117:=sokN hm0 run_117 ⟨sok_84,trivial⟩
theorem sok_39:SummOK Tryz.prog 39 s_39:=sokO hm0 run_39 ⟨sok_82,sok_83,sok_117,trivial⟩
theorem sok_98:SummOK Tryz.prog 98 s_98:=sokOO hm0 run_98 ⟨sok_57,sok_133,trivial⟩
theorem sok_125:SummOK Tryz.prog 125 s_125:=sokN hm0 run_125 trivial
theorem sok_70:SummOK Tryz.prog 70 s_70:=sokO hm0 run_70 ⟨sok_98,sok_110,sok_125,sok_141,trivial⟩
theorem sok_28:SummOK Tryz.prog 28 s_28:=sokS hm0 run_28 ⟨sok_38,sok_69,sok_70,trivial⟩
theorem sok_41:SummOK Tryz.prog 41 s_41:=sokS hm0 run_41 ⟨sok_28,trivial⟩
theorem sok_40:SummOK Tryz.prog 40 s_40:=sokN hm0 run_40 ⟨sok_41,trivial⟩
theorem sok_42:SummOK Tryz.prog 42 s_42:=sokS hm0 run_42 ⟨sok_34,trivial⟩
theorem sok_43:SummOK Tryz.prog 43 s_43:=sokN hm0 run_43 trivial
theorem sok_145:SummOK Tryz.prog 145 s_145:=sokN hm0 run_145 ⟨sok_84,trivial⟩
theorem sok_118:SummOK Tryz.prog 118 s_118:=sokN hm0 run_118 ⟨sok_145,trivial⟩
theorem sok_119:SummOK Tryz.prog 119 s_119:=sokN hm0 run_119 trivial
theorem sok_120:SummOK Tryz.prog 120 s_120:=sokN hm0 run_120 trivial
theorem sok_85:SummOK Tryz.prog 85 s_85:=sokN hm0 run_85 ⟨sok_84,sok_118,sok_119,sok_120,trivial⟩
theorem sok_44:SummOK Tryz.prog 44 s_44:=sokN hm0 run_44 ⟨sok_82,sok_84,sok_85,sok_117,trivial⟩
theorem sok_10:SummOK Tryz.prog 10 s_10:=sokS hm0 run_10 ⟨sok_38,sok_39,sok_40,sok_41,sok_42,sok_43,sok_44,trivial⟩
theorem sok_60:SummOK Tryz.prog 60 s_60:=sokN hm0 run_60 ⟨sok_35,sok_41,trivial⟩
theorem sok_92:SummOK Tryz.prog 92 s_92:=sokN hm0 run_92 trivial
theorem sok_93:SummOK Tryz.prog 93 s_93:=sokS hm0 run_93 ⟨sok_124,sok_125,trivial⟩
theorem sok_126:SummOK Tryz.prog 126 s_126:=sokS hm0 run_126 ⟨sok_57,sok_58,trivial⟩
theorem sok_146:SummOK Tryz.prog 146 s_146:=sokN hm0 run_146 ⟨sok_78,trivial⟩
theorem sok_127:SummOK Tryz.prog 127 s_127:=sokS hm0 run_127 ⟨sok_57,sok_58,sok_146,trivial⟩
theorem sok_128:SummOK Tryz.prog 128 s_128:=sokS hm0 run_128 ⟨sok_57,sok_58,sok_146,trivial⟩
theorem sok_94:SummOK Tryz.prog 94 s_94:=sokS hm0 run_94 ⟨sok_126,sok_127,sok_128,trivial⟩
theorem sok_95:SummOK Tryz.prog 95 s_95:=sokS hm0 run_95 trivial
theorem sok_130:SummOK Tryz.prog 130 s_130:=sokO hm0 run_130 trivial
theorem sok_97:SummOK Tryz.prog 97 s_97:=sokS hm0 run_97 ⟨sok_69,sok_93,sok_95,sok_96,sok_109,sok_124,sok_129,sok_130,trivial⟩
theorem sok_61:SummOK Tryz.prog 61 s_61:=sokS hm0 run_61 ⟨sok_38,sok_69,sok_70,sok_92,sok_93,sok_94,sok_95,sok_96,sok_97,sok_98,trivial⟩
theorem sok_21:SummOK Tryz.prog 21 s_21:=sokS hm0 run_21 ⟨sok_34,sok_38,sok_43,sok_44,sok_57,sok_58,sok_60,sok_61,trivial⟩
theorem sok_68:SummOK Tryz.prog 68 s_68:=sokN hm0 run_68 trivial
theorem sok_27:SummOK Tryz.prog 27 s_27:=sokN hm0 run_27 ⟨sok_68,trivial⟩
theorem sok_49:SummOK Tryz.prog 49 s_49:=sokN hm0 run_49 trivial
theorem sok_136:SummOK Tryz.prog 136 s_136:=sokN hm0 run_136 trivial
theorem sok_121:SummOK Tryz.prog 121 s_121:=sokN hm0 run_121 ⟨sok_136,trivial⟩
theorem sok_101:SummOK Tryz.prog 101 s_101:=sokN hm0 run_101 trivial
theorem sok_103:SummOK Tryz.prog 103 s_103:=sokN hm0 run_103 ⟨sok_101,trivial⟩
theorem sok_122:SummOK Tryz.prog 122 s_122:=sokN hm0 run_122 ⟨sok_103,trivial⟩
theorem sok_86:SummOK Tryz.prog 86 s_86:=sokN hm0 run_86 ⟨sok_121,sok_122,trivial⟩
theorem sok_50:SummOK Tryz.prog 50 s_50:=sokN hm0 run_50 ⟨sok_86,trivial⟩
theorem sok_13:SummOK Tryz.prog 13 s_13:=sokN hm0 run_13 ⟨sok_27,sok_49,sok_50,trivial⟩
theorem sok_55:SummOK Tryz.prog 55 s_55:=sokN hm0 run_55 trivial
theorem sok_48:SummOK Tryz.prog 48 s_48:=sokN hm0 run_48 ⟨sok_55,trivial⟩
theorem sok_12:SummOK Tryz.prog 12 s_12:=sokN hm0 run_12 ⟨sok_48,trivial⟩
theorem sok_89:SummOK Tryz.prog 89 s_89:=sokN hm0 run_89 ⟨sok_55,trivial⟩
theorem sok_90:SummOK Tryz.prog 90 s_90:=sokN hm0 run_90 trivial
theorem sok_54:SummOK Tryz.prog 54 s_54:=sokN hm0 run_54 ⟨sok_55,sok_89,sok_90,trivial⟩
theorem sok_16:SummOK Tryz.prog 16 s_16:=sokN hm0 run_16 ⟨sok_12,sok_54,sok_55,trivial⟩
theorem sok_62:SummOK Tryz.prog 62 s_62:=sokN hm0 run_62 trivial
theorem sok_22:SummOK Tryz.prog 22 s_22:=sokN hm0 run_22 ⟨sok_13,sok_16,sok_62,trivial⟩
theorem sok_63:SummOK Tryz.prog 63 s_63:=sokN hm0 run_63 trivial
theorem sok_23:SummOK Tryz.prog 23 s_23:=sokN hm0 run_23 ⟨sok_63,trivial⟩
theorem sok_25:SummOK Tryz.prog 25 s_25:=sokN hm0 run_25 trivial
theorem sok_56:SummOK Tryz.prog 56 s_56:=sokN hm0 run_56 trivial
theorem sok_18:SummOK Tryz.prog 18 s_18:=sokN hm0 run_18 ⟨sok_56,trivial⟩
theorem sok_53:SummOK Tryz.prog 53 s_53:=sokN hm0 run_53 trivial
theorem sok_19:SummOK Tryz.prog 19 s_19:=sokS hm0 run_19 ⟨sok_53,trivial⟩
theorem sok_26:SummOK Tryz.prog 26 s_26:=sokN hm0 run_26 ⟨sok_18,sok_19,trivial⟩
theorem sok_33:SummOK Tryz.prog 33 s_33:=sokN hm0 run_33 ⟨sok_63,trivial⟩
theorem call_6{R:Type}(n base:Nat):CallOK Tryz.prog base (rokOf Tryz.prog smB fns) (evFn (R:=R) sm_6 fns FU n):=callG hm0 (l:=[(7,s_7),(8,s_8),(10,s_10),(21,s_21),(22,s_22),(23,s_23),(25,s_25),(26,s_26),(28,s_28),(31,s_31),(33,s_33)]) ⟨sok_7,sok_8,sok_10,sok_21,sok_22,sok_23,sok_25,sok_26,sok_28,sok_31,sok_33,trivial⟩ n base
end Go.Ev
