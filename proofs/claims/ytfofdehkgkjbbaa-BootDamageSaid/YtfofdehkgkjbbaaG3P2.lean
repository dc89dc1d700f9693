/- Helpers: functions of the program as Lean functions, and what they compute. No condition. -/
import Derived.Test.YtfofdehkgkjbbaaG3P1
import Derived.Test.YtfofdehkgkjbbaaProg
import Derived.Test.YtfofdehkgkjbbaaE3P2
import Derived.Test.YtfofdehkgkjbbaaG3P0
set_option maxRecDepth 10000
set_option linter.unusedVariables false
set_option linter.unusedSimpArgs false
open Go.IntKind (wrap i64 i32 i16 i8 u64 u32 u16 u8)
open List (getD length take drop replicate)
open Int (toNat)
open Go.Ev.Sp
namespace Go.Ev
open Go
set_option maxRecDepth 100000
set_option maxHeartbeats 4000000
set_option linter.unusedVariables false
noncomputable section
abbrev A_86:List Ty:=[(.arr 32 (.int .u8)),(.int .i64),(.int .i64)]
abbrev R_86:List Ty:=[(.arr 32 (.int .u8))]
noncomputable def sm_86:Nat->Option Summ:=smL [(83,s_83)]
noncomputable def T_86_0:PS:=⟨21,[(2,.hv (.int .i64)),(3,.kc (.ptr 0 [])),(6,.kc (.ptr 1 [])),(7,.hv (.int .i64))],[.mem (.hv (.arr 32 (.int .u8))),.mem (.hv (.arr 32 (.int .u8)))],0⟩
inductive Sp.E_86_0 where
 |e0 (p2 p3:List Int)
noncomputable def Sp.B_86_0{R:Type}(r:Option E_86_0)(k0:List Int->List Int->Option R):Option R:=match r with
 |none=>none
 |some (.e0 p2 p3)=>k0 p2 p3
noncomputable def Y_86_0{R:Type}(k:Ex->St->Option R):E_86_0->Option R
 | .e0 p2 p3=>k (Ex.exit 0) (sx 21 [(3,CV.ptr 0 []),(6,CV.ptr 1 [])] [Blk.mem (CV.pure (Ty.arr 32 (Ty.int u8)) p2),Blk.mem (CV.pure (Ty.arr 32 (Ty.int u8)) p3)])
noncomputable def Sp.S_86_0{R:Type}(K:Int->Int->List Int->List Int->Option R)(k:E_86_0->Option R)(p0 p1:Int)(p2 p3:List Int):Option R:=
 bif decide (p1<p0)then gd (room (1+length (take 32 (drop 0 p2))) 1) (gd (p_83 ([wrap u8 p1]++take 32 (drop 0 p2))) (K p0 (wrap i64 (p1+1)) ((v_83 ([wrap u8 p1]++take 32 (drop 0 p2))).1) p3))else k (E_86_0.e0 p2 p3)
noncomputable def Sp.L_86_0:Nat->Int->Int->List Int->List Int->Option E_86_0
 |0,_,_,_,_=>none
 |m+1,p0,p1,p2,p3=>S_86_0 (L_86_0 m) some p0 p1 p2 p3
noncomputable def l_86_0(m:Nat)(a:T_86_0.E):Option E_86_0:=L_86_0 m a.1 a.2.1 a.2.2.1 a.2.2.2.1
noncomputable def O_86_0{R:Type}:Orc R:=orL T_86_0 (l_86_0 FU) Y_86_0
theorem OK_86_0{R:Type}:okF (R:=R) sm_86 0 (nf 86 0) O_86_0:=lp0 T_86_0 l_86_0 (fun R K k a=>S_86_0 (fun p0 p1 p2 p3=>K (p0,p1,p2,p3,())) k a.1 a.2.1 a.2.2.1 a.2.2.2.1) Y_86_0 (fun _ _ _=>by kernel_rfl) (fun _ _ _=>by
 unfold S_86_0
 repeat' first|apply gdN|apply condN|rfl) (ok0 _)
noncomputable def F_86(a0:(List Int))(a1 a2:Int):Option ((List Int)×Unit) :=
 B_86_0 (L_86_0 4611686018427387904 a2 a1 a0 (replicate 32 (0:Int))) fun y2 y3=>some (y2,PUnit.unit)
noncomputable def Sp.p_86(a0:(List Int))(a1 a2:Int):Bool:=(F_86 a0 a1 a2).isSome
noncomputable def Sp.v_86(a0:(List Int))(a1 a2:Int):(List Int)×Unit:=(F_86 a0 a1 a2).getD (dfH R_86)
noncomputable def s_86:Summ:=shN A_86 R_86 (fun x=>p_86 x.1 x.2.1 x.2.2.1) (fun x=>v_86 x.1 x.2.1 x.2.2.1)
theorem pv_86(a0:(List Int))(a1 a2:Int){y:(List Int)×Unit}(h:F_86 a0 a1 a2=some y):p_86 a0 a1 a2=true/\v_86 a0 a1 a2=y:=pvG h
theorem run_86(x:HDen A_86)(y:HDen R_86)(h:F_86 x.1 x.2.1 x.2.2.1=some y):rnF sm_86 1 86 A_86 R_86 x y:=runG noO_ok (os:=[O_86_0]) ⟨OK_86_0,trivial⟩ (Eq.trans (by kernel_rfl) h)
end
noncomputable section
abbrev A_87:List Ty:=[(.slice (.arr 32 (.int .u8)))]
abbrev R_87:List Ty:=[(.arr 32 (.int .u8))]
noncomputable def sm_87:Nat->Option Summ:=smL [(83,s_83)]
noncomputable def T_87_0:PS:=⟨19,[(0,.hv (.slice (.arr 32 (.int .u8)))),(2,.kc (.ptr 0 [])),(3,.kc (.whole 1)),(4,.hv (.int .i64))],[.mem (.hv (.arr 32 (.int .u8))),.vec 5 (.int .u8)],0⟩
inductive Sp.E_87_0 where
 |e0 (p2 p3:List Int)
noncomputable def Sp.B_87_0{R:Type}(r:Option E_87_0)(k0:List Int->List Int->Option R):Option R:=match r with
 |none=>none
 |some (.e0 p2 p3)=>k0 p2 p3
noncomputable def Y_87_0{R:Type}(k:Ex->St->Option R):E_87_0->Option R
 | .e0 p2 p3=>k (Ex.exit 0) (sx 19 [(2,CV.ptr 0 []),(3,CV.whole 1)] [Blk.mem (CV.pure (Ty.arr 32 (Ty.int u8)) p2),Blk.vec 5 (Ty.int u8) p3])
noncomputable def Sp.S_87_0{R:Type}(K:List (List Int)->Int->List Int->List Int->Option R)(k:E_87_0->Option R)(p0:List (List Int))(p1:Int)(p2 p3:List Int):Option R:=
 bif decide (p1<(↑(length p0):Int))then gd (inB p1 (length p0)) (gd (room (length p3+length (take 32 (drop 0 (getD p0 (toNat p1) (Ty.dflt (Ty.arr 32 (Ty.int u8))))))) 1) (K p0 (wrap i64 (p1+1)) p2 (p3++take 32 (drop 0 (getD p0 (toNat p1) (Ty.dflt (Ty.arr 32 (Ty.int u8))))))))else k (E_87_0.e0 p2 p3)
noncomputable def Sp.L_87_0:Nat->List (List Int)->Int->List Int->List Int->Option E_87_0
 |0,_,_,_,_=>none
 |m+1,p0,p1,p2,p3=>S_87_0 (L_87_0 m) some p0 p1 p2 p3
noncomputable def l_87_0(m:Nat)(a:T_87_0.E):Option E_87_0:=L_87_0 m a.1 a.2.1 a.2.2.1 a.2.2.2.1
noncomputable def O_87_0{R:Type}:Orc R:=orL T_87_0 (l_87_0 FU) Y_87_0
theorem OK_87_0{R:Type}:okF (R:=R) sm_87 0 (nf 87 0) O_87_0:=lp0 T_87_0 l_87_0 (fun R K k a=>S_87_0 (fun p0 p1 p2 p3=>K (p0,p1,p2,p3,())) k a.1 a.2.1 a.2.2.1 a.2.2.2.1) Y_87_0 (fun _ _ _=>by kernel_rfl) (fun _ _ _=>by
 unfold S_87_0
 repeat' first|apply gdN|apply condN|rfl) (ok0 _)
noncomputable def F_87(a0:(List (List Int))):Option ((List Int)×Unit) :=
 B_87_0 (L_87_0 4611686018427387904 a0 0 (replicate 32 (0:Int)) []) fun y2 y3=>gd (p_83 y3) (some ((v_83 y3).1,PUnit.unit))
noncomputable def Sp.p_87(a0:(List (List Int))):Bool:=(F_87 a0).isSome
noncomputable def Sp.v_87(a0:(List (List Int))):(List Int)×Unit:=(F_87 a0).getD (dfH R_87)
noncomputable def s_87:Summ:=shN A_87 R_87 (fun x=>p_87 x.1) (fun x=>v_87 x.1)
theorem pv_87(a0:(List (List Int))){y:(List Int)×Unit}(h:F_87 a0=some y):p_87 a0=true/\v_87 a0=y:=pvG h
theorem run_87(x:HDen A_87)(y:HDen R_87)(h:F_87 x.1=some y):rnF sm_87 1 87 A_87 R_87 x y:=runG noO_ok (os:=[O_87_0]) ⟨OK_87_0,trivial⟩ (Eq.trans (by kernel_rfl) h)
end
noncomputable section
abbrev A_88:List Ty:=[(.arr 32 (.int .u8)),(.arr 32 (.int .u8))]
abbrev R_88:List Ty:=[(.arr 32 (.int .u8))]
noncomputable def sm_88:Nat->Option Summ:=smL [(83,s_83)]
noncomputable def F_88(a0 a1:(List Int)):Option ((List Int)×Unit) :=
 gd (room (1+length (take 32 (drop 0 a0))) 1) (gd (room (length ([255]++take 32 (drop 0 a0))+length (take 32 (drop 0 a1))) 1) (gd (p_83 ([255]++take 32 (drop 0 a0)++take 32 (drop 0 a1))) (some ((v_83 ([255]++take 32 (drop 0 a0)++take 32 (drop 0 a1))).1,PUnit.unit))))
noncomputable def Sp.p_88(a0 a1:(List Int)):Bool:=(F_88 a0 a1).isSome
noncomputable def Sp.v_88(a0 a1:(List Int)):(List Int)×Unit:=(F_88 a0 a1).getD (dfH R_88)
noncomputable def s_88:Summ:=shN A_88 R_88 (fun x=>p_88 x.1 x.2.1) (fun x=>v_88 x.1 x.2.1)
theorem pv_88(a0 a1:(List Int)){y:(List Int)×Unit}(h:F_88 a0 a1=some y):p_88 a0 a1=true/\v_88 a0 a1=y:=pvG h
theorem run_88(x:HDen A_88)(y:HDen R_88)(h:F_88 x.1 x.2.1=some y):rnF sm_88 1 88 A_88 R_88 x y:=runG noO_ok (os:=[]) trivial (Eq.trans (by kernel_rfl) h)
end
noncomputable section
abbrev Zt50_0:Type:=Int×List (List Int)×List (List Int)×Unit
abbrev Zy50_1:Ty:=(.pair (.int .i64) (.pair (.slice (.arr 32 (.int .u8))) (.pair (.slice (.arr 32 (.int .u8))) .unit)))
abbrev A_50:List Ty:=[(.arr 32 (.int .u8)),(.arr 32 (.int .u8)),(.pair (.int .i64) (.pair (.slice (.arr 32 (.int .u8))) (.pair (.slice (.arr 32 (.int .u8))) .unit)))]
abbrev R_50:List Ty:=[.bool]
noncomputable def sm_50:Nat->Option Summ:=smL [(84,s_84),(85,s_85),(86,s_86),(87,s_87),(88,s_88)]
noncomputable def T_50_0:PS:=⟨70,[(3,.kc (.ptr 0 [])),(5,.kc (.ptr 1 [])),(7,.hv (.slice (.int .i64))),(8,.kc (.whole 2)),(9,.hv (.int .i64))],[.mem (.hv (.arr 32 (.int .u8))),.mem (.hv Zy50_1),.vec 27 (.arr 32 (.int .u8))],0⟩
inductive Sp.E_50_0 where
 |e0 (p2:List Int) (p3:Zt50_0) (p4:List (List Int))
noncomputable def Sp.B_50_0{R:Type}(r:Option E_50_0)(k0:List Int->Zt50_0->List (List Int)->Option R):Option R:=match r with
 |none=>none
 |some (.e0 p2 p3 p4)=>k0 p2 p3 p4
noncomputable def Y_50_0{R:Type}(k:Ex->St->Option R):E_50_0->Option R
 | .e0 p2 p3 p4=>k (Ex.exit 0) (sx 70 [(3,CV.ptr 0 []),(5,CV.ptr 1 []),(8,CV.whole 2)] [Blk.mem (CV.pure (Ty.arr 32 (Ty.int u8)) p2),Blk.mem (CV.pure (Ty.pair (Ty.int i64) (Ty.pair (Ty.slice (Ty.arr 32 (Ty.int u8))) (Ty.pair (Ty.slice (Ty.arr 32 (Ty.int u8))) Ty.unit))) p3),Blk.vec 27 (Ty.arr 32 (Ty.int u8)) p4])
noncomputable def Sp.S_50_0{R:Type}(K:List Int->Int->List Int->(Int×List (List Int)×List (List Int)×Unit)->List (List Int)->Option R)(k:E_50_0->Option R)(p0:List Int)(p1:Int)(p2:List Int)(p3:Int×List (List Int)×List (List Int)×Unit)(p4:List (List Int)):Option R:=
 bif decide (p1<67)then gd (inB p1 (length (p3.2.1))) (gd (inB p1 (length p0)) (gd (p_86 (getD (p3.2.1) (toNat p1) (Ty.dflt (Ty.arr 32 (Ty.int u8)))) (getD p0 (toNat p1) 0) 15) (gd (room (length p4+1) 32) (K p0 (wrap i64 (p1+1)) p2 p3 (p4++[(v_86 (getD (p3.2.1) (toNat p1) (Ty.dflt (Ty.arr 32 (Ty.int u8)))) (getD p0 (toNat p1) 0) 15).1])))))else k (E_50_0.e0 p2 p3 p4)
noncomputable def Sp.L_50_0:Nat->List Int->Int->List Int->(Int×List (List Int)×List (List Int)×Unit)->List (List Int)->Option E_50_0
 |0,_,_,_,_,_=>none
 |m+1,p0,p1,p2,p3,p4=>S_50_0 (L_50_0 m) some p0 p1 p2 p3 p4
noncomputable def l_50_0(m:Nat)(a:T_50_0.E):Option E_50_0:=L_50_0 m a.1 a.2.1 a.2.2.1 a.2.2.2.1 a.2.2.2.2.1
noncomputable def O_50_0{R:Type}:Orc R:=orL T_50_0 (l_50_0 FU) Y_50_0
theorem OK_50_0{R:Type}:okF (R:=R) sm_50 0 (nf 50 0) O_50_0:=lp0 T_50_0 l_50_0 (fun R K k a=>S_50_0 (fun p0 p1 p2 p3 p4=>K (p0,p1,p2,p3,p4,())) k a.1 a.2.1 a.2.2.1 a.2.2.2.1 a.2.2.2.2.1) Y_50_0 (fun _ _ _=>by kernel_rfl) (fun _ _ _=>by
 unfold S_50_0
 repeat' first|apply gdN|apply condN|rfl) (ok0 _)
noncomputable def T_50_1:PS:=⟨70,[(3,.kc (.ptr 0 [])),(5,.kc (.ptr 1 [])),(10,.kc (.ptr 2 []))],[.mem (.hv (.arr 32 (.int .u8))),.mem (.hv Zy50_1),.mem (.hv (.arr 32 (.int .u8)))],0⟩
inductive Sp.E_50_1 where
 |e0 (p0:List Int) (p1:Zt50_0) (p2:List Int)
 |e1 (p0:List Int) (p1:Zt50_0) (p2:List Int)
noncomputable def Sp.B_50_1{R:Type}(r:Option E_50_1)(k0 k1:List Int->Zt50_0->List Int->Option R):Option R:=match r with
 |none=>none
 |some (.e0 p0 p1 p2)=>k0 p0 p1 p2
 |some (.e1 p0 p1 p2)=>k1 p0 p1 p2
noncomputable def Y_50_1{R:Type}(k:Ex->St->Option R):E_50_1->Option R
 | .e0 p0 p1 p2=>k Ex.ret (sx 70 [(6,CV.bool (Ty.beq (Ty.arr 32 (Ty.int u8)) ((v_88 (getD (p1.2.2.1) 1 (Ty.dflt (Ty.arr 32 (Ty.int u8)))) p2).1) p0))] [])
 | .e1 p0 p1 p2=>k Ex.ret (sx 70 [(6,CV.bool (Ty.beq (Ty.arr 32 (Ty.int u8)) ((v_88 p2 (getD (p1.2.2.1) 1 (Ty.dflt (Ty.arr 32 (Ty.int u8))))).1) p0))] [])
noncomputable def Sp.S_50_1{R:Type}(k:E_50_1->Option R)(p0:List Int)(p1:Int×List (List Int)×List (List Int)×Unit)(p2:List Int):Option R:=
 bif wrap i64 (Int.tdiv (p1.1) 2)==1 then gd (inB 1 (length (p1.2.2.1))) (gd (p_88 (getD (p1.2.2.1) 1 (Ty.dflt (Ty.arr 32 (Ty.int u8)))) p2) (k (E_50_1.e0 p0 p1 p2)))else gd (inB 1 (length (p1.2.2.1))) (gd (p_88 p2 (getD (p1.2.2.1) 1 (Ty.dflt (Ty.arr 32 (Ty.int u8))))) (k (E_50_1.e1 p0 p1 p2)))
noncomputable def Sp.J_50_1(p0:List Int)(p1:Int×List (List Int)×List (List Int)×Unit)(p2:List Int):Option E_50_1:=S_50_1 some p0 p1 p2
noncomputable def O_50_1{R:Type}:Orc R:=orL T_50_1 (fun a=>J_50_1 a.1 a.2.1 a.2.2.1) Y_50_1
theorem OK_50_1{R:Type}:okF (R:=R) sm_50 0 (nf 50 1) O_50_1:=jp noO_ok (os:=[]) trivial T_50_1 (fun R k a=>S_50_1 k a.1 a.2.1 a.2.2.1) Y_50_1 (fun k a=>by kernel_rfl) (fun Y a=>by
 unfold S_50_1
 repeat' first|apply gdN|apply condN|rfl) (ok0 _)
noncomputable def F_50(a0 a1:(List Int))(a2:(Int×((List (List Int))×((List (List Int))×Unit)))):Option (Bool×Unit) :=
 gd (p_84 a2) (bif !(v_84 a2).1 then some (false,PUnit.unit)else gd (p_85 a1) (B_50_0 (L_50_0 4611686018427387904 ((v_85 a1).1) 0 a0 a2 []) fun y15 y16 y17=>gd (p_87 y17) (bif Int.tmod (y16.1) (2:Int)==(1:Int)then gd (inB 0 (length (y16.2.2.1))) (gd (p_88 (getD (y16.2.2.1) 0 (Ty.dflt (Ty.arr 32 (Ty.int u8)))) ((v_87 y17).1)) (B_50_1 (J_50_1 y15 y16 ((v_88 (getD (y16.2.2.1) 0 (Ty.dflt (Ty.arr 32 (Ty.int u8)))) ((v_87 y17).1)).1)) (fun y18 y19 y20=>some (Ty.beq (Ty.arr 32 (Ty.int u8)) ((v_88 (getD (y19.2.2.1) 1 (Ty.dflt (Ty.arr 32 (Ty.int u8)))) y20).1) y18,PUnit.unit)) fun y21 y22 y23=>some (Ty.beq (Ty.arr 32 (Ty.int u8)) ((v_88 y23 (getD (y22.2.2.1) 1 (Ty.dflt (Ty.arr 32 (Ty.int u8))))).1) y21,PUnit.unit)))else gd (inB 0 (length (y16.2.2.1))) (gd (p_88 ((v_87 y17).1) (getD (y16.2.2.1) 0 (Ty.dflt (Ty.arr 32 (Ty.int u8))))) (B_50_1 (J_50_1 y15 y16 ((v_88 ((v_87 y17).1) (getD (y16.2.2.1) 0 (Ty.dflt (Ty.arr 32 (Ty.int u8))))).1)) (fun y24 y25 y26=>some (Ty.beq (Ty.arr 32 (Ty.int u8)) ((v_88 (getD (y25.2.2.1) 1 (Ty.dflt (Ty.arr 32 (Ty.int u8)))) y26).1) y24,PUnit.unit)) fun y27 y28 y29=>some (Ty.beq (Ty.arr 32 (Ty.int u8)) ((v_88 y29 (getD (y28.2.2.1) 1 (Ty.dflt (Ty.arr 32 (Ty.int u8))))).1) y27,PUnit.unit))))))
noncomputable def Sp.p_50(a0 a1:(List Int))(a2:(Int×((List (List Int))×((List (List Int))×Unit)))):Bool:=(F_50 a0 a1 a2).isSome
noncomputable def Sp.v_50(a0 a1:(List Int))(a2:(Int×((List (List Int))×((List (List Int))×Unit)))):Bool×Unit:=(F_50 a0 a1 a2).getD (dfH R_50)
noncomputable def s_50:Summ:=shN A_50 R_50 (fun x=>p_50 x.1 x.2.1 x.2.2.1) (fun x=>v_50 x.1 x.2.1 x.2.2.1)
theorem pv_50(a0 a1:(List Int))(a2:(Int×((List (List Int))×((List (List Int))×Unit)))){y:Bool×Unit}(h:F_50 a0 a1 a2=some y):p_50 a0 a1 a2=true/\v_50 a0 a1 a2=y:=pvG h
theorem run_50(x:HDen A_50)(y:HDen R_50)(h:F_50 x.1 x.2.1 x.2.2.1=some y):rnF sm_50 1 50 A_50 R_50 x y:=runG noO_ok (os:=[O_50_0,O_50_1]) ⟨OK_50_0,OK_50_1,trivial⟩ (Eq.trans (by kernel_rfl) h)
end
noncomputable section
abbrev A_16:List Ty:=[(.pair (.pair (.slice (.int .u32)) (.pair (.slice (.int .i64)) (.pair (.int .i64) .unit))) (.pair (.arr 32 (.int .u8)) .unit)),(.int .i64)]
abbrev R_16:List Ty:=[.bool]
noncomputable def sm_16:Nat->Option Summ:=smL [(26,s_26),(48,s_48),(49,s_49),(50,s_50)]
noncomputable def F_16(a0:(((List Int)×((List Int)×(Int×Unit)))×((List Int)×Unit)))(a1:Int):Option (Bool×Unit) :=
 gd (p_26 a0 a1) (bif !(v_26 a0 a1).2.1 then some (false,PUnit.unit)else gd (p_48 a0 a1) (gd (sl3 564 (wrap i64 (564+(v_26 a0 a1).1.2.1)) (↑(length ((v_48 a0 a1).1)):Int)) (gd (p_49 ((v_26 a0 a1).1.1) (take (toNat (wrap i64 (564+(v_26 a0 a1).1.2.1))-564) (drop 564 ((v_48 a0 a1).1)))) (bif Ty.beq (Ty.arr 32 (Ty.int u8)) ((v_49 ((v_26 a0 a1).1.1) (take (toNat (wrap i64 (564+(v_26 a0 a1).1.2.1))-564) (drop 564 ((v_48 a0 a1).1)))).1) ((v_26 a0 a1).1.2.2.1)then gd (p_50 (a0.2.1) ((v_26 a0 a1).1.2.2.1) ((v_26 a0 a1).1.2.2.2.1)) (some ((v_50 (a0.2.1) ((v_26 a0 a1).1.2.2.1) ((v_26 a0 a1).1.2.2.2.1)).1,PUnit.unit))else some (false,PUnit.unit)))))
noncomputable def Sp.p_16(a0:(((List Int)×((List Int)×(Int×Unit)))×((List Int)×Unit)))(a1:Int):Bool:=(F_16 a0 a1).isSome
noncomputable def Sp.v_16(a0:(((List Int)×((List Int)×(Int×Unit)))×((List Int)×Unit)))(a1:Int):Bool×Unit:=(F_16 a0 a1).getD (dfH R_16)
noncomputable def s_16:Summ:=shN A_16 R_16 (fun x=>p_16 x.1 x.2.1) (fun x=>v_16 x.1 x.2.1)
theorem run_16(x:HDen A_16)(y:HDen R_16)(h:F_16 x.1 x.2.1=some y):rnF sm_16 1 16 A_16 R_16 x y:=runG noO_ok (os:=[]) trivial (Eq.trans (by kernel_rfl) h)
end
noncomputable section
abbrev Zt3_0:Type:=List Int×Int×Unit
abbrev Zt3_1:Type:=List Int×Unit
abbrev A_3:List Ty:=[(.pair (.pair (.slice (.int .u32)) (.pair (.slice (.int .i64)) (.pair (.int .i64) .unit))) (.pair (.arr 32 (.int .u8)) .unit)),(.int .u8),(.int .u16),(.int .u8)]
abbrev R_3:List Ty:=[.bool]
noncomputable def sm_3:Nat->Option Summ:=smL [(10,s_10),(11,s_11),(12,s_12),(13,s_13),(14,s_14),(15,s_15),(16,s_16),(17,s_17)]
noncomputable def T_3_1:PS:=⟨119,[(9,.hv (.int .i64)),(14,.kc (.ptr 0 [])),(15,.hv .bool)],[.mem (.pr (.pr (.kc (.whole 1)) (.hv (.pair (.slice (.int .i64)) (.pair (.int .i64) .unit)))) (.hv (.pair (.arr 32 (.int .u8)) .unit))),.vec 42 (.int .u32)],0⟩
inductive Sp.E_3_1 where
 |e0
 |e1
 |e2 (p0:Int) (p2:Zt3_0) (p3:Zt3_1) (p4:List Int)
noncomputable def Sp.B_3_1{R:Type}(r:Option E_3_1)(k0 k1:Option R)(k2:Int->Zt3_0->Zt3_1->List Int->Option R):Option R:=match r with
 |none=>none
 |some (.e0)=>k0
 |some (.e1)=>k1
 |some (.e2 p0 p2 p3 p4)=>k2 p0 p2 p3 p4
theorem Bn_3_1{A R:Type}{r:Option E_3_1}{f:A->Option R}{k0:Option A}{k1:Option A}{k2:Int->Zt3_0->Zt3_1->List Int->Option A}{l0:Option R}{l1:Option R}{l2:Int->Zt3_0->Zt3_1->List Int->Option R}(h0:(k0).bind f=l0)(h1:(k1).bind f=l1)(h2:∀p0 p2 p3 p4,(k2 p0 p2 p3 p4).bind f=l2 p0 p2 p3 p4):(B_3_1 r k0 k1 k2).bind f=B_3_1 r l0 l1 l2:=by
 cases r with
 |none=>rfl
 |some e=>cases e<;>first|apply h0|apply h1|apply h2
noncomputable def Y_3_1{R:Type}(k:Ex->St->Option R):E_3_1->Option R
 | .e0=>k Ex.ret (sx 119 [(8,CV.bool false)] [])
 | .e1=>k Ex.ret (sx 119 [(8,CV.bool true)] [])
 | .e2 p0 p2 p3 p4=>k Ex.ret (sx 119 [(8,CV.bool ((v_17 ((p4,p2),p3)).1 !=p0))] [])
noncomputable def Sp.S_3_1{R:Type}(k:E_3_1->Option R)(p0:Int)(p1:Bool)(p2:List Int×Int×Unit)(p3:List Int×Unit)(p4:List Int):Option R:=
 gd (p_13 ((p4,p2),p3) p0) (bif(v_13 ((p4,p2),p3) p0).1==p1 then k (E_3_1.e0)else bif !p1 then k (E_3_1.e1)else gd (p_17 ((p4,p2),p3)) (bif(v_17 ((p4,p2),p3)).2.1 !=0 then k (E_3_1.e1)else k (E_3_1.e2 p0 p2 p3 p4)))
noncomputable def Sp.J_3_1(p0:Int)(p1:Bool)(p2:List Int×Int×Unit)(p3:List Int×Unit)(p4:List Int):Option E_3_1:=S_3_1 some p0 p1 p2 p3 p4
noncomputable def O_3_1{R:Type}:Orc R:=orL T_3_1 (fun a=>J_3_1 a.1 a.2.1 a.2.2.1 a.2.2.2.1 a.2.2.2.2.1) Y_3_1
theorem OK_3_1{R:Type}:okF (R:=R) sm_3 0 (ni (nf 3 0) 0) O_3_1:=jp noO_ok (os:=[]) trivial T_3_1 (fun R k a=>S_3_1 k a.1 a.2.1 a.2.2.1 a.2.2.2.1 a.2.2.2.2.1) Y_3_1 (fun k a=>by kernel_rfl) (fun Y a=>by
 unfold S_3_1
 repeat' first|apply gdN|apply condN|rfl) (ok0 _)
noncomputable def T_3_0:PS:=⟨119,[(9,.hv (.int .i64)),(14,.kc (.ptr 0 [])),(15,.hv .bool)],[.mem (.pr (.pr (.kc (.whole 1)) (.hv (.pair (.slice (.int .i64)) (.pair (.int .i64) .unit)))) (.hv (.pair (.arr 32 (.int .u8)) .unit))),.vec 42 (.int .u32)],0⟩
inductive Sp.E_3_0 where
 |e0
 |e1
 |e2 (y8:Int) (y9:Zt3_0) (y10:Zt3_1) (y11:List Int)
noncomputable def Sp.B_3_0{R:Type}(r:Option E_3_0)(k0 k1:Option R)(k2:Int->Zt3_0->Zt3_1->List Int->Option R):Option R:=match r with
 |none=>none
 |some (.e0)=>k0
 |some (.e1)=>k1
 |some (.e2 y8 y9 y10 y11)=>k2 y8 y9 y10 y11
noncomputable def Y_3_0{R:Type}(k:Ex->St->Option R):E_3_0->Option R
 | .e0=>k Ex.ret (sx 119 [(8,CV.bool true)] [])
 | .e1=>k Ex.ret (sx 119 [(8,CV.bool false)] [])
 | .e2 y8 y9 y10 y11=>k Ex.ret (sx 119 [(8,CV.bool ((v_17 ((y11,y9),y10)).1 !=y8))] [])
noncomputable def Sp.S_3_0{R:Type}(k:E_3_0->Option R)(p0:Int)(p1:Bool)(p2:List Int×Int×Unit)(p3:List Int×Unit)(p4:List Int):Option R:=
 bif p1 then gd (p_16 ((p4,p2),p3) p0) (bif(v_16 ((p4,p2),p3) p0).1 then k (E_3_0.e0)else B_3_1 (J_3_1 p0 p1 p2 p3 p4) (k (E_3_0.e1)) (k (E_3_0.e0)) fun y8 y9 y10 y11=>k (E_3_0.e2 y8 y9 y10 y11))else B_3_1 (J_3_1 p0 p1 p2 p3 p4) (k (E_3_0.e1)) (k (E_3_0.e0)) fun y12 y13 y14 y15=>k (E_3_0.e2 y12 y13 y14 y15)
noncomputable def Sp.J_3_0(p0:Int)(p1:Bool)(p2:List Int×Int×Unit)(p3:List Int×Unit)(p4:List Int):Option E_3_0:=S_3_0 some p0 p1 p2 p3 p4
noncomputable def O_3_0{R:Type}:Orc R:=orL T_3_0 (fun a=>J_3_0 a.1 a.2.1 a.2.2.1 a.2.2.2.1 a.2.2.2.2.1) Y_3_0
theorem OK_3_0{R:Type}:okF (R:=R) sm_3 0 (nf 3 0) O_3_0:=jp noO_ok (os:=[O_3_1]) ⟨OK_3_1,trivial⟩ T_3_0 (fun R k a=>S_3_0 k a.1 a.2.1 a.2.2.1 a.2.2.2.1 a.2.2.2.2.1) Y_3_0 (fun k a=>by kernel_rfl) (fun Y a=>by
 unfold S_3_0
 repeat' first|apply gdN|apply condN|(apply Bn_3_1<;>intros)|rfl) (ok0 _)
noncomputable def F_3(a0:(((List Int)×((List Int)×(Int×Unit)))×((List Int)×Unit)))(a1 a2 a3:Int):Option (Bool) :=
 gd p_10 (bif !v_10.1 then some false else gd (p_11 a0) (bif !(v_11 a0).1 then some true else gd (p_12 a0) (bif !(v_12 a0).1 then some true else gd (p_13 a0 (Int.tmod (wrap i64 a1) 2)) (bif !(v_13 a0 (Int.tmod (wrap i64 a1) 2)).1 then some true else gd (p_14 a0 (Int.tmod (wrap i64 a1) 2)) (gd (!wrap i64 (Int.tdiv (↑(length (a0.1.1)):Int) 2)==0) (gd (p_15 (a0.1)) (gd (inB (wrap i64 (wrap i64 (Int.tmod (wrap i64 a1) 2*wrap i64 (Int.tdiv (↑(length (a0.1.1)):Int) 2))+Int.tmod (wrap i64 a2) (wrap i64 (Int.tdiv (↑(length (a0.1.1)):Int) 2)))) (length ((v_15 (a0.1)).1.1))) (gd (decide (toNat (wrap i64 (wrap i64 (Int.tmod (wrap i64 a1) 2*wrap i64 (Int.tdiv (↑(length (a0.1.1)):Int) 2))+Int.tmod (wrap i64 a2) (wrap i64 (Int.tdiv (↑(length (a0.1.1)):Int) 2))))<length ((v_15 (a0.1)).1.1))&&true) (gd (decide (0<=Int.tmod a3 32)) (gd (inB (wrap i64 (wrap i64 (Int.tmod (wrap i64 a1) 2*wrap i64 (Int.tdiv (↑(length (a0.1.1)):Int) 2))+Int.tmod (wrap i64 a2) (wrap i64 (Int.tdiv (↑(length (a0.1.1)):Int) 2)))) (length ((v_15 (a0.1)).1.1))) (gd (decide (toNat (wrap i64 (wrap i64 (Int.tmod (wrap i64 a1) 2*wrap i64 (Int.tdiv (↑(length (a0.1.1)):Int) 2))+Int.tmod (wrap i64 a2) (wrap i64 (Int.tdiv (↑(length (a0.1.1)):Int) 2))))<length ((v_15 (a0.1)).1.1))&&true&&true) (bif !(v_14 a0 (Int.tmod (wrap i64 a1) 2)).2.1 then some false else bif decide ((v_14 a0 (Int.tmod (wrap i64 a1) 2)).1.2.1<1)then some false else bif decide ((v_14 a0 (Int.tmod (wrap i64 a1) 2)).1.2.1>wrap i64 (wrap i64 (Int.tdiv (↑(length (a0.1.1)):Int) 2)-564))then some false else bif decide (Int.tmod (wrap i64 a2) (wrap i64 (Int.tdiv (↑(length (a0.1.1)):Int) 2))>=1)then B_3_0 (J_3_0 (Int.tmod (wrap i64 a1) 2) (decide (Int.tmod (wrap i64 a2) (wrap i64 (Int.tdiv (↑(length (a0.1.1)):Int) 2))<wrap i64 (564+(v_14 a0 (Int.tmod (wrap i64 a1) 2)).1.2.1))) ((v_15 (a0.1)).1.2) (a0.2.1,PUnit.unit) (List.set ((v_15 (a0.1)).1.1) (toNat (wrap i64 (wrap i64 (Int.tmod (wrap i64 a1) 2*wrap i64 (Int.tdiv (↑(length (a0.1.1)):Int) 2))+Int.tmod (wrap i64 a2) (wrap i64 (Int.tdiv (↑(length (a0.1.1)):Int) 2))))) (Sp.xorI u32 (getD ((v_15 (a0.1)).1.1) (toNat (wrap i64 (wrap i64 (Int.tmod (wrap i64 a1) 2*wrap i64 (Int.tdiv (↑(length (a0.1.1)):Int) 2))+Int.tmod (wrap i64 a2) (wrap i64 (Int.tdiv (↑(length (a0.1.1)):Int) 2))))) 0) (wrap u32 ((1:Int)*(2:Int)^Nat.min (toNat (Int.tmod a3 32)) 32))))) (some true) (some false) fun y14 y15 y16 y17=>some ((v_17 ((y17,y15),y16)).1 !=y14)else B_3_0 (J_3_0 (Int.tmod (wrap i64 a1) 2) false ((v_15 (a0.1)).1.2) (a0.2.1,PUnit.unit) (List.set ((v_15 (a0.1)).1.1) (toNat (wrap i64 (wrap i64 (Int.tmod (wrap i64 a1) 2*wrap i64 (Int.tdiv (↑(length (a0.1.1)):Int) 2))+Int.tmod (wrap i64 a2) (wrap i64 (Int.tdiv (↑(length (a0.1.1)):Int) 2))))) (Sp.xorI u32 (getD ((v_15 (a0.1)).1.1) (toNat (wrap i64 (wrap i64 (Int.tmod (wrap i64 a1) 2*wrap i64 (Int.tdiv (↑(length (a0.1.1)):Int) 2))+Int.tmod (wrap i64 a2) (wrap i64 (Int.tdiv (↑(length (a0.1.1)):Int) 2))))) 0) (wrap u32 ((1:Int)*(2:Int)^Nat.min (toNat (Int.tmod a3 32)) 32))))) (some true) (some false) fun y18 y19 y20 y21=>some ((v_17 ((y21,y19),y20)).1 !=y18)))))))))))))
theorem run_3(a0:(((List Int)×((List Int)×(Int×Unit)))×((List Int)×Unit)))(a1 a2 a3:Int){b:Bool}(h:F_3 a0 a1 a2 a3=some b):evFn sm_3 fns FU 1 3 (ofH A_3 (a0,a1,a2,a3,())) [] bk=some b:=runG noO_ok (os:=[O_3_0]) ⟨OK_3_0,trivial⟩ (Eq.trans (by kernel_rfl) h)
end
end Go.Ev
namespace Go.Proofs
open Go.Shelf
end Go.Proofs
namespace Go.Ev
open Go Go.Proofs Go.RowKit
set_option maxRecDepth 100000
set_option maxHeartbeats 4000000
noncomputable def grow77_ren:Go.Shelf.Ren:=⟨fun|4=>77|n=>n,fun|25=>42|22=>22|n=>n,fun|n=>n⟩
theorem grow77_lay:Go.Proofs.Lays8.n4 Try.prog grow77_ren:= {
 mixed:=by kernel_rfl
 f4:=⟨Try.f77.name,by decide,Try.func77.trans (congrArg some (by kernel_rfl))⟩
 t0:=Try.underlying0
 a0:=Try.isAgg0
 z0:=Try.sizeOf0
 v0:=Try.zeroValue0
 t3:=Try.underlying3
 a3:=Try.isAgg3
 z3:=Try.sizeOf3
 v3:=Try.zeroValue3
 t4:=Try.underlying4
 a4:=Try.isAgg4
 z4:=Try.sizeOf4
 v4:=Try.zeroValue4
 t9:=Try.underlying9
 a9:=Try.isAgg9
 z9:=Try.sizeOf9
 v9:=Try.zeroValue9
 t20:=Try.underlying20
 a20:=Try.isAgg20
 z20:=Try.sizeOf20
 v20:=Try.zeroValue20
 t22:=Try.underlying22
 a22:=Try.isAgg22
 z22:=Try.sizeOf22
 v22:=Try.zeroValue22}
theorem growinfo77:∃i,Try.prog.info? 42=some i/\i.zero=some (.int .u32 0)/\i.size=1/\i.bytes=4:=⟨_,rfl,by kernel_rfl,by kernel_rfl,by kernel_rfl⟩
theorem sok_77:SummOK Try.prog 77 (growS (.int .u32) 42 4):=by
 obtain⟨i,hi,h0,h1,h2⟩:=growinfo77
 exact grow_vec (by kernel_rfl) (by decide) (fun n w hn hb=>grow_calls grow77_lay i _ 1 4 hi h0 h1 h2 (by decide) (by decide) (by rfl) n w hn hb)
theorem sok_40:SummOK Try.prog 40 s_40:=sokN hm0 run_40 trivial
theorem sok_41:SummOK Try.prog 41 s_41:=sokN hm0 run_41 trivial
theorem sok_12:SummOK Try.prog 12 s_12:=sokN hm0 run_12 ⟨sok_40,sok_41,trivial⟩
theorem sok_42:SummOK Try.prog 42 s_42:=sokS hm0 run_42 trivial
theorem sok_46:SummOK Try.prog 46 s_46:=sokN hm0 run_46 trivial
theorem sok_44:SummOK Try.prog 44 s_44:=sokS hm0 run_44 trivial
theorem sok_81:SummOK Try.prog 81 s_81:=sokS hm0 run_81 trivial
theorem sok_47:SummOK Try.prog 47 s_47:=sokS hm0 run_47 ⟨sok_44,sok_81,sok_99,trivial⟩
theorem sok_14:SummOK Try.prog 14 s_14:=sokS hm0 run_14 ⟨sok_12,sok_42,sok_46,sok_47,trivial⟩
theorem sok_66:SummOK Try.prog 66 s_66:=sokN hm0 run_66 trivial
theorem sok_95:SummOK Try.prog 95 s_95:=sokN hm0 run_95 trivial
theorem sok_104:SummOK Try.prog 104 s_104:=sokN hm0 run_104 trivial
theorem sok_96:SummOK Try.prog 96 s_96:=sokN hm0 run_96 ⟨sok_104,trivial⟩
theorem sok_35:SummOK Try.prog 35 s_35:=sokN hm0 run_35 ⟨sok_66,sok_95,sok_96,trivial⟩
theorem sok_43:SummOK Try.prog 43 s_43:=sokS hm0 run_43 ⟨sok_77,trivial⟩
theorem sok_69:SummOK Try.prog 69 s_69:=sokS hm0 run_69 trivial
theorem sok_70:SummOK Try.prog 70 s_70:=sokN hm0 run_70 ⟨sok_35,trivial⟩
theorem sok_73:SummOK Try.prog 73 s_73:=sokN hm0 run_73 ⟨sok_35,trivial⟩
theorem sok_78:SummOK Try.prog 78 s_78:=sokN hm0 run_78 trivial
theorem sok_79:SummOK Try.prog 79 s_79:=sokN hm0 run_79 ⟨sok_35,trivial⟩
theorem sok_45:SummOK Try.prog 45 s_45:=sokN hm0 run_45 ⟨sok_69,sok_70,sok_73,sok_78,sok_79,trivial⟩
theorem sok_13:SummOK Try.prog 13 s_13:=sokN hm0 run_13 ⟨sok_14,sok_35,sok_42,sok_43,sok_44,sok_45,trivial⟩
theorem sok_51:SummOK Try.prog 51 s_51:=sokN hm0 run_51 ⟨sok_42,trivial⟩
theorem sok_17:SummOK Try.prog 17 s_17:=sokN hm0 run_17 ⟨sok_12,sok_13,sok_14,sok_51,trivial⟩
theorem sok_107:SummOK Try.prog 107 s_107:=sokN hm0 run_107 trivial
theorem sok_108:SummOK Try.prog 108 s_108:=sokN hm0 run_108 trivial
theorem sok_102:SummOK Try.prog 102 s_102:=sokN hm0 run_102 ⟨sok_107,sok_108,trivial⟩
theorem sok_89:SummOK Try.prog 89 s_89:=sokS hm0 run_89 ⟨sok_102,trivial⟩
theorem sok_53:SummOK Try.prog 53 s_53:=sokS hm0 run_53 ⟨sok_89,trivial⟩
theorem sok_22:SummOK Try.prog 22 s_22:=sokS hm0 run_22 ⟨sok_41,sok_53,trivial⟩
theorem sok_10:SummOK Try.prog 10 s_10:=sokN hm0 run_10 ⟨sok_14,sok_17,sok_22,trivial⟩
theorem sok_11:SummOK Try.prog 11 s_11:=sokN hm0 run_11 trivial
theorem sok_15:SummOK Try.prog 15 s_15:=sokO hm0 run_15 trivial
theorem sok_54:SummOK Try.prog 54 s_54:=sokN hm0 run_54 trivial
theorem sok_90:SummOK Try.prog 90 s_90:=sokN hm0 run_90 trivial
theorem sok_56:SummOK Try.prog 56 s_56:=sokN hm0 run_56 ⟨sok_90,trivial⟩
theorem sok_25:SummOK Try.prog 25 s_25:=sokN hm0 run_25 ⟨sok_54,sok_56,trivial⟩
theorem sok_48:SummOK Try.prog 48 s_48:=sokS hm0 run_48 trivial
theorem sok_57:SummOK Try.prog 57 s_57:=sokN hm0 run_57 trivial
theorem sok_58:SummOK Try.prog 58 s_58:=sokN hm0 run_58 trivial
theorem sok_59:SummOK Try.prog 59 s_59:=sokS hm0 run_59 trivial
theorem sok_26:SummOK Try.prog 26 s_26:=sokS hm0 run_26 ⟨sok_25,sok_48,sok_57,sok_58,sok_59,trivial⟩
theorem sok_100:SummOK Try.prog 100 s_100:=sokS hm0 run_100 trivial
theorem sok_105:SummOK Try.prog 105 s_105:=sokN hm0 run_105 trivial
theorem sok_106:SummOK Try.prog 106 s_106:=sokN hm0 run_106 trivial
theorem sok_101:SummOK Try.prog 101 s_101:=sokN hm0 run_101 ⟨sok_105,sok_106,trivial⟩
theorem sok_83:SummOK Try.prog 83 s_83:=sokN hm0 run_83 ⟨sok_100,sok_101,trivial⟩
theorem sok_49:SummOK Try.prog 49 s_49:=sokN hm0 run_49 ⟨sok_83,trivial⟩
theorem sok_84:SummOK Try.prog 84 s_84:=sokN hm0 run_84 trivial
theorem sok_85:SummOK Try.prog 85 s_85:=sokS hm0 run_85 trivial
theorem sok_86:SummOK Try.prog 86 s_86:=sokN hm0 run_86 ⟨sok_83,trivial⟩
theorem sok_87:SummOK Try.prog 87 s_87:=sokN hm0 run_87 ⟨sok_83,trivial⟩
theorem sok_88:SummOK Try.prog 88 s_88:=sokN hm0 run_88 ⟨sok_83,trivial⟩
theorem sok_50:SummOK Try.prog 50 s_50:=sokN hm0 run_50 ⟨sok_84,sok_85,sok_86,sok_87,sok_88,trivial⟩
theorem sok_16:SummOK Try.prog 16 s_16:=sokN hm0 run_16 ⟨sok_26,sok_48,sok_49,sok_50,trivial⟩
theorem call_3{R:Type}(n base:Nat):CallOK Try.prog base (rokOf Try.prog smB fns) (evFn (R:=R) sm_3 fns FU n):=callG hm0 (l:=[(10,s_10),(11,s_11),(12,s_12),(13,s_13),(14,s_14),(15,s_15),(16,s_16),(17,s_17)]) ⟨sok_10,sok_11,sok_12,sok_13,sok_14,sok_15,sok_16,sok_17,trivial⟩ n base
end Go.Ev
