/- Helpers: functions of the program as Lean functions, and what they compute. No condition. -/
import Derived.Test.YtfofdehkgkjbbaaG9P1
import Derived.Test.YtfofdehkgkjbbaaProg
import Derived.Test.YtfofdehkgkjbbaaE9P2
import Derived.Test.YtfofdehkgkjbbaaG9P0
set_option maxRecDepth 10000
set_option linter.unusedVariables false
set_option linter.unusedSimpArgs false
open Go.IntKind (wrap i64 i32 i16 i8 u64 u32 u16 u8)
open List (getD length take drop replicate)
open Int (toNat)
open Go.Ev.Sp
namespace Go.Ev
open Go
set_option maxRecDepth 100000
set_option maxHeartbeats 4000000
set_option linter.unusedVariables false
noncomputable section
abbrev Zt39_0:Type:=Int×Int×List Int×(Int×List (List Int)×List (List Int)×Unit)×Unit
abbrev Zy39_1:Ty:=(.pair (.int .i64) (.pair (.int .i64) (.pair (.arr 32 (.int .u8)) (.pair (.pair (.int .i64) (.pair (.slice (.arr 32 (.int .u8))) (.pair (.slice (.arr 32 (.int .u8))) .unit))) .unit))))
abbrev A_39:List Ty:=[(.pair (.int .i64) (.pair (.int .i64) (.pair (.arr 32 (.int .u8)) (.pair (.pair (.int .i64) (.pair (.slice (.arr 32 (.int .u8))) (.pair (.slice (.arr 32 (.int .u8))) .unit))) .unit)))),(.slice (.int .u32))]
abbrev R_39:List Ty:=[(.slice (.int .u32))]
noncomputable def sm_39:Nat->Option Summ:=smL [(74,s_74)]
noncomputable def T_39_1:PS:=⟨72,[(1,.hv (.slice (.int .u32))),(2,.kc (.ptr 0 [])),(5,.kc (.whole 1)),(6,.hv (.int .i64)),(7,.hv (.int .u32)),(8,.hv (.int .i64))],[.mem (.hv Zy39_1),.vec 42 (.int .u32)],0⟩
inductive Sp.E_39_1 where
 |e0 (p0:List Int) (p1 p2:Int) (p4:Zt39_0) (p5:List Int)
noncomputable def Sp.B_39_1{R:Type}(r:Option E_39_1)(k0:List Int->Int->Int->Zt39_0->List Int->Option R):Option R:=match r with
 |none=>none
 |some (.e0 p0 p1 p2 p4 p5)=>k0 p0 p1 p2 p4 p5
theorem Bn_39_1{A R:Type}{r:Option E_39_1}{f:A->Option R}{k0:List Int->Int->Int->Zt39_0->List Int->Option A}{l0:List Int->Int->Int->Zt39_0->List Int->Option R}(h0:∀p0 p1 p2 p4 p5,(k0 p0 p1 p2 p4 p5).bind f=l0 p0 p1 p2 p4 p5):(B_39_1 r k0).bind f=B_39_1 r l0:=by
 cases r with
 |none=>rfl
 |some e=>cases e<;>first|apply h0
noncomputable def Y_39_1{R:Type}(k:Ex->St->Option R):E_39_1->Option R
 | .e0 p0 p1 p2 p4 p5=>k (Ex.exit 2) (sx 72 [(1,CV.pure (Ty.slice (Ty.int u32)) p0),(2,CV.ptr 0 []),(5,CV.whole 1),(6,CV.int i64 p1),(7,CV.int u32 p2)] [Blk.mem (CV.pure (Ty.pair (Ty.int i64) (Ty.pair (Ty.int i64) (Ty.pair (Ty.arr 32 (Ty.int u8)) (Ty.pair (Ty.pair (Ty.int i64) (Ty.pair (Ty.slice (Ty.arr 32 (Ty.int u8))) (Ty.pair (Ty.slice (Ty.arr 32 (Ty.int u8))) Ty.unit))) Ty.unit)))) p4),Blk.vec 42 (Ty.int u32) p5])
noncomputable def Sp.S_39_1{R:Type}(K:List Int->Int->Int->Int->(Int×Int×List Int×(Int×List (List Int)×List (List Int)×Unit)×Unit)->List Int->Option R)(k:E_39_1->Option R)(p0:List Int)(p1 p2 p3:Int)(p4:Int×Int×List Int×(Int×List (List Int)×List (List Int)×Unit)×Unit)(p5:List Int):Option R:=
 bif decide (p3<4)then gd (inB (wrap i64 (wrap i64 (4*p1)+p3)) 32) (gd (decide (toNat (wrap i64 (wrap i64 (4*p1)+p3))<32)&&true) (K p0 p1 (Sp.orI u32 (wrap u32 (p2*256)) (wrap u32 (getD (p4.2.2.1) (toNat (wrap i64 (wrap i64 (4*p1)+p3))) 0))) (wrap i64 (p3+1)) p4 p5))else k (E_39_1.e0 p0 p1 p2 p4 p5)
noncomputable def Sp.L_39_1:Nat->List Int->Int->Int->Int->(Int×Int×List Int×(Int×List (List Int)×List (List Int)×Unit)×Unit)->List Int->Option E_39_1
 |0,_,_,_,_,_,_=>none
 |m+1,p0,p1,p2,p3,p4,p5=>S_39_1 (L_39_1 m) some p0 p1 p2 p3 p4 p5
noncomputable def l_39_1(m:Nat)(a:T_39_1.E):Option E_39_1:=L_39_1 m a.1 a.2.1 a.2.2.1 a.2.2.2.1 a.2.2.2.2.1 a.2.2.2.2.2.1
noncomputable def O_39_1{R:Type}:Orc R:=orL T_39_1 (l_39_1 FU) Y_39_1
theorem OK_39_1{R:Type}:okF (R:=R) sm_39 0 (ni (nf 39 0) 0) O_39_1:=lp0 T_39_1 l_39_1 (fun R K k a=>S_39_1 (fun p0 p1 p2 p3 p4 p5=>K (p0,p1,p2,p3,p4,p5,())) k a.1 a.2.1 a.2.2.1 a.2.2.2.1 a.2.2.2.2.1 a.2.2.2.2.2.1) Y_39_1 (fun _ _ _=>by kernel_rfl) (fun _ _ _=>by
 unfold S_39_1
 repeat' first|apply gdN|apply condN|rfl) (ok0 _)
noncomputable def T_39_0:PS:=⟨72,[(1,.hv (.slice (.int .u32))),(2,.kc (.ptr 0 [])),(5,.kc (.whole 1)),(6,.hv (.int .i64))],[.mem (.hv Zy39_1),.vec 42 (.int .u32)],0⟩
inductive Sp.E_39_0 where
 |e0 (p0:List Int) (p2:Zt39_0) (p3:List Int)
noncomputable def Sp.B_39_0{R:Type}(r:Option E_39_0)(k0:List Int->Zt39_0->List Int->Option R):Option R:=match r with
 |none=>none
 |some (.e0 p0 p2 p3)=>k0 p0 p2 p3
noncomputable def Y_39_0{R:Type}(k:Ex->St->Option R):E_39_0->Option R
 | .e0 p0 p2 p3=>k (Ex.exit 0) (sx 72 [(1,CV.pure (Ty.slice (Ty.int u32)) p0),(2,CV.ptr 0 []),(5,CV.whole 1)] [Blk.mem (CV.pure (Ty.pair (Ty.int i64) (Ty.pair (Ty.int i64) (Ty.pair (Ty.arr 32 (Ty.int u8)) (Ty.pair (Ty.pair (Ty.int i64) (Ty.pair (Ty.slice (Ty.arr 32 (Ty.int u8))) (Ty.pair (Ty.slice (Ty.arr 32 (Ty.int u8))) Ty.unit))) Ty.unit)))) p2),Blk.vec 42 (Ty.int u32) p3])
noncomputable def Sp.S_39_0{R:Type}(K:List Int->Int->(Int×Int×List Int×(Int×List (List Int)×List (List Int)×Unit)×Unit)->List Int->Option R)(k:E_39_0->Option R)(p0:List Int)(p1:Int)(p2:Int×Int×List Int×(Int×List (List Int)×List (List Int)×Unit)×Unit)(p3:List Int):Option R:=
 bif decide (p1<8)then B_39_1 (L_39_1 4611686018427387904 p0 p1 0 0 p2 p3) fun y5 y6 y7 y8 y9=>gd (room (length y9+1) 4) (K y5 (wrap i64 (y6+1)) y8 (y9++[y7]))else k (E_39_0.e0 p0 p2 p3)
noncomputable def Sp.L_39_0:Nat->List Int->Int->(Int×Int×List Int×(Int×List (List Int)×List (List Int)×Unit)×Unit)->List Int->Option E_39_0
 |0,_,_,_,_=>none
 |m+1,p0,p1,p2,p3=>S_39_0 (L_39_0 m) some p0 p1 p2 p3
noncomputable def l_39_0(m:Nat)(a:T_39_0.E):Option E_39_0:=L_39_0 m a.1 a.2.1 a.2.2.1 a.2.2.2.1
noncomputable def O_39_0{R:Type}:Orc R:=orL T_39_0 (l_39_0 FU) Y_39_0
theorem OK_39_0{R:Type}:okF (R:=R) sm_39 0 (nf 39 0) O_39_0:=lp noO_ok (os:=[O_39_1]) ⟨OK_39_1,trivial⟩ T_39_0 l_39_0 (fun R K k a=>S_39_0 (fun p0 p1 p2 p3=>K (p0,p1,p2,p3,())) k a.1 a.2.1 a.2.2.1 a.2.2.2.1) Y_39_0 (fun _=>rfl) (fun _ _=>rfl) (fun k K a=>by kernel_rfl) (fun Y K a=>by
 unfold S_39_0
 repeat' first|apply gdN|apply condN|(apply Bn_39_1<;>intros)|rfl) (ok0 _)
noncomputable def T_39_2:PS:=⟨72,[(1,.hv (.slice (.int .u32))),(5,.kc (.whole 0)),(9,.hv (.slice (.int .u32))),(10,.hv (.int .i64))],[.vec 42 (.int .u32)],0⟩
inductive Sp.E_39_2 where
 |e0 (p0 p3:List Int)
noncomputable def Sp.B_39_2{R:Type}(r:Option E_39_2)(k0:List Int->List Int->Option R):Option R:=match r with
 |none=>none
 |some (.e0 p0 p3)=>k0 p0 p3
noncomputable def Y_39_2{R:Type}(k:Ex->St->Option R):E_39_2->Option R
 | .e0 p0 p3=>k (Ex.exit 4) (sx 72 [(1,CV.pure (Ty.slice (Ty.int u32)) p0),(5,CV.whole 0)] [Blk.vec 42 (Ty.int u32) p3])
noncomputable def Sp.S_39_2{R:Type}(K:List Int->List Int->Int->List Int->Option R)(k:E_39_2->Option R)(p0 p1:List Int)(p2:Int)(p3:List Int):Option R:=
 bif decide (p2<(↑(length p1):Int))then gd (inB p2 (length p1)) (gd (room (length p3+1) 4) (K p0 p1 (wrap i64 (p2+1)) (p3++[getD p1 (toNat p2) 0])))else k (E_39_2.e0 p0 p3)
noncomputable def Sp.L_39_2:Nat->List Int->List Int->Int->List Int->Option E_39_2
 |0,_,_,_,_=>none
 |m+1,p0,p1,p2,p3=>S_39_2 (L_39_2 m) some p0 p1 p2 p3
noncomputable def l_39_2(m:Nat)(a:T_39_2.E):Option E_39_2:=L_39_2 m a.1 a.2.1 a.2.2.1 a.2.2.2.1
noncomputable def O_39_2{R:Type}:Orc R:=orL T_39_2 (l_39_2 FU) Y_39_2
theorem OK_39_2{R:Type}:okF (R:=R) sm_39 0 (nf 39 1) O_39_2:=lp0 T_39_2 l_39_2 (fun R K k a=>S_39_2 (fun p0 p1 p2 p3=>K (p0,p1,p2,p3,())) k a.1 a.2.1 a.2.2.1 a.2.2.2.1) Y_39_2 (fun _ _ _=>by kernel_rfl) (fun _ _ _=>by
 unfold S_39_2
 repeat' first|apply gdN|apply condN|rfl) (ok0 _)
noncomputable def T_39_3:PS:=⟨72,[(1,.hv (.slice (.int .u32))),(5,.kc (.whole 0)),(11,.hv (.int .i64))],[.vec 42 (.int .u32)],0⟩
inductive Sp.E_39_3 where
 |e0 (p2:List Int)
noncomputable def Sp.B_39_3{R:Type}(r:Option E_39_3)(k0:List Int->Option R):Option R:=match r with
 |none=>none
 |some (.e0 p2)=>k0 p2
noncomputable def Y_39_3{R:Type}(k:Ex->St->Option R):E_39_3->Option R
 | .e0 p2=>k (Ex.exit 6) (sx 72 [(5,CV.whole 0)] [Blk.vec 42 (Ty.int u32) p2])
noncomputable def Sp.S_39_3{R:Type}(K:List Int->Int->List Int->Option R)(k:E_39_3->Option R)(p0:List Int)(p1:Int)(p2:List Int):Option R:=
 bif decide (p1<(↑(length p0):Int))then gd (inB p1 (length p0)) (gd (room (length p2+1) 4) (K p0 (wrap i64 (p1+1)) (p2++[getD p0 (toNat p1) 0])))else k (E_39_3.e0 p2)
noncomputable def Sp.L_39_3:Nat->List Int->Int->List Int->Option E_39_3
 |0,_,_,_=>none
 |m+1,p0,p1,p2=>S_39_3 (L_39_3 m) some p0 p1 p2
noncomputable def l_39_3(m:Nat)(a:T_39_3.E):Option E_39_3:=L_39_3 m a.1 a.2.1 a.2.2.1
noncomputable def O_39_3{R:Type}:Orc R:=orL T_39_3 (l_39_3 FU) Y_39_3
theorem OK_39_3{R:Type}:okF (R:=R) sm_39 0 (nf 39 2) O_39_3:=lp0 T_39_3 l_39_3 (fun R K k a=>S_39_3 (fun p0 p1 p2=>K (p0,p1,p2,())) k a.1 a.2.1 a.2.2.1) Y_39_3 (fun _ _ _=>by kernel_rfl) (fun _ _ _=>by
 unfold S_39_3
 repeat' first|apply gdN|apply condN|rfl) (ok0 _)
noncomputable def F_39(a0:(Int×(Int×((List Int)×((Int×((List (List Int))×((List (List Int))×Unit)))×Unit)))))(a1:(List Int)):Option ((List Int)×Unit) :=
 B_39_0 (L_39_0 4611686018427387904 a1 0 a0 [wrap u32 (a0.1),wrap u32 (a0.2.1)]) fun y6 y7 y8=>gd (p_74 (y7.2.2.2.1)) (B_39_2 (L_39_2 4611686018427387904 y6 ((v_74 (y7.2.2.2.1)).1) 0 y8) fun y9 y10=>B_39_3 (L_39_3 4611686018427387904 y9 0 y10) fun y11=>some (y11,PUnit.unit))
noncomputable def Sp.p_39(a0:(Int×(Int×((List Int)×((Int×((List (List Int))×((List (List Int))×Unit)))×Unit)))))(a1:(List Int)):Bool:=(F_39 a0 a1).isSome
noncomputable def Sp.v_39(a0:(Int×(Int×((List Int)×((Int×((List (List Int))×((List (List Int))×Unit)))×Unit)))))(a1:(List Int)):(List Int)×Unit:=(F_39 a0 a1).getD (dfH R_39)
noncomputable def s_39:Summ:=shS A_39 R_39 (fun x=>p_39 x.1 x.2.1) (fun x=>v_39 x.1 x.2.1)
theorem pv_39(a0:(Int×(Int×((List Int)×((Int×((List (List Int))×((List (List Int))×Unit)))×Unit)))))(a1:(List Int)){y:(List Int)×Unit}(h:F_39 a0 a1=some y):p_39 a0 a1=true/\v_39 a0 a1=y:=pvG h
theorem run_39(x:HDen A_39)(y:HDen R_39)(h:F_39 x.1 x.2.1=some y):rnF sm_39 1 39 A_39 R_39 x y:=runG noO_ok (os:=[O_39_0,O_39_2,O_39_3]) ⟨OK_39_0,OK_39_2,OK_39_3,trivial⟩ (Eq.trans (by kernel_rfl) h)
end
noncomputable section
abbrev Zt9_0:Type:=(List Int×List Int×Int×Unit)×List Int×Unit
abbrev Zy9_1:Ty:=(.pair (.pair (.slice (.int .u32)) (.pair (.slice (.int .i64)) (.pair (.int .i64) .unit))) (.pair (.arr 32 (.int .u8)) .unit))
abbrev A_9:List Ty:=[(.pair (.pair (.slice (.int .u32)) (.pair (.slice (.int .i64)) (.pair (.int .i64) .unit))) (.pair (.arr 32 (.int .u8)) .unit)),(.int .u8),(.int .u32),(.slice (.int .u32)),(.arr 32 (.int .u8)),(.int .u8)]
abbrev R_9:List Ty:=[.bool]
noncomputable def sm_9:Nat->Option Summ:=smL [(10,s_10),(11,s_11),(12,s_12),(13,s_13),(14,s_14),(17,s_17),(19,s_19),(20,s_20),(27,s_27),(29,s_29),(30,s_30),(31,s_31),(34,s_34),(35,s_35),(36,s_36),(37,s_37),(38,s_38),(39,s_39)]
noncomputable def T_9_0:PS:=⟨243,[(2,.hv (.int .u32)),(3,.hv (.slice (.int .u32))),(5,.hv (.int .u8)),(6,.kc (.ptr 0 [])),(10,.kc (.ptr 1 [])),(14,.hv (.int .i64)),(15,.kc (.whole 2)),(83,.kc (.whole 3)),(84,.hv (.int .i64)),(85,.hv (.int .i64))],[.mem (.hv Zy9_1),.mem (.hv (.arr 32 (.int .u8))),.vec 5 (.int .u8),.vec 42 (.int .u32)],0⟩
inductive Sp.E_9_0 where
 |e0 (p0:Int) (p1:List Int) (p2 p3:Int) (p6:Zt9_0) (p7 p8:List Int)
noncomputable def Sp.B_9_0{R:Type}(r:Option E_9_0)(k0:Int->List Int->Int->Int->Zt9_0->List Int->List Int->Option R):Option R:=match r with
 |none=>none
 |some (.e0 p0 p1 p2 p3 p6 p7 p8)=>k0 p0 p1 p2 p3 p6 p7 p8
noncomputable def Y_9_0{R:Type}(k:Ex->St->Option R):E_9_0->Option R
 | .e0 p0 p1 p2 p3 p6 p7 p8=>k (Ex.exit 0) (sx 243 [(2,CV.int u32 p0),(3,CV.pure (Ty.slice (Ty.int u32)) p1),(5,CV.int u8 p2),(6,CV.ptr 0 []),(10,CV.ptr 1 []),(14,CV.int i64 p3),(15,CV.whole 2)] [Blk.mem (CV.pure (Ty.pair (Ty.pair (Ty.slice (Ty.int u32)) (Ty.pair (Ty.slice (Ty.int i64)) (Ty.pair (Ty.int i64) Ty.unit))) (Ty.pair (Ty.arr 32 (Ty.int u8)) Ty.unit)) p6),Blk.mem (CV.pure (Ty.arr 32 (Ty.int u8)) p7),Blk.vec 5 (Ty.int u8) p8])
noncomputable def Sp.S_9_0{R:Type}(K:Int->List Int->Int->Int->Int->Int->((List Int×List Int×Int×Unit)×List Int×Unit)->List Int->List Int->List Int->Option R)(k:E_9_0->Option R)(p0:Int)(p1:List Int)(p2 p3 p4 p5:Int)(p6:(List Int×List Int×Int×Unit)×List Int×Unit)(p7 p8 p9:List Int):Option R:=
 bif decide (p5<p4)then gd (inB p5 (length p9)) (gd (decide (toNat p5<length p9)&&true) (gd (room (length p8+4) 1) (K p0 p1 p2 p3 p4 (wrap i64 (p5+1)) p6 p7 (p8++[wrap u8 (Int.fdiv (getD p9 (toNat p5) 0) 16777216),wrap u8 (Int.fdiv (getD p9 (toNat p5) 0) 65536),wrap u8 (Int.fdiv (getD p9 (toNat p5) 0) 256),wrap u8 (getD p9 (toNat p5) 0)]) p9)))else k (E_9_0.e0 p0 p1 p2 p3 p6 p7 p8)
noncomputable def Sp.L_9_0:Nat->Int->List Int->Int->Int->Int->Int->((List Int×List Int×Int×Unit)×List Int×Unit)->List Int->List Int->List Int->Option E_9_0
 |0,_,_,_,_,_,_,_,_,_,_=>none
 |m+1,p0,p1,p2,p3,p4,p5,p6,p7,p8,p9=>S_9_0 (L_9_0 m) some p0 p1 p2 p3 p4 p5 p6 p7 p8 p9
noncomputable def l_9_0(m:Nat)(a:T_9_0.E):Option E_9_0:=L_9_0 m a.1 a.2.1 a.2.2.1 a.2.2.2.1 a.2.2.2.2.1 a.2.2.2.2.2.1 a.2.2.2.2.2.2.1 a.2.2.2.2.2.2.2.1 a.2.2.2.2.2.2.2.2.1 a.2.2.2.2.2.2.2.2.2.1
noncomputable def O_9_0{R:Type}:Orc R:=orL T_9_0 (l_9_0 FU) Y_9_0
theorem OK_9_0{R:Type}:okF (R:=R) sm_9 0 (nf 9 0) O_9_0:=lp0 T_9_0 l_9_0 (fun R K k a=>S_9_0 (fun p0 p1 p2 p3 p4 p5 p6 p7 p8 p9=>K (p0,p1,p2,p3,p4,p5,p6,p7,p8,p9,())) k a.1 a.2.1 a.2.2.1 a.2.2.2.1 a.2.2.2.2.1 a.2.2.2.2.2.1 a.2.2.2.2.2.2.1 a.2.2.2.2.2.2.2.1 a.2.2.2.2.2.2.2.2.1 a.2.2.2.2.2.2.2.2.2.1) Y_9_0 (fun _ _ _=>by kernel_rfl) (fun _ _ _=>by
 unfold S_9_0
 repeat' first|apply gdN|apply condN|rfl) (ok0 _)
noncomputable def T_9_2:PS:=⟨243,[(2,.hv (.int .u32)),(14,.hv (.int .i64)),(29,.kc (.ptr 0 [])),(31,.hv (.int .i64)),(33,.hv (.int .i64)),(34,.hv (.int .i64)),(35,.hv .bool)],[.mem (.hv Zy9_1)],0⟩
inductive Sp.E_9_2 where
 |e0 (p0:Int) (p6:Zt9_0)
 |e1
noncomputable def Sp.B_9_2{R:Type}(r:Option E_9_2)(k0:Int->Zt9_0->Option R)(k1:Option R):Option R:=match r with
 |none=>none
 |some (.e0 p0 p6)=>k0 p0 p6
 |some (.e1)=>k1
theorem Bn_9_2{A R:Type}{r:Option E_9_2}{f:A->Option R}{k0:Int->Zt9_0->Option A}{k1:Option A}{l0:Int->Zt9_0->Option R}{l1:Option R}(h0:∀p0 p6,(k0 p0 p6).bind f=l0 p0 p6)(h1:(k1).bind f=l1):(B_9_2 r k0 k1).bind f=B_9_2 r l0 l1:=by
 cases r with
 |none=>rfl
 |some e=>cases e<;>first|apply h0|apply h1
noncomputable def Y_9_2{R:Type}(k:Ex->St->Option R):E_9_2->Option R
 | .e0 p0 p6=>k Ex.ret (sx 243 [(12,CV.bool ((v_20 p6).1==wrap i64 p0))] [])
 | .e1=>k Ex.ret (sx 243 [(12,CV.bool false)] [])
noncomputable def Sp.S_9_2{R:Type}(k:E_9_2->Option R)(p0 p1 p2 p3 p4:Int)(p5:Bool)(p6:(List Int×List Int×Int×Unit)×List Int×Unit):Option R:=
 bif p2==0 then bif p4==0 then bif p3==p1 then gd (p_20 p6) (k (E_9_2.e0 p0 p6))else bif p5 then bif p3==0 then gd (p_20 p6) (k (E_9_2.e0 p0 p6))else k (E_9_2.e1)else k (E_9_2.e1)else k (E_9_2.e1)else k (E_9_2.e1)
noncomputable def Sp.J_9_2(p0 p1 p2 p3 p4:Int)(p5:Bool)(p6:(List Int×List Int×Int×Unit)×List Int×Unit):Option E_9_2:=S_9_2 some p0 p1 p2 p3 p4 p5 p6
noncomputable def O_9_2{R:Type}:Orc R:=orL T_9_2 (fun a=>J_9_2 a.1 a.2.1 a.2.2.1 a.2.2.2.1 a.2.2.2.2.1 a.2.2.2.2.2.1 a.2.2.2.2.2.2.1) Y_9_2
theorem OK_9_2{R:Type}:okF (R:=R) sm_9 0 (ni (nf 9 1) 0) O_9_2:=jp noO_ok (os:=[]) trivial T_9_2 (fun R k a=>S_9_2 k a.1 a.2.1 a.2.2.1 a.2.2.2.1 a.2.2.2.2.1 a.2.2.2.2.2.1 a.2.2.2.2.2.2.1) Y_9_2 (fun k a=>by kernel_rfl) (fun Y a=>by
 unfold S_9_2
 repeat' first|apply gdN|apply condN|rfl) (ok0 _)
noncomputable def T_9_1:PS:=⟨243,[(2,.hv (.int .u32)),(14,.hv (.int .i64)),(22,.kc (.ptr 0 [])),(28,.hv .bool)],[.mem (.hv Zy9_1)],0⟩
inductive Sp.E_9_1 where
 |e0 (p1:Int) (p3:Zt9_0)
 |e1 (y4:Int) (y5:Zt9_0)
 |e2
noncomputable def Sp.B_9_1{R:Type}(r:Option E_9_1)(k0 k1:Int->Zt9_0->Option R)(k2:Option R):Option R:=match r with
 |none=>none
 |some (.e0 p1 p3)=>k0 p1 p3
 |some (.e1 y4 y5)=>k1 y4 y5
 |some (.e2)=>k2
noncomputable def Y_9_1{R:Type}(k:Ex->St->Option R):E_9_1->Option R
 | .e0 p1 p3=>k Ex.ret (sx 243 [(12,CV.bool ((v_31 p3 p1 (v_34.1)).2.2.1==20))] [])
 | .e1 y4 y5=>k Ex.ret (sx 243 [(12,CV.bool ((v_20 y5).1==wrap i64 y4))] [])
 | .e2=>k Ex.ret (sx 243 [(12,CV.bool false)] [])
noncomputable def Sp.S_9_1{R:Type}(k:E_9_1->Option R)(p0 p1:Int)(p2:Bool)(p3:(List Int×List Int×Int×Unit)×List Int×Unit):Option R:=
 gd p_34 (gd (p_31 p3 p1 (v_34.1)) (gd (p_20 p3) (bif decide (wrap i64 p0<(v_20 p3).1)then k (E_9_1.e0 p1 p3)else gd (p_17 ((v_31 p3 p1 (v_34.1)).1)) (bif p2 then B_9_2 (J_9_2 p0 p1 ((v_31 p3 p1 (v_34.1)).2.2.1) ((v_17 ((v_31 p3 p1 (v_34.1)).1)).1) ((v_17 ((v_31 p3 p1 (v_34.1)).1)).2.1) (wrap i64 p0==(v_20 p3).1) ((v_31 p3 p1 (v_34.1)).1)) (fun y4 y5=>k (E_9_1.e1 y4 y5)) (k (E_9_1.e2))else B_9_2 (J_9_2 p0 p1 ((v_31 p3 p1 (v_34.1)).2.2.1) ((v_17 ((v_31 p3 p1 (v_34.1)).1)).1) ((v_17 ((v_31 p3 p1 (v_34.1)).1)).2.1) false ((v_31 p3 p1 (v_34.1)).1)) (fun y6 y7=>k (E_9_1.e1 y6 y7)) (k (E_9_1.e2))))))
noncomputable def Sp.J_9_1(p0 p1:Int)(p2:Bool)(p3:(List Int×List Int×Int×Unit)×List Int×Unit):Option E_9_1:=S_9_1 some p0 p1 p2 p3
noncomputable def O_9_1{R:Type}:Orc R:=orL T_9_1 (fun a=>J_9_1 a.1 a.2.1 a.2.2.1 a.2.2.2.1) Y_9_1
theorem OK_9_1{R:Type}:okF (R:=R) sm_9 0 (nf 9 1) O_9_1:=jp noO_ok (os:=[O_9_2]) ⟨OK_9_2,trivial⟩ T_9_1 (fun R k a=>S_9_1 k a.1 a.2.1 a.2.2.1 a.2.2.2.1) Y_9_1 (fun k a=>by kernel_rfl) (fun Y a=>by
 unfold S_9_1
 repeat' first|apply gdN|apply condN|(apply Bn_9_2<;>intros)|rfl) (ok0 _)
noncomputable def F_9(a0:(((List Int)×((List Int)×(Int×Unit)))×((List Int)×Unit)))(a1 a2:Int)(a3 a4:(List Int))(a5:Int):Option (Bool) :=
 gd p_10 (bif !v_10.1 then some false else gd (p_11 a0) (bif !(v_11 a0).1 then some true else gd (p_12 a0) (bif !(v_12 a0).1 then some true else bif decide ((↑(length a3):Int)>500)then some true else bif decide ((↑(length a3):Int)<1)then some true else bif decide (a2<1)then some true else bif decide (a2>=2147483648)then some true else bif decide ((↑(length a3):Int)>wrap i64 (wrap i64 (Int.tdiv (↑(length (a0.1.1)):Int) 2)-564))then some true else gd (room (2+length a3) 4) (B_9_0 (L_9_0 4611686018427387904 a2 a3 a5 (Int.tmod (wrap i64 a1) 2) (↑(length ([a2,wrap u32 (↑(length a3):Int)]++a3)):Int) 0 a0 a4 [] ([a2,wrap u32 (↑(length a3):Int)]++a3)) fun y39 y40 y41 y42 y43 y44 y45=>gd (p_35 y45) (gd (p_36 y44 (Int.tmod (wrap i64 y41) 4) ((v_35 y45).1)) (bif(v_36 y44 (Int.tmod (wrap i64 y41) 4) ((v_35 y45).1)).2.1 !=0 then some false else bif(↑(length ((v_36 y44 (Int.tmod (wrap i64 y41) 4) ((v_35 y45).1)).1.2.1)):Int)!=67 then some false else bif(↑(length ((v_36 y44 (Int.tmod (wrap i64 y41) 4) ((v_35 y45).1)).1.2.2.1)):Int)!=2 then some false else gd (p_37 y44) (gd (p_39 (wrap i64 y39,(↑(length y40):Int),(v_35 y45).1,(v_36 y44 (Int.tmod (wrap i64 y41) 4) ((v_35 y45).1)).1,PUnit.unit) y40) (gd (p_38 (y43.1,(v_37 y44).1,y43.2.2) y42 ((v_39 (wrap i64 y39,(↑(length y40):Int),(v_35 y45).1,(v_36 y44 (Int.tmod (wrap i64 y41) 4) ((v_35 y45).1)).1,PUnit.unit) y40).1) false) (gd (p_14 ((v_38 (y43.1,(v_37 y44).1,y43.2.2) y42 ((v_39 (wrap i64 y39,(↑(length y40):Int),(v_35 y45).1,(v_36 y44 (Int.tmod (wrap i64 y41) 4) ((v_35 y45).1)).1,PUnit.unit) y40).1) false).1) y42) (gd (p_27 ((v_38 (y43.1,(v_37 y44).1,y43.2.2) y42 ((v_39 (wrap i64 y39,(↑(length y40):Int),(v_35 y45).1,(v_36 y44 (Int.tmod (wrap i64 y41) 4) ((v_35 y45).1)).1,PUnit.unit) y40).1) false).1) y42) (bif !(v_14 ((v_38 (y43.1,(v_37 y44).1,y43.2.2) y42 ((v_39 (wrap i64 y39,(↑(length y40):Int),(v_35 y45).1,(v_36 y44 (Int.tmod (wrap i64 y41) 4) ((v_35 y45).1)).1,PUnit.unit) y40).1) false).1) y42).2.1 then some false else gd (p_29 ((v_14 ((v_38 (y43.1,(v_37 y44).1,y43.2.2) y42 ((v_39 (wrap i64 y39,(↑(length y40):Int),(v_35 y45).1,(v_36 y44 (Int.tmod (wrap i64 y41) 4) ((v_35 y45).1)).1,PUnit.unit) y40).1) false).1) y42).1) (wrap i64 y39,(↑(length y40):Int),(v_35 y45).1,(v_36 y44 (Int.tmod (wrap i64 y41) 4) ((v_35 y45).1)).1,PUnit.unit)) (bif !(v_29 ((v_14 ((v_38 (y43.1,(v_37 y44).1,y43.2.2) y42 ((v_39 (wrap i64 y39,(↑(length y40):Int),(v_35 y45).1,(v_36 y44 (Int.tmod (wrap i64 y41) 4) ((v_35 y45).1)).1,PUnit.unit) y40).1) false).1) y42).1) (wrap i64 y39,(↑(length y40):Int),(v_35 y45).1,(v_36 y44 (Int.tmod (wrap i64 y41) 4) ((v_35 y45).1)).1,PUnit.unit)).1 then some false else gd (p_13 ((v_38 (y43.1,(v_37 y44).1,y43.2.2) y42 ((v_39 (wrap i64 y39,(↑(length y40):Int),(v_35 y45).1,(v_36 y44 (Int.tmod (wrap i64 y41) 4) ((v_35 y45).1)).1,PUnit.unit) y40).1) false).1) y42) (bif !(v_13 ((v_38 (y43.1,(v_37 y44).1,y43.2.2) y42 ((v_39 (wrap i64 y39,(↑(length y40):Int),(v_35 y45).1,(v_36 y44 (Int.tmod (wrap i64 y41) 4) ((v_35 y45).1)).1,PUnit.unit) y40).1) false).1) y42).1 then some false else bif(v_27 ((v_38 (y43.1,(v_37 y44).1,y43.2.2) y42 ((v_39 (wrap i64 y39,(↑(length y40):Int),(v_35 y45).1,(v_36 y44 (Int.tmod (wrap i64 y41) 4) ((v_35 y45).1)).1,PUnit.unit) y40).1) false).1) y42).2.1 !=0 then some false else gd (p_30 ((v_27 ((v_38 (y43.1,(v_37 y44).1,y43.2.2) y42 ((v_39 (wrap i64 y39,(↑(length y40):Int),(v_35 y45).1,(v_36 y44 (Int.tmod (wrap i64 y41) 4) ((v_35 y45).1)).1,PUnit.unit) y40).1) false).1) y42).1) y40) (bif !(v_30 ((v_27 ((v_38 (y43.1,(v_37 y44).1,y43.2.2) y42 ((v_39 (wrap i64 y39,(↑(length y40):Int),(v_35 y45).1,(v_36 y44 (Int.tmod (wrap i64 y41) 4) ((v_35 y45).1)).1,PUnit.unit) y40).1) false).1) y42).1) y40).1 then some false else gd (p_19 ((v_38 (y43.1,(v_37 y44).1,y43.2.2) y42 ((v_39 (wrap i64 y39,(↑(length y40):Int),(v_35 y45).1,(v_36 y44 (Int.tmod (wrap i64 y41) 4) ((v_35 y45).1)).1,PUnit.unit) y40).1) false).1)) (bif(v_19 ((v_38 (y43.1,(v_37 y44).1,y43.2.2) y42 ((v_39 (wrap i64 y39,(↑(length y40):Int),(v_35 y45).1,(v_36 y44 (Int.tmod (wrap i64 y41) 4) ((v_35 y45).1)).1,PUnit.unit) y40).1) false).1)).2.1 then bif(v_19 ((v_38 (y43.1,(v_37 y44).1,y43.2.2) y42 ((v_39 (wrap i64 y39,(↑(length y40):Int),(v_35 y45).1,(v_36 y44 (Int.tmod (wrap i64 y41) 4) ((v_35 y45).1)).1,PUnit.unit) y40).1) false).1)).1==y42 then some false else B_9_1 (J_9_1 y39 y42 ((v_19 ((v_38 (y43.1,(v_37 y44).1,y43.2.2) y42 ((v_39 (wrap i64 y39,(↑(length y40):Int),(v_35 y45).1,(v_36 y44 (Int.tmod (wrap i64 y41) 4) ((v_35 y45).1)).1,PUnit.unit) y40).1) false).1)).2.1) ((v_38 (y43.1,(v_37 y44).1,y43.2.2) y42 ((v_39 (wrap i64 y39,(↑(length y40):Int),(v_35 y45).1,(v_36 y44 (Int.tmod (wrap i64 y41) 4) ((v_35 y45).1)).1,PUnit.unit) y40).1) false).1)) (fun y46 y47=>some ((v_31 y47 y46 (v_34.1)).2.2.1==20)) (fun y48 y49=>some ((v_20 y49).1==wrap i64 y48)) (some false)else B_9_1 (J_9_1 y39 y42 ((v_19 ((v_38 (y43.1,(v_37 y44).1,y43.2.2) y42 ((v_39 (wrap i64 y39,(↑(length y40):Int),(v_35 y45).1,(v_36 y44 (Int.tmod (wrap i64 y41) 4) ((v_35 y45).1)).1,PUnit.unit) y40).1) false).1)).2.1) ((v_38 (y43.1,(v_37 y44).1,y43.2.2) y42 ((v_39 (wrap i64 y39,(↑(length y40):Int),(v_35 y45).1,(v_36 y44 (Int.tmod (wrap i64 y41) 4) ((v_35 y45).1)).1,PUnit.unit) y40).1) false).1)) (fun y50 y51=>some ((v_31 y51 y50 (v_34.1)).2.2.1==20)) (fun y52 y53=>some ((v_20 y53).1==wrap i64 y52)) (some false))))))))))))))))
theorem run_9(a0:(((List Int)×((List Int)×(Int×Unit)))×((List Int)×Unit)))(a1 a2:Int)(a3 a4:(List Int))(a5:Int){b:Bool}(h:F_9 a0 a1 a2 a3 a4 a5=some b):evFn sm_9 fns FU 1 9 (ofH A_9 (a0,a1,a2,a3,a4,a5,())) [] bk=some b:=runG noO_ok (os:=[O_9_0,O_9_1]) ⟨OK_9_0,OK_9_1,trivial⟩ (Eq.trans (by kernel_rfl) h)
end
end Go.Ev
namespace Go.Proofs
open Go.Shelf
noncomputable def Try.clone61_ren:Go.Shelf.Ren:=⟨fun|41=>61|n=>n,fun|22=>22|23=>42|4=>4|n=>n,fun|n=>n⟩
theorem Try.clone61:Go.Proofs.SlLaysE0.n41 Try.prog Try.clone61_ren:= {
 mixed:=by kernel_rfl
 f41:=⟨Try.f61.name,by decide,Try.func61.trans (congrArg some (by kernel_rfl))⟩
 t4:=Try.underlying4
 a4:=Try.isAgg4
 z4:=Try.sizeOf4
 v4:=Try.zeroValue4
 t22:=Try.underlying22
 a22:=Try.isAgg22
 z22:=Try.sizeOf22
 v22:=Try.zeroValue22}
noncomputable def Try.clone103_ren:Go.Shelf.Ren:=⟨fun|41=>103|n=>n,fun|22=>23|23=>3|4=>4|n=>n,fun|n=>n⟩
theorem Try.clone103:Go.Proofs.SlLaysE0.n41 Try.prog Try.clone103_ren:= {
 mixed:=by kernel_rfl
 f41:=⟨Try.f103.name,by decide,Try.func103.trans (congrArg some (by kernel_rfl))⟩
 t4:=Try.underlying4
 a4:=Try.isAgg4
 z4:=Try.sizeOf4
 v4:=Try.zeroValue4
 t22:=Try.underlying23
 a22:=Try.isAgg23
 z22:=Try.sizeOf23
 v22:=Try.zeroValue23}
end Go.Proofs
namespace Go.Ev
open Go Go.Proofs Go.RowKit
set_option maxRecDepth 100000
set_option maxHeartbeats 4000000
theorem info61:∃i,Try.prog.info? 42=some i/\i.zero=some (.int .u32 0)/\i.size=1/\i.bytes=4:=⟨_,rfl,by kernel_rfl,by kernel_rfl,by kernel_rfl⟩
theorem sok_61:SummOK Try.prog 61 (vecS (.int .u32) 42 4):=by
 obtain⟨i,hi,h0,h1,h2⟩:=info61
 exact clone_vec (by kernel_rfl) (by decide)
  (fun b off n c news w hl hn hb hc h3=>AnyE.slices_Clone Try.clone61 i _ 1 4 hi h0 h1 h2 (by kernel_rfl) (by decide) Try.sizeOf42 b off n c news w hl hn hb hc h3)
  (fun n c w=>AnyE.slices_Clone_nil Try.clone61 n c w)
  (fun a c w=>clone_zero Try.clone61 i _ 1 4 hi h0 h1 h2 (by kernel_rfl) (by decide) Try.sizeOf42 a c w)
theorem info103:∃i,Try.prog.info? 3=some i/\i.zero=some (.int .i64 0)/\i.size=1/\i.bytes=8:=⟨_,rfl,by kernel_rfl,by kernel_rfl,by kernel_rfl⟩
theorem sok_103:SummOK Try.prog 103 (vecS (.int .i64) 3 8):=by
 obtain⟨i,hi,h0,h1,h2⟩:=info103
 exact clone_vec (by kernel_rfl) (by decide)
  (fun b off n c news w hl hn hb hc h3=>AnyE.slices_Clone Try.clone103 i _ 1 8 hi h0 h1 h2 (by kernel_rfl) (by decide) Try.sizeOf3 b off n c news w hl hn hb hc h3)
  (fun n c w=>AnyE.slices_Clone_nil Try.clone103 n c w)
  (fun a c w=>clone_zero Try.clone103 i _ 1 8 hi h0 h1 h2 (by kernel_rfl) (by decide) Try.sizeOf3 a c w)
noncomputable def grow77_ren:Go.Shelf.Ren:=⟨fun|4=>77|n=>n,fun|25=>42|22=>22|n=>n,fun|n=>n⟩
theorem grow77_lay:Go.Proofs.Lays8.n4 Try.prog grow77_ren:= {
 mixed:=by kernel_rfl
 f4:=⟨Try.f77.name,by decide,Try.func77.trans (congrArg some (by kernel_rfl))⟩
 t0:=Try.underlying0
 a0:=Try.isAgg0
 z0:=Try.sizeOf0
 v0:=Try.zeroValue0
 t3:=Try.underlying3
 a3:=Try.isAgg3
 z3:=Try.sizeOf3
 v3:=Try.zeroValue3
 t4:=Try.underlying4
 a4:=Try.isAgg4
 z4:=Try.sizeOf4
 v4:=Try.zeroValue4
 t9:=Try.underlying9
 a9:=Try.isAgg9
 z9:=Try.sizeOf9
 v9:=Try.zeroValue9
 t20:=Try.underlying20
 a20:=Try.isAgg20
 z20:=Try.sizeOf20
 v20:=Try.zeroValue20
 t22:=Try.underlying22
 a22:=Try.isAgg22
 z22:=Try.sizeOf22
 v22:=Try.zeroValue22}
theorem growinfo77:∃i,Try.prog.info? 42=some i/\i.zero=some (.int .u32 0)/\i.size=1/\i.bytes=4:=⟨_,rfl,by kernel_rfl,by kernel_rfl,by kernel_rfl⟩
theorem sok_77:SummOK Try.prog 77 (growS (.int .u32) 42 4):=by
 obtain⟨i,hi,h0,h1,h2⟩:=growinfo77
 exact grow_vec (by kernel_rfl) (by decide) (fun n w hn hb=>grow_calls grow77_lay i _ 1 4 hi h0 h1 h2 (by decide) (by decide) (by rfl) n w hn hb)
theorem sok_40:SummOK Try.prog 40 s_40:=sokN hm0 run_40 trivial
theorem sok_41:SummOK Try.prog 41 s_41:=sokN hm0 run_41 trivial
theorem sok_12:SummOK Try.prog 12 s_12:=sokN hm0 run_12 ⟨sok_40,sok_41,trivial⟩
theorem sok_42:SummOK Try.prog 42 s_42:=sokS hm0 run_42 trivial
theorem sok_46:SummOK Try.prog 46 s_46:=sokN hm0 run_46 trivial
theorem sok_44:SummOK Try.prog 44 s_44:=sokS hm0 run_44 trivial
theorem sok_81:SummOK Try.prog 81 s_81:=sokS hm0 run_81 trivial
theorem sok_47:SummOK Try.prog 47 s_47:=sokS hm0 run_47 ⟨sok_44,sok_81,sok_99,trivial⟩
theorem sok_14:SummOK Try.prog 14 s_14:=sokS hm0 run_14 ⟨sok_12,sok_42,sok_46,sok_47,trivial⟩
theorem sok_66:SummOK Try.prog 66 s_66:=sokN hm0 run_66 trivial
theorem sok_95:SummOK Try.prog 95 s_95:=sokN hm0 run_95 trivial
theorem sok_104:SummOK Try.prog 104 s_104:=sokN hm0 run_104 trivial
theorem sok_96:SummOK Try.prog 96 s_96:=sokN hm0 run_96 ⟨sok_104,trivial⟩
theorem sok_35:SummOK Try.prog 35 s_35:=sokN hm0 run_35 ⟨sok_66,sok_95,sok_96,trivial⟩
theorem sok_43:SummOK Try.prog 43 s_43:=sokS hm0 run_43 ⟨sok_77,trivial⟩
theorem sok_69:SummOK Try.prog 69 s_69:=sokS hm0 run_69 trivial
theorem sok_70:SummOK Try.prog 70 s_70:=sokN hm0 run_70 ⟨sok_35,trivial⟩
theorem sok_73:SummOK Try.prog 73 s_73:=sokN hm0 run_73 ⟨sok_35,trivial⟩
theorem sok_78:SummOK Try.prog 78 s_78:=sokN hm0 run_78 trivial
theorem sok_79:SummOK Try.prog 79 s_79:=sokN hm0 run_79 ⟨sok_35,trivial⟩
theorem sok_45:SummOK Try.prog 45 s_45:=sokN hm0 run_45 ⟨sok_69,sok_70,sok_73,sok_78,sok_79,trivial⟩
theorem sok_13:SummOK Try.prog 13 s_13:=sokN hm0 run_13 ⟨sok_14,sok_35,sok_42,sok_43,sok_44,sok_45,trivial⟩
theorem sok_51:SummOK Try.prog 51 s_51:=sokN hm0 run_51 ⟨sok_42,trivial⟩
theorem sok_17:SummOK Try.prog 17 s_17:=sokN hm0 run_17 ⟨sok_12,sok_13,sok_14,sok_51,trivial⟩
theorem sok_107:SummOK Try.prog 107 s_107:=sokN hm0 run_107 trivial
theorem sok_108:SummOK Try.prog 108 s_108:=sokN hm0 run_108 trivial
theorem sok_102:SummOK Try.prog 102 s_102:=sokN hm0 run_102 ⟨sok_107,sok_108,trivial⟩
theorem sok_89:SummOK Try.prog 89 s_89:=sokS hm0 run_89 ⟨sok_102,trivial⟩
theorem sok_53:SummOK Try.prog 53 s_53:=sokS hm0 run_53 ⟨sok_89,trivial⟩
theorem sok_22:SummOK Try.prog 22 s_22:=sokS hm0 run_22 ⟨sok_41,sok_53,trivial⟩
theorem sok_10:SummOK Try.prog 10 s_10:=sokN hm0 run_10 ⟨sok_14,sok_17,sok_22,trivial⟩
theorem sok_11:SummOK Try.prog 11 s_11:=sokN hm0 run_11 trivial
theorem sok_19:SummOK Try.prog 19 s_19:=sokN hm0 run_19 ⟨sok_17,trivial⟩
theorem sok_20:SummOK Try.prog 20 s_20:=sokN hm0 run_20 ⟨sok_14,sok_19,trivial⟩
theorem sok_60:SummOK Try.prog 60 s_60:=sokN hm0 run_60 ⟨sok_12,sok_13,sok_46,trivial⟩
theorem sok_27:SummOK Try.prog 27 s_27:=sokS hm0 run_27 ⟨sok_42,sok_60,sok_61,trivial⟩
theorem sok_62:SummOK Try.prog 62 s_62:=sokN hm0 run_62 trivial
theorem sok_29:SummOK Try.prog 29 s_29:=sokN hm0 run_29 ⟨sok_62,trivial⟩
theorem sok_30:SummOK Try.prog 30 s_30:=sokN hm0 run_30 trivial
theorem sok_34:SummOK Try.prog 34 s_34:=sokN hm0 run_34 trivial
theorem sok_91:SummOK Try.prog 91 s_91:=sokN hm0 run_91 ⟨sok_40,trivial⟩
theorem sok_63:SummOK Try.prog 63 s_63:=sokS hm0 run_63 ⟨sok_61,sok_91,sok_103,trivial⟩
theorem sok_31:SummOK Try.prog 31 s_31:=sokS hm0 run_31 ⟨sok_14,sok_20,sok_34,sok_51,sok_60,sok_63,trivial⟩
theorem sok_71:SummOK Try.prog 71 s_71:=sokN hm0 run_71 ⟨sok_35,trivial⟩
theorem sok_72:SummOK Try.prog 72 s_72:=sokN hm0 run_72 ⟨sok_70,sok_71,sok_79,trivial⟩
theorem sok_36:SummOK Try.prog 36 s_36:=sokS hm0 run_36 ⟨sok_69,sok_70,sok_71,sok_72,sok_73,trivial⟩
theorem sok_37:SummOK Try.prog 37 s_37:=sokN hm0 run_37 ⟨sok_72,sok_73,trivial⟩
theorem sok_15:SummOK Try.prog 15 s_15:=sokO hm0 run_15 trivial
theorem sok_38:SummOK Try.prog 38 s_38:=sokS hm0 run_38 ⟨sok_15,trivial⟩
theorem sok_97:SummOK Try.prog 97 s_97:=sokS hm0 run_97 trivial
theorem sok_74:SummOK Try.prog 74 s_74:=sokS hm0 run_74 ⟨sok_97,trivial⟩
theorem sok_39:SummOK Try.prog 39 s_39:=sokS hm0 run_39 ⟨sok_74,trivial⟩
theorem call_9{R:Type}(n base:Nat):CallOK Try.prog base (rokOf Try.prog smB fns) (evFn (R:=R) sm_9 fns FU n):=callG hm0 (l:=[(10,s_10),(11,s_11),(12,s_12),(13,s_13),(14,s_14),(17,s_17),(19,s_19),(20,s_20),(27,s_27),(29,s_29),(30,s_30),(31,s_31),(34,s_34),(35,s_35),(36,s_36),(37,s_37),(38,s_38),(39,s_39)]) ⟨sok_10,sok_11,sok_12,sok_13,sok_14,sok_17,sok_19,sok_20,sok_27,sok_29,sok_30,sok_31,sok_34,sok_35,sok_36,sok_37,sok_38,sok_39,trivial⟩ n base
end Go.Ev
