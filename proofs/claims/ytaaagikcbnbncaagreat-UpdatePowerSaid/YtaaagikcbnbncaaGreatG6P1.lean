/- Helpers: functions of the program as Lean functions, and what they compute. No condition. -/
import Derived.Test.YtaaagikcbnbncaaGreatProg
import Derived.WalkKit
import Derived.Test.YtaaagikcbnbncaaGreatE6P3
import Derived.Test.YtaaagikcbnbncaaGreatE6P2
set_option maxRecDepth 10000
set_option linter.unusedVariables false
set_option linter.unusedSimpArgs false
open Go.IntKind (wrap i64 i32 i16 i8 u64 u32 u16 u8)
open List (getD length take drop replicate)
open Int (toNat)
open Go.Ev.Sp
namespace Go.Ev
open Go Go.Proofs Go.RowKit
set_option maxRecDepth 100000
noncomputable section
noncomputable def smB:Nat->Bool:=fun f=>[7,8,9,10,11,12,13,14,17,18,19,20,22,23,24,26,27,28,29,30,31,32,33,34,35,36,37,38,39,40,41,42,43,44,45,46,47,51,53,54,55,56,57,58,59,60,61,62,63,64,65,66,68,69,70,71,72,73,74,75,76,77,78,79,80,81,82,83,84,85,86,87,88,89,90,91,92,93,95,96,97,98,99,100,101,103,104,105,106,107,109,112,113,114,116,117,118,119,120,121,122,123,124,131,132,133,135,136,137,140,141,142,143,144,145,146,147,148].contains f
noncomputable def wF:Nat->Nat:=fun f=>0
noncomputable def cF:Nat->Bool:=fun f=>false
noncomputable def dF:Nat->Bool:=fun f=>[3,4,5].contains f
noncomputable def fns:Nat->Option IFn:=fnsP Tryz.prog smB wF cF dF
theorem hm0:Tryz.prog.follows .mixedOrders=true:=by kernel_rfl
abbrev s_90:Summ:=vecS (.int .u32) 37 4
abbrev s_91:Summ:=vecS (.int .i64) 3 8
abbrev s_145:Summ:=curS
abbrev s_147:Summ:=growS (.int .u32) 37 4
abbrev okF{R:Type}(sm:Nat->Option Summ)(d:Nat)(c:IC)(o:Orc R):Prop:=okN sm FU (evFn sm fns FU d) c o
abbrev nf(f i:Nat):IC:=nd (fB fns f) i
abbrev nr(f i:Nat):IC:=nd (fR fns f).2.2 i
abbrev ni(c:IC)(i:Nat):IC:=nd (inner c) i
abbrev rnF(sm:Nat->Option Summ)(n f:Nat)(A R:List Ty)(x:HDen A)(y:HDen R):Prop:=evFn sm fns FU n f (ofH A x) [] (pureK R)=some y
end
set_option maxHeartbeats 4000000
set_option linter.unusedVariables false
noncomputable section
abbrev A_74:List Ty:=[(.pair (.slice (.int .u32)) (.pair (.slice (.int .i64)) (.pair (.int .i64) .unit)))]
abbrev R_74:List Ty:=[.bool]
noncomputable def sm_74:Nat->Option Summ:=smL []
noncomputable def T_74_130_0_0:PS:=⟨19,[(0,.hv (.slice (.int .i64))),(1,.kc (.clo 111 (.pair (.ptr 0 []) (.pure .unit PUnit.unit)))),(7,.hv (.int .i64)),(8,.hv (.int .i64))],[.mem (.hv (.pair (.slice (.int .u32)) (.pair (.slice (.int .i64)) (.pair (.int .i64) .unit))))],1⟩
inductive Sp.E_74_130_0_0 where
 |e0 (p2:Int) (p3:List Int×List Int×Int×Unit)
 |e1 (p3:List Int×List Int×Int×Unit)
noncomputable def Sp.B_74_130_0_0{R:Type}(r:Option E_74_130_0_0)(k0:Int->(List Int×List Int×Int×Unit)->Option R)(k1:(List Int×List Int×Int×Unit)->Option R):Option R:=match r with
 |none=>none
 |some (.e0 p2 p3)=>k0 p2 p3
 |some (.e1 p3)=>k1 p3
noncomputable def Y_74_130_0_0{R:Type}(k:Ex->St->Option R):E_74_130_0_0->Option R
 | .e0 p2 p3=>k Ex.ret (sx 19 [(4,CV.int i64 p2)] [Blk.mem (CV.pure (Ty.pair (Ty.slice (Ty.int u32)) (Ty.pair (Ty.slice (Ty.int i64)) (Ty.pair (Ty.int i64) Ty.unit))) p3)] 1)
 | .e1 p3=>k (Ex.exit 0) (sx 19 [] [Blk.mem (CV.pure (Ty.pair (Ty.slice (Ty.int u32)) (Ty.pair (Ty.slice (Ty.int i64)) (Ty.pair (Ty.int i64) Ty.unit))) p3)] 1)
noncomputable def Sp.S_74_130_0_0{R:Type}(K:List Int->Int->Int->(List Int×List Int×Int×Unit)->Option R)(k:E_74_130_0_0->Option R)(p0:List Int)(p1 p2:Int)(p3:List Int×List Int×Int×Unit):Option R:=
 bif decide (p2<p1)then gd (inB p2 (length p0)) (bif decide (getD p0 (toNat p2) (0:Int)<(0:Int))then k (E_74_130_0_0.e0 p2 p3)else bif decide (getD p0 (toNat p2) 0>p3.2.2.1)then k (E_74_130_0_0.e0 p2 p3)else K p0 p1 (wrap i64 (p2+1)) p3)else k (E_74_130_0_0.e1 p3)
noncomputable def Sp.L_74_130_0_0:Nat->List Int->Int->Int->(List Int×List Int×Int×Unit)->Option E_74_130_0_0
 |0,_,_,_,_=>none
 |m+1,p0,p1,p2,p3=>S_74_130_0_0 (L_74_130_0_0 m) some p0 p1 p2 p3
noncomputable def l_74_130_0_0(m:Nat)(a:T_74_130_0_0.E):Option E_74_130_0_0:=L_74_130_0_0 m a.1 a.2.1 a.2.2.1 a.2.2.2.1
noncomputable def O_74_130_0_0{R:Type}:Orc R:=orL T_74_130_0_0 (l_74_130_0_0 FU) Y_74_130_0_0
theorem OK_74_130_0_0{R:Type}:okF (R:=R) sm_74 2 (nf 130 0) O_74_130_0_0:=lp0 T_74_130_0_0 l_74_130_0_0 (fun R K k a=>S_74_130_0_0 (fun p0 p1 p2 p3=>K (p0,p1,p2,p3,())) k a.1 a.2.1 a.2.2.1 a.2.2.2.1) Y_74_130_0_0 (fun _ _ _=>by kernel_rfl) (fun _ _ _=>by
 unfold S_74_130_0_0
 repeat' first|apply gdN|apply condN|rfl) (ok0 _)
noncomputable def g_74_130{R:Type}:List CV->List Blk->(CV->List Blk->Option R)->Option R:=evFnL sm_74 FU (ovr noO (evFn sm_74 fns FU 2)) (mkT (fB fns 130) [O_74_130_0_0]) (fO fns 130)
theorem g_74_130_ok{R:Type}(args:List CV)(hp:List Blk)(k:CV->List Blk->Option R)(r:R)(h:g_74_130 args hp k=some r):evFn sm_74 fns FU 3 130 args hp k=some r:=runG noO_ok (os:=[O_74_130_0_0]) ⟨OK_74_130_0_0,trivial⟩ h
noncomputable def ov_74_110{R:Type}:Nat->Option (List CV->List Blk->(CV->List Blk->Option R)->Option R):=fun f'=>bif Nat.beq f' 130 then some g_74_130 else none
theorem ov_74_110_ok{R:Type}:OvrOK (R:=R) ov_74_110 (evFn sm_74 fns FU 3):=by
 intro f' g h args hp k r hg
 dsimp only[ov_74_110]at h
 by_cases h130:f'=130
 ·subst h130
  injection h with h
  subst h
  exact evFn_le 0 (g_74_130_ok _ _ _ _ hg)
 rw[nbeq_ne h130,cond_false]at h
 cases h
noncomputable def g_74_110{R:Type}:List CV->List Blk->(CV->List Blk->Option R)->Option R:=evFnL sm_74 FU (ovr ov_74_110 (evFn sm_74 fns FU 3)) (mkT (fB fns 110) []) (fO fns 110)
theorem g_74_110_ok{R:Type}(args:List CV)(hp:List Blk)(k:CV->List Blk->Option R)(r:R)(h:g_74_110 args hp k=some r):evFn sm_74 fns FU 4 110 args hp k=some r:=runG ov_74_110_ok (os:=[]) trivial h
noncomputable def ov_74_74{R:Type}:Nat->Option (List CV->List Blk->(CV->List Blk->Option R)->Option R):=fun f'=>bif Nat.beq f' 110 then some g_74_110 else none
theorem ov_74_74_ok{R:Type}:OvrOK (R:=R) ov_74_74 (evFn sm_74 fns FU 4):=by
 intro f' g h args hp k r hg
 dsimp only[ov_74_74]at h
 by_cases h110:f'=110
 ·subst h110
  injection h with h
  subst h
  exact evFn_le 0 (g_74_110_ok _ _ _ _ hg)
 rw[nbeq_ne h110,cond_false]at h
 cases h
noncomputable def F_74(a0:((List Int)×((List Int)×(Int×Unit)))):Option (Bool×Unit) :=
 bif decide ((↑(length (a0.2.1)):Int)<1)then some (false,PUnit.unit)else bif decide ((↑(length (a0.2.1)):Int)>64)then some (false,PUnit.unit)else bif(↑(length (a0.1)):Int)!=wrap i64 ((↑(length (a0.2.1)):Int)*64)then some (false,PUnit.unit)else bif decide (a0.2.2.1<1)then some (false,PUnit.unit)else bif decide (a0.2.2.1>1000000)then some (false,PUnit.unit)else B_74_130_0_0 (L_74_130_0_0 4611686018427387904 (a0.2.1) (↑(length (a0.2.1)):Int) 0 a0) (fun y23 y24=>some (!decide (y23>=0),PUnit.unit)) fun y25=>some (true,PUnit.unit)
noncomputable def Sp.p_74(a0:((List Int)×((List Int)×(Int×Unit)))):Bool:=(F_74 a0).isSome
noncomputable def Sp.v_74(a0:((List Int)×((List Int)×(Int×Unit)))):Bool×Unit:=(F_74 a0).getD (dfH R_74)
noncomputable def s_74:Summ:=shN A_74 R_74 (fun x=>p_74 x.1) (fun x=>v_74 x.1)
theorem pv_74(a0:((List Int)×((List Int)×(Int×Unit)))){y:Bool×Unit}(h:F_74 a0=some y):p_74 a0=true/\v_74 a0=y:=pvG h
theorem run_74(x:HDen A_74)(y:HDen R_74)(h:F_74 x.1=some y):rnF sm_74 5 74 A_74 R_74 x y:=runG ov_74_74_ok (os:=[]) trivial (Eq.trans (by kernel_rfl) h)
end
noncomputable section
abbrev A_75:List Ty:=[(.int .i64)]
abbrev R_75:List Ty:=[.bool]
noncomputable def sm_75:Nat->Option Summ:=smL []
noncomputable def F_75(a0:Int):Option (Bool×Unit) :=
 bif Int.tmod a0 (2:Int)==(0:Int)then bif decide (a0>=18)then some (decide (a0<=64),PUnit.unit)else some (false,PUnit.unit)else some (false,PUnit.unit)
noncomputable def Sp.p_75(a0:Int):Bool:=(F_75 a0).isSome
noncomputable def Sp.v_75(a0:Int):Bool×Unit:=(F_75 a0).getD (dfH R_75)
noncomputable def s_75:Summ:=shN A_75 R_75 (fun x=>p_75 x.1) (fun x=>v_75 x.1)
theorem pv_75(a0:Int){y:Bool×Unit}(h:F_75 a0=some y):p_75 a0=true/\v_75 a0=y:=pvG h
theorem run_75(x:HDen A_75)(y:HDen R_75)(h:F_75 x.1=some y):rnF sm_75 1 75 A_75 R_75 x y:=runG noO_ok (os:=[]) trivial (Eq.trans (by kernel_rfl) h)
end
noncomputable section
abbrev A_29:List Ty:=[(.pair (.pair (.slice (.int .u32)) (.pair (.slice (.int .i64)) (.pair (.int .i64) .unit))) (.pair (.arr 32 (.int .u8)) .unit))]
abbrev R_29:List Ty:=[.bool]
noncomputable def sm_29:Nat->Option Summ:=smL [(74,s_74),(75,s_75)]
noncomputable def F_29(a0:(((List Int)×((List Int)×(Int×Unit)))×((List Int)×Unit))):Option (Bool×Unit) :=
 gd (p_74 (a0.1)) (bif(v_74 (a0.1)).1 then gd (p_75 (↑(length (a0.1.2.1)):Int)) (some ((v_75 (↑(length (a0.1.2.1)):Int)).1,PUnit.unit))else some (false,PUnit.unit))
noncomputable def Sp.p_29(a0:(((List Int)×((List Int)×(Int×Unit)))×((List Int)×Unit))):Bool:=(F_29 a0).isSome
noncomputable def Sp.v_29(a0:(((List Int)×((List Int)×(Int×Unit)))×((List Int)×Unit))):Bool×Unit:=(F_29 a0).getD (dfH R_29)
noncomputable def s_29:Summ:=shN A_29 R_29 (fun x=>p_29 x.1) (fun x=>v_29 x.1)
theorem pv_29(a0:(((List Int)×((List Int)×(Int×Unit)))×((List Int)×Unit))){y:Bool×Unit}(h:F_29 a0=some y):p_29 a0=true/\v_29 a0=y:=pvG h
theorem run_29(x:HDen A_29)(y:HDen R_29)(h:F_29 x.1=some y):rnF sm_29 1 29 A_29 R_29 x y:=runG noO_ok (os:=[]) trivial (Eq.trans (by kernel_rfl) h)
end
noncomputable section
abbrev A_83:List Ty:=[(.pair (.int .i64) (.pair (.slice (.arr 32 (.int .u8))) (.pair (.slice (.arr 32 (.int .u8))) .unit)))]
abbrev R_83:List Ty:=[.bool]
noncomputable def sm_83:Nat->Option Summ:=smL []
noncomputable def F_83(a0:(Int×((List (List Int))×((List (List Int))×Unit)))):Option (Bool×Unit) :=
 bif decide (a0.1>=0)then bif decide (a0.1<4)then bif(↑(length (a0.2.1)):Int)==67 then some ((↑(length (a0.2.2.1)):Int)==2,PUnit.unit)else some (false,PUnit.unit)else some (false,PUnit.unit)else some (false,PUnit.unit)
noncomputable def Sp.p_83(a0:(Int×((List (List Int))×((List (List Int))×Unit)))):Bool:=(F_83 a0).isSome
noncomputable def Sp.v_83(a0:(Int×((List (List Int))×((List (List Int))×Unit)))):Bool×Unit:=(F_83 a0).getD (dfH R_83)
noncomputable def s_83:Summ:=shN A_83 R_83 (fun x=>p_83 x.1) (fun x=>v_83 x.1)
theorem pv_83(a0:(Int×((List (List Int))×((List (List Int))×Unit)))){y:Bool×Unit}(h:F_83 a0=some y):p_83 a0=true/\v_83 a0=y:=pvG h
theorem run_83(x:HDen A_83)(y:HDen R_83)(h:F_83 x.1=some y):rnF sm_83 1 83 A_83 R_83 x y:=runG noO_ok (os:=[]) trivial (Eq.trans (by kernel_rfl) h)
end
noncomputable section
abbrev A_119:List Ty:=[(.slice (.int .u8))]
abbrev R_119:List Ty:=[(.int .u32)]
noncomputable def sm_119:Nat->Option Summ:=smL []
noncomputable def F_119(a0:(List Int)):Option (Int×Unit) :=
 gd (inB 0 (length a0)) (gd (inB 1 (length a0)) (gd (inB 2 (length a0)) (gd (inB 3 (length a0)) (some (Sp.orI u32 (Sp.orI u32 (Sp.orI u32 (wrap u32 (wrap u32 (getD a0 0 0)*16777216)) (wrap u32 (wrap u32 (getD a0 1 0)*65536))) (wrap u32 (wrap u32 (getD a0 2 0)*256))) (wrap u32 (getD a0 3 0)),PUnit.unit)))))
noncomputable def Sp.p_119(a0:(List Int)):Bool:=(F_119 a0).isSome
noncomputable def Sp.v_119(a0:(List Int)):Int×Unit:=(F_119 a0).getD (dfH R_119)
noncomputable def s_119:Summ:=shN A_119 R_119 (fun x=>p_119 x.1) (fun x=>v_119 x.1)
theorem pv_119(a0:(List Int)){y:Int×Unit}(h:F_119 a0=some y):p_119 a0=true/\v_119 a0=y:=pvG h
theorem run_119(x:HDen A_119)(y:HDen R_119)(h:F_119 x.1=some y):rnF sm_119 1 119 A_119 R_119 x y:=runG noO_ok (os:=[]) trivial (Eq.trans (by kernel_rfl) h)
end
noncomputable section
abbrev Zt81_0:Type:=List (List (List Int))
abbrev A_81:List Ty:=[(.pair (.int .i64) (.pair (.slice (.arr 32 (.int .u8))) (.pair (.slice (.arr 32 (.int .u8))) .unit)))]
abbrev R_81:List Ty:=[(.slice (.int .u32)),(.int .i64)]
noncomputable def sm_81:Nat->Option Summ:=smL [(83,s_83),(119,s_119)]
noncomputable def T_81_2:PS:=⟨46,[(4,.kc (.whole 0)),(8,.kc (.ptr 1 [])),(9,.hv (.int .i64)),(21,.kc (.whole 2)),(22,.hv (.int .i64)),(23,.hv (.int .i64)),(27,.hv (.slice (.arr 32 (.int .u8)))),(28,.hv (.int .i64)),(29,.hv (.int .i64))],[.vec 37 (.int .u32),.mem (.hv (.arr 32 (.int .u8))),.vec 24 (.slice (.arr 32 (.int .u8)))],0⟩
inductive Sp.E_81_2 where
 |e0 (p1 p2:Int) (p3:List (List Int)) (p4 p5:Int) (p6:List Int) (p8:Zt81_0)
noncomputable def Sp.B_81_2{R:Type}(r:Option E_81_2)(k0:Int->Int->List (List Int)->Int->Int->List Int->Zt81_0->Option R):Option R:=match r with
 |none=>none
 |some (.e0 p1 p2 p3 p4 p5 p6 p8)=>k0 p1 p2 p3 p4 p5 p6 p8
theorem Bn_81_2{A R:Type}{r:Option E_81_2}{f:A->Option R}{k0:Int->Int->List (List Int)->Int->Int->List Int->Zt81_0->Option A}{l0:Int->Int->List (List Int)->Int->Int->List Int->Zt81_0->Option R}(h0:∀p1 p2 p3 p4 p5 p6 p8,(k0 p1 p2 p3 p4 p5 p6 p8).bind f=l0 p1 p2 p3 p4 p5 p6 p8):(B_81_2 r k0).bind f=B_81_2 r l0:=by
 cases r with
 |none=>rfl
 |some e=>cases e<;>first|apply h0
noncomputable def Y_81_2{R:Type}(k:Ex->St->Option R):E_81_2->Option R
 | .e0 p1 p2 p3 p4 p5 p6 p8=>k (Ex.exit 4) (sx 46 [(4,CV.whole 0),(21,CV.whole 1),(22,CV.int i64 p1),(23,CV.int i64 p2),(27,CV.pure (Ty.slice (Ty.arr 32 (Ty.int u8))) p3),(28,CV.int i64 p4),(29,CV.int i64 p5)] [Blk.vec 37 (Ty.int u32) p6,Blk.vec 24 (Ty.slice (Ty.arr 32 (Ty.int u8))) p8])
noncomputable def Sp.S_81_2{R:Type}(K:Int->Int->Int->List (List Int)->Int->Int->List Int->List Int->(List (List (List Int)))->Option R)(k:E_81_2->Option R)(p0 p1 p2:Int)(p3:List (List Int))(p4 p5:Int)(p6 p7:List Int)(p8:List (List (List Int))):Option R:=
 bif decide (p0<32)then gd (sl3 p0 32 32) (gd (decide (toNat p0+(32-toNat p0)<=32)&&true&&p_119 (take (32-toNat p0) (drop (toNat p0) p7))) (gd (room (length p6+1) 4) (K (wrap i64 (p0+4)) p1 p2 p3 p4 p5 (p6++[(v_119 (take (32-toNat p0) (drop (toNat p0) p7))).1]) p7 p8)))else k (E_81_2.e0 p1 p2 p3 p4 p5 p6 p8)
noncomputable def Sp.L_81_2:Nat->Int->Int->Int->List (List Int)->Int->Int->List Int->List Int->(List (List (List Int)))->Option E_81_2
 |0,_,_,_,_,_,_,_,_,_=>none
 |m+1,p0,p1,p2,p3,p4,p5,p6,p7,p8=>S_81_2 (L_81_2 m) some p0 p1 p2 p3 p4 p5 p6 p7 p8
noncomputable def l_81_2(m:Nat)(a:T_81_2.E):Option E_81_2:=L_81_2 m a.1 a.2.1 a.2.2.1 a.2.2.2.1 a.2.2.2.2.1 a.2.2.2.2.2.1 a.2.2.2.2.2.2.1 a.2.2.2.2.2.2.2.1 a.2.2.2.2.2.2.2.2.1
noncomputable def O_81_2{R:Type}:Orc R:=orL T_81_2 (l_81_2 FU) Y_81_2
theorem OK_81_2{R:Type}:okF (R:=R) sm_81 0 (ni (ni (nf 81 0) 0) 0) O_81_2:=lp0 T_81_2 l_81_2 (fun R K k a=>S_81_2 (fun p0 p1 p2 p3 p4 p5 p6 p7 p8=>K (p0,p1,p2,p3,p4,p5,p6,p7,p8,())) k a.1 a.2.1 a.2.2.1 a.2.2.2.1 a.2.2.2.2.1 a.2.2.2.2.2.1 a.2.2.2.2.2.2.1 a.2.2.2.2.2.2.2.1 a.2.2.2.2.2.2.2.2.1) Y_81_2 (fun _ _ _=>by kernel_rfl) (fun _ _ _=>by
 unfold S_81_2
 repeat' first|apply gdN|apply condN|rfl) (ok0 _)
noncomputable def T_81_1:PS:=⟨46,[(4,.kc (.whole 0)),(21,.kc (.whole 1)),(22,.hv (.int .i64)),(23,.hv (.int .i64)),(27,.hv (.slice (.arr 32 (.int .u8)))),(28,.hv (.int .i64)),(29,.hv (.int .i64))],[.vec 37 (.int .u32),.vec 24 (.slice (.arr 32 (.int .u8)))],0⟩
inductive Sp.E_81_1 where
 |e0 (p0 p1:Int) (p5:List Int) (p6:Zt81_0)
noncomputable def Sp.B_81_1{R:Type}(r:Option E_81_1)(k0:Int->Int->List Int->Zt81_0->Option R):Option R:=match r with
 |none=>none
 |some (.e0 p0 p1 p5 p6)=>k0 p0 p1 p5 p6
theorem Bn_81_1{A R:Type}{r:Option E_81_1}{f:A->Option R}{k0:Int->Int->List Int->Zt81_0->Option A}{l0:Int->Int->List Int->Zt81_0->Option R}(h0:∀p0 p1 p5 p6,(k0 p0 p1 p5 p6).bind f=l0 p0 p1 p5 p6):(B_81_1 r k0).bind f=B_81_1 r l0:=by
 cases r with
 |none=>rfl
 |some e=>cases e<;>first|apply h0
noncomputable def Y_81_1{R:Type}(k:Ex->St->Option R):E_81_1->Option R
 | .e0 p0 p1 p5 p6=>k (Ex.exit 2) (sx 46 [(4,CV.whole 0),(21,CV.whole 1),(22,CV.int i64 p0),(23,CV.int i64 p1)] [Blk.vec 37 (Ty.int u32) p5,Blk.vec 24 (Ty.slice (Ty.arr 32 (Ty.int u8))) p6])
noncomputable def Sp.S_81_1{R:Type}(K:Int->Int->List (List Int)->Int->Int->List Int->(List (List (List Int)))->Option R)(k:E_81_1->Option R)(p0 p1:Int)(p2:List (List Int))(p3 p4:Int)(p5:List Int)(p6:List (List (List Int))):Option R:=
 bif decide (p4<p3)then gd (inB p4 (length p2)) (B_81_2 (L_81_2 4611686018427387904 0 p0 p1 p2 p3 p4 p5 (getD p2 (toNat p4) (Ty.dflt (Ty.arr 32 (Ty.int u8)))) p6) fun y7 y8 y9 y10 y11 y12 y13=>K y7 y8 y9 y10 (wrap i64 (y11+1)) y12 y13)else k (E_81_1.e0 p0 p1 p5 p6)
noncomputable def Sp.L_81_1:Nat->Int->Int->List (List Int)->Int->Int->List Int->(List (List (List Int)))->Option E_81_1
 |0,_,_,_,_,_,_,_=>none
 |m+1,p0,p1,p2,p3,p4,p5,p6=>S_81_1 (L_81_1 m) some p0 p1 p2 p3 p4 p5 p6
noncomputable def l_81_1(m:Nat)(a:T_81_1.E):Option E_81_1:=L_81_1 m a.1 a.2.1 a.2.2.1 a.2.2.2.1 a.2.2.2.2.1 a.2.2.2.2.2.1 a.2.2.2.2.2.2.1
noncomputable def O_81_1{R:Type}:Orc R:=orL T_81_1 (l_81_1 FU) Y_81_1
theorem OK_81_1{R:Type}:okF (R:=R) sm_81 0 (ni (nf 81 0) 0) O_81_1:=lp noO_ok (os:=[O_81_2]) ⟨OK_81_2,trivial⟩ T_81_1 l_81_1 (fun R K k a=>S_81_1 (fun p0 p1 p2 p3 p4 p5 p6=>K (p0,p1,p2,p3,p4,p5,p6,())) k a.1 a.2.1 a.2.2.1 a.2.2.2.1 a.2.2.2.2.1 a.2.2.2.2.2.1 a.2.2.2.2.2.2.1) Y_81_1 (fun _=>rfl) (fun _ _=>rfl) (fun k K a=>by kernel_rfl) (fun Y K a=>by
 unfold S_81_1
 repeat' first|apply gdN|apply condN|(apply Bn_81_2<;>intros)|rfl) (ok0 _)
noncomputable def T_81_0:PS:=⟨46,[(4,.kc (.whole 0)),(21,.kc (.whole 1)),(22,.hv (.int .i64)),(23,.hv (.int .i64))],[.vec 37 (.int .u32),.vec 24 (.slice (.arr 32 (.int .u8)))],0⟩
inductive Sp.E_81_0 where
 |e0 (p2:List Int)
noncomputable def Sp.B_81_0{R:Type}(r:Option E_81_0)(k0:List Int->Option R):Option R:=match r with
 |none=>none
 |some (.e0 p2)=>k0 p2
noncomputable def Y_81_0{R:Type}(k:Ex->St->Option R):E_81_0->Option R
 | .e0 p2=>k (Ex.exit 0) (sx 46 [(4,CV.whole 0)] [Blk.vec 37 (Ty.int u32) p2])
noncomputable def Sp.S_81_0{R:Type}(K:Int->Int->List Int->(List (List (List Int)))->Option R)(k:E_81_0->Option R)(p0 p1:Int)(p2:List Int)(p3:List (List (List Int))):Option R:=
 bif decide (p1<p0)then gd (inB p1 (length p3)) (gd (decide (toNat p1<length p3)&&true) (B_81_1 (L_81_1 4611686018427387904 p0 p1 (getD p3 (toNat p1) (Ty.dflt (Ty.slice (Ty.arr 32 (Ty.int u8))))) (↑(length (getD p3 (toNat p1) (Ty.dflt (Ty.slice (Ty.arr 32 (Ty.int u8)))))):Int) 0 p2 p3) fun y4 y5 y6 y7=>K y4 (wrap i64 (y5+1)) y6 y7))else k (E_81_0.e0 p2)
noncomputable def Sp.L_81_0:Nat->Int->Int->List Int->(List (List (List Int)))->Option E_81_0
 |0,_,_,_,_=>none
 |m+1,p0,p1,p2,p3=>S_81_0 (L_81_0 m) some p0 p1 p2 p3
noncomputable def l_81_0(m:Nat)(a:T_81_0.E):Option E_81_0:=L_81_0 m a.1 a.2.1 a.2.2.1 a.2.2.2.1
noncomputable def O_81_0{R:Type}:Orc R:=orL T_81_0 (l_81_0 FU) Y_81_0
theorem OK_81_0{R:Type}:okF (R:=R) sm_81 0 (nf 81 0) O_81_0:=lp noO_ok (os:=[O_81_1]) ⟨OK_81_1,trivial⟩ T_81_0 l_81_0 (fun R K k a=>S_81_0 (fun p0 p1 p2 p3=>K (p0,p1,p2,p3,())) k a.1 a.2.1 a.2.2.1 a.2.2.2.1) Y_81_0 (fun _=>rfl) (fun _ _=>rfl) (fun k K a=>by kernel_rfl) (fun Y K a=>by
 unfold S_81_0
 repeat' first|apply gdN|apply condN|(apply Bn_81_1<;>intros)|rfl) (ok0 _)
noncomputable def F_81(a0:(Int×((List (List Int))×((List (List Int))×Unit)))):Option ((List Int)×Int×Unit) :=
 gd (p_83 a0) (bif !(v_83 a0).1 then some ([],1,PUnit.unit)else B_81_0 (L_81_0 4611686018427387904 (↑(2:Nat):Int) 0 [wrap u32 (a0.1)] [a0.2.1,a0.2.2.1]) fun y1=>some (y1,0,PUnit.unit))
noncomputable def Sp.p_81(a0:(Int×((List (List Int))×((List (List Int))×Unit)))):Bool:=(F_81 a0).isSome
noncomputable def Sp.v_81(a0:(Int×((List (List Int))×((List (List Int))×Unit)))):(List Int)×Int×Unit:=(F_81 a0).getD (dfH R_81)
noncomputable def s_81:Summ:=shS A_81 R_81 (fun x=>p_81 x.1) (fun x=>v_81 x.1)
theorem pv_81(a0:(Int×((List (List Int))×((List (List Int))×Unit)))){y:(List Int)×Int×Unit}(h:F_81 a0=some y):p_81 a0=true/\v_81 a0=y:=pvG h
theorem run_81(x:HDen A_81)(y:HDen R_81)(h:F_81 x.1=some y):rnF sm_81 1 81 A_81 R_81 x y:=runG noO_ok (os:=[O_81_0]) ⟨OK_81_0,trivial⟩ (Eq.trans (by kernel_rfl) h)
end
noncomputable section
abbrev A_40:List Ty:=[(.pair (.int .i64) (.pair (.int .i64) (.pair (.arr 32 (.int .u8)) (.pair (.pair (.int .i64) (.pair (.slice (.arr 32 (.int .u8))) (.pair (.slice (.arr 32 (.int .u8))) .unit))) .unit)))),(.int .i64)]
abbrev R_40:List Ty:=[.bool]
noncomputable def sm_40:Nat->Option Summ:=smL [(81,s_81)]
noncomputable def F_40(a0:(Int×(Int×((List Int)×((Int×((List (List Int))×((List (List Int))×Unit)))×Unit)))))(a1:Int):Option (Bool×Unit) :=
 gd (p_81 (a0.2.2.2.1)) (bif decide (a0.1>=1)then bif decide (a0.1<=2147483647)then bif decide (a0.2.1>=1)then bif decide (a0.2.1<=a1)then some ((v_81 (a0.2.2.2.1)).2.1==0,PUnit.unit)else some (false,PUnit.unit)else some (false,PUnit.unit)else some (false,PUnit.unit)else some (false,PUnit.unit))
noncomputable def Sp.p_40(a0:(Int×(Int×((List Int)×((Int×((List (List Int))×((List (List Int))×Unit)))×Unit)))))(a1:Int):Bool:=(F_40 a0 a1).isSome
noncomputable def Sp.v_40(a0:(Int×(Int×((List Int)×((Int×((List (List Int))×((List (List Int))×Unit)))×Unit)))))(a1:Int):Bool×Unit:=(F_40 a0 a1).getD (dfH R_40)
noncomputable def s_40:Summ:=shN A_40 R_40 (fun x=>p_40 x.1 x.2.1) (fun x=>v_40 x.1 x.2.1)
theorem pv_40(a0:(Int×(Int×((List Int)×((Int×((List (List Int))×((List (List Int))×Unit)))×Unit)))))(a1:Int){y:Bool×Unit}(h:F_40 a0 a1=some y):p_40 a0 a1=true/\v_40 a0 a1=y:=pvG h
theorem run_40(x:HDen A_40)(y:HDen R_40)(h:F_40 x.1 x.2.1=some y):rnF sm_40 1 40 A_40 R_40 x y:=runG noO_ok (os:=[]) trivial (Eq.trans (by kernel_rfl) h)
end
noncomputable section
abbrev A_43:List Ty:=[(.pair (.int .i64) (.pair (.int .i64) (.pair (.int .i64) (.pair (.pair (.int .i64) (.pair (.int .i64) (.pair (.arr 32 (.int .u8)) (.pair (.pair (.int .i64) (.pair (.slice (.arr 32 (.int .u8))) (.pair (.slice (.arr 32 (.int .u8))) .unit))) .unit)))) .unit))))]
abbrev R_43:List Ty:=[.bool]
noncomputable def sm_43:Nat->Option Summ:=smL []
noncomputable def F_43(a0:(Int×(Int×(Int×((Int×(Int×((List Int)×((Int×((List (List Int))×((List (List Int))×Unit)))×Unit))))×Unit))))):Option (Bool×Unit) :=
 bif a0.1==0 then bif a0.2.1==0 then bif a0.2.2.1==0 then bif a0.2.2.2.1.1==0 then bif a0.2.2.2.1.2.1==0 then bif Ty.beq (Ty.arr 32 (Ty.int u8)) (a0.2.2.2.1.2.2.1) (replicate 32 (0:Int))then bif a0.2.2.2.1.2.2.2.1.1==0 then bif(↑(length (a0.2.2.2.1.2.2.2.1.2.1)):Int)==0 then some ((↑(length (a0.2.2.2.1.2.2.2.1.2.2.1)):Int)==0,PUnit.unit)else some (false,PUnit.unit)else some (false,PUnit.unit)else some (false,PUnit.unit)else some (false,PUnit.unit)else some (false,PUnit.unit)else some (false,PUnit.unit)else some (false,PUnit.unit)else some (false,PUnit.unit)
noncomputable def Sp.p_43(a0:(Int×(Int×(Int×((Int×(Int×((List Int)×((Int×((List (List Int))×((List (List Int))×Unit)))×Unit))))×Unit))))):Bool:=(F_43 a0).isSome
noncomputable def Sp.v_43(a0:(Int×(Int×(Int×((Int×(Int×((List Int)×((Int×((List (List Int))×((List (List Int))×Unit)))×Unit))))×Unit))))):Bool×Unit:=(F_43 a0).getD (dfH R_43)
noncomputable def s_43:Summ:=shN A_43 R_43 (fun x=>p_43 x.1) (fun x=>v_43 x.1)
theorem pv_43(a0:(Int×(Int×(Int×((Int×(Int×((List Int)×((Int×((List (List Int))×((List (List Int))×Unit)))×Unit))))×Unit))))){y:Bool×Unit}(h:F_43 a0=some y):p_43 a0=true/\v_43 a0=y:=pvG h
theorem run_43(x:HDen A_43)(y:HDen R_43)(h:F_43 x.1=some y):rnF sm_43 1 43 A_43 R_43 x y:=runG noO_ok (os:=[]) trivial (Eq.trans (by kernel_rfl) h)
end
noncomputable section
abbrev A_37:List Ty:=[(.pair (.int .i64) (.pair (.int .i64) (.pair (.int .i64) (.pair (.pair (.int .i64) (.pair (.int .i64) (.pair (.arr 32 (.int .u8)) (.pair (.pair (.int .i64) (.pair (.slice (.arr 32 (.int .u8))) (.pair (.slice (.arr 32 (.int .u8))) .unit))) .unit)))) .unit))))]
abbrev R_37:List Ty:=[.bool]
noncomputable def sm_37:Nat->Option Summ:=smL [(40,s_40),(43,s_43)]
noncomputable def T_37_0:PS:=⟨48,[(1,.kc (.ptr 0 []))],[.mem (.hv (.pair (.int .i64) (.pair (.int .i64) (.pair (.int .i64) (.pair (.pair (.int .i64) (.pair (.int .i64) (.pair (.arr 32 (.int .u8)) (.pair (.pair (.int .i64) (.pair (.slice (.arr 32 (.int .u8))) (.pair (.slice (.arr 32 (.int .u8))) .unit))) .unit)))) .unit)))))],0⟩
inductive Sp.E_37_0 where
 |e0 (p0:Int×Int×Int×(Int×Int×List Int×(Int×List (List Int)×List (List Int)×Unit)×Unit)×Unit)
 |e1
 |e2 (p0:Int×Int×Int×(Int×Int×List Int×(Int×List (List Int)×List (List Int)×Unit)×Unit)×Unit)
noncomputable def Sp.B_37_0{R:Type}(r:Option E_37_0)(k0:(Int×Int×Int×(Int×Int×List Int×(Int×List (List Int)×List (List Int)×Unit)×Unit)×Unit)->Option R)(k1:Option R)(k2:(Int×Int×Int×(Int×Int×List Int×(Int×List (List Int)×List (List Int)×Unit)×Unit)×Unit)->Option R):Option R:=match r with
 |none=>none
 |some (.e0 p0)=>k0 p0
 |some (.e1)=>k1
 |some (.e2 p0)=>k2 p0
noncomputable def Y_37_0{R:Type}(k:Ex->St->Option R):E_37_0->Option R
 | .e0 p0=>k Ex.ret (sx 48 [(2,CV.bool (Int.tmod (p0.2.2.1) (32:Int)==(0:Int)))] [])
 | .e1=>k Ex.ret (sx 48 [(2,CV.bool false)] [])
 | .e2 p0=>k Ex.ret (sx 48 [(2,CV.bool (p0.2.2.1==p0.2.2.2.1.2.1))] [])
noncomputable def Sp.S_37_0{R:Type}(k:E_37_0->Option R)(p0:Int×Int×Int×(Int×Int×List Int×(Int×List (List Int)×List (List Int)×Unit)×Unit)×Unit):Option R:=
 bif p0.1==1 then bif decide (p0.2.2.1>=0)then bif decide (p0.2.2.1<p0.2.2.2.1.2.1)then k (E_37_0.e0 p0)else k (E_37_0.e1)else k (E_37_0.e1)else bif p0.1==2 then k (E_37_0.e2 p0)else k (E_37_0.e1)
noncomputable def Sp.J_37_0(p0:Int×Int×Int×(Int×Int×List Int×(Int×List (List Int)×List (List Int)×Unit)×Unit)×Unit):Option E_37_0:=S_37_0 some p0
noncomputable def O_37_0{R:Type}:Orc R:=orL T_37_0 (fun a=>J_37_0 a.1) Y_37_0
theorem OK_37_0{R:Type}:okF (R:=R) sm_37 0 (nf 37 0) O_37_0:=jp noO_ok (os:=[]) trivial T_37_0 (fun R k a=>S_37_0 k a.1) Y_37_0 (fun k a=>by kernel_rfl) (fun Y a=>by
 unfold S_37_0
 repeat' first|apply gdN|apply condN|rfl) (ok0 _)
noncomputable def F_37(a0:(Int×(Int×(Int×((Int×(Int×((List Int)×((Int×((List (List Int))×((List (List Int))×Unit)))×Unit))))×Unit))))):Option (Bool×Unit) :=
 gd (p_43 a0) (bif(v_43 a0).1 then some (true,PUnit.unit)else bif a0.2.1 !=0 then bif a0.2.1 !=1 then some (false,PUnit.unit)else gd (p_40 (a0.2.2.2.1) 1484) (bif !(v_40 (a0.2.2.2.1) 1484).1 then some (false,PUnit.unit)else B_37_0 (J_37_0 a0) (fun y4=>some (Int.tmod (y4.2.2.1) (32:Int)==(0:Int),PUnit.unit)) (some (false,PUnit.unit)) fun y5=>some (y5.2.2.1==y5.2.2.2.1.2.1,PUnit.unit))else gd (p_40 (a0.2.2.2.1) 1484) (bif !(v_40 (a0.2.2.2.1) 1484).1 then some (false,PUnit.unit)else B_37_0 (J_37_0 a0) (fun y6=>some (Int.tmod (y6.2.2.1) (32:Int)==(0:Int),PUnit.unit)) (some (false,PUnit.unit)) fun y7=>some (y7.2.2.1==y7.2.2.2.1.2.1,PUnit.unit)))
noncomputable def Sp.p_37(a0:(Int×(Int×(Int×((Int×(Int×((List Int)×((Int×((List (List Int))×((List (List Int))×Unit)))×Unit))))×Unit))))):Bool:=(F_37 a0).isSome
noncomputable def Sp.v_37(a0:(Int×(Int×(Int×((Int×(Int×((List Int)×((Int×((List (List Int))×((List (List Int))×Unit)))×Unit))))×Unit))))):Bool×Unit:=(F_37 a0).getD (dfH R_37)
noncomputable def s_37:Summ:=shN A_37 R_37 (fun x=>p_37 x.1) (fun x=>v_37 x.1)
theorem pv_37(a0:(Int×(Int×(Int×((Int×(Int×((List Int)×((Int×((List (List Int))×((List (List Int))×Unit)))×Unit))))×Unit))))){y:Bool×Unit}(h:F_37 a0=some y):p_37 a0=true/\v_37 a0=y:=pvG h
theorem run_37(x:HDen A_37)(y:HDen R_37)(h:F_37 x.1=some y):rnF sm_37 1 37 A_37 R_37 x y:=runG noO_ok (os:=[O_37_0]) ⟨OK_37_0,trivial⟩ (Eq.trans (by kernel_rfl) h)
end
noncomputable section
abbrev A_39:List Ty:=[(.pair (.int .i64) (.pair (.int .u32) .unit))]
abbrev R_39:List Ty:=[.bool]
noncomputable def sm_39:Nat->Option Summ:=smL []
noncomputable def F_39(a0:(Int×(Int×Unit))):Option (Bool×Unit) :=
 bif decide (a0.1>=0)then some (decide (a0.1<=1099511627776),PUnit.unit)else some (false,PUnit.unit)
noncomputable def Sp.p_39(a0:(Int×(Int×Unit))):Bool:=(F_39 a0).isSome
noncomputable def Sp.v_39(a0:(Int×(Int×Unit))):Bool×Unit:=(F_39 a0).getD (dfH R_39)
noncomputable def s_39:Summ:=shN A_39 R_39 (fun x=>p_39 x.1) (fun x=>v_39 x.1)
theorem pv_39(a0:(Int×(Int×Unit))){y:Bool×Unit}(h:F_39 a0=some y):p_39 a0=true/\v_39 a0=y:=pvG h
theorem run_39(x:HDen A_39)(y:HDen R_39)(h:F_39 x.1=some y):rnF sm_39 1 39 A_39 R_39 x y:=runG noO_ok (os:=[]) trivial (Eq.trans (by kernel_rfl) h)
end
noncomputable section
abbrev A_41:List Ty:=[(.pair (.pair (.slice (.int .u32)) (.pair (.slice (.int .i64)) (.pair (.int .i64) .unit))) (.pair (.arr 32 (.int .u8)) .unit))]
abbrev R_41:List Ty:=[(.int .i64)]
noncomputable def sm_41:Nat->Option Summ:=smL []
noncomputable def F_41(a0:(((List Int)×((List Int)×(Int×Unit)))×((List Int)×Unit))):Option (Int×Unit) :=
 some (wrap i64 (Int.tdiv (↑(length (a0.1.1)):Int) 2),PUnit.unit)
noncomputable def Sp.p_41(a0:(((List Int)×((List Int)×(Int×Unit)))×((List Int)×Unit))):Bool:=(F_41 a0).isSome
noncomputable def Sp.v_41(a0:(((List Int)×((List Int)×(Int×Unit)))×((List Int)×Unit))):Int×Unit:=(F_41 a0).getD (dfH R_41)
noncomputable def s_41:Summ:=shN A_41 R_41 (fun x=>p_41 x.1) (fun x=>v_41 x.1)
theorem pv_41(a0:(((List Int)×((List Int)×(Int×Unit)))×((List Int)×Unit))){y:Int×Unit}(h:F_41 a0=some y):p_41 a0=true/\v_41 a0=y:=pvG h
theorem run_41(x:HDen A_41)(y:HDen R_41)(h:F_41 x.1=some y):rnF sm_41 1 41 A_41 R_41 x y:=runG noO_ok (os:=[]) trivial (Eq.trans (by kernel_rfl) h)
end
noncomputable section
abbrev A_42:List Ty:=[(.int .i64)]
abbrev R_42:List Ty:=[(.pair (.int .i64) (.pair (.int .i64) (.pair (.int .i64) (.pair (.pair (.int .i64) (.pair (.int .i64) (.pair (.arr 32 (.int .u8)) (.pair (.pair (.int .i64) (.pair (.slice (.arr 32 (.int .u8))) (.pair (.slice (.arr 32 (.int .u8))) .unit))) .unit)))) .unit)))),(.pair (.pair (.slice (.int .u32)) (.pair (.slice (.int .i64)) (.pair (.int .i64) .unit))) (.pair (.arr 32 (.int .u8)) .unit)),(.pair (.int .i64) (.pair (.int .u32) .unit)),(.int .i64)]
noncomputable def sm_42:Nat->Option Summ:=smL []
noncomputable def F_42(a0:Int):Option ((Int×(Int×(Int×((Int×(Int×((List Int)×((Int×((List (List Int))×((List (List Int))×Unit)))×Unit))))×Unit))))×(((List Int)×((List Int)×(Int×Unit)))×((List Int)×Unit))×(Int×(Int×Unit))×Int×Unit) :=
 some ((0,0,0,(0,0,replicate 32 (0:Int),(0,[],[],PUnit.unit),PUnit.unit),PUnit.unit),(([],[],0,PUnit.unit),replicate 32 (0:Int),PUnit.unit),(0,0,PUnit.unit),a0,PUnit.unit)
noncomputable def Sp.p_42(a0:Int):Bool:=(F_42 a0).isSome
noncomputable def Sp.v_42(a0:Int):(Int×(Int×(Int×((Int×(Int×((List Int)×((Int×((List (List Int))×((List (List Int))×Unit)))×Unit))))×Unit))))×(((List Int)×((List Int)×(Int×Unit)))×((List Int)×Unit))×(Int×(Int×Unit))×Int×Unit:=(F_42 a0).getD (dfH R_42)
noncomputable def s_42:Summ:=shS A_42 R_42 (fun x=>p_42 x.1) (fun x=>v_42 x.1)
theorem pv_42(a0:Int){y:(Int×(Int×(Int×((Int×(Int×((List Int)×((Int×((List (List Int))×((List (List Int))×Unit)))×Unit))))×Unit))))×(((List Int)×((List Int)×(Int×Unit)))×((List Int)×Unit))×(Int×(Int×Unit))×Int×Unit}(h:F_42 a0=some y):p_42 a0=true/\v_42 a0=y:=pvG h
theorem run_42(x:HDen A_42)(y:HDen R_42)(h:F_42 x.1=some y):rnF sm_42 1 42 A_42 R_42 x y:=runG noO_ok (os:=[]) trivial (Eq.trans (by kernel_rfl) h)
end
noncomputable section
abbrev A_109:List Ty:=[(.pair (.pair (.slice (.int .u32)) (.pair (.slice (.int .i64)) (.pair (.int .i64) .unit))) (.pair (.arr 32 (.int .u8)) .unit)),(.int .i64)]
abbrev R_109:List Ty:=[(.slice (.int .u32))]
noncomputable def sm_109:Nat->Option Summ:=smL []
noncomputable def F_109(a0:(((List Int)×((List Int)×(Int×Unit)))×((List Int)×Unit)))(a1:Int):Option ((List Int)×Unit) :=
 gd (sl3 (wrap i64 (a1*wrap i64 (Int.tdiv (↑(length (a0.1.1)):Int) 2))) (wrap i64 (wrap i64 (a1+1)*wrap i64 (Int.tdiv (↑(length (a0.1.1)):Int) 2))) (↑(length (a0.1.1)):Int)) (some (take (toNat (wrap i64 (wrap i64 (a1+1)*wrap i64 (Int.tdiv (↑(length (a0.1.1)):Int) 2)))-toNat (wrap i64 (a1*wrap i64 (Int.tdiv (↑(length (a0.1.1)):Int) 2)))) (drop (toNat (wrap i64 (a1*wrap i64 (Int.tdiv (↑(length (a0.1.1)):Int) 2)))) (a0.1.1)),PUnit.unit))
noncomputable def Sp.p_109(a0:(((List Int)×((List Int)×(Int×Unit)))×((List Int)×Unit)))(a1:Int):Bool:=(F_109 a0 a1).isSome
noncomputable def Sp.v_109(a0:(((List Int)×((List Int)×(Int×Unit)))×((List Int)×Unit)))(a1:Int):(List Int)×Unit:=(F_109 a0 a1).getD (dfH R_109)
noncomputable def s_109:Summ:=shS A_109 R_109 (fun x=>p_109 x.1 x.2.1) (fun x=>v_109 x.1 x.2.1)
theorem pv_109(a0:(((List Int)×((List Int)×(Int×Unit)))×((List Int)×Unit)))(a1:Int){y:(List Int)×Unit}(h:F_109 a0 a1=some y):p_109 a0 a1=true/\v_109 a0 a1=y:=pvG h
theorem run_109(x:HDen A_109)(y:HDen R_109)(h:F_109 x.1 x.2.1=some y):rnF sm_109 1 109 A_109 R_109 x y:=runG noO_ok (os:=[]) trivial (Eq.trans (by kernel_rfl) h)
end
noncomputable section
abbrev A_120:List Ty:=[(.int .i64)]
abbrev R_120:List Ty:=[.bool]
noncomputable def sm_120:Nat->Option Summ:=smL []
noncomputable def F_120(a0:Int):Option (Bool×Unit) :=
 bif a0==0 then some (true,PUnit.unit)else some (a0==1,PUnit.unit)
noncomputable def Sp.p_120(a0:Int):Bool:=(F_120 a0).isSome
noncomputable def Sp.v_120(a0:Int):Bool×Unit:=(F_120 a0).getD (dfH R_120)
noncomputable def s_120:Summ:=shN A_120 R_120 (fun x=>p_120 x.1) (fun x=>v_120 x.1)
theorem pv_120(a0:Int){y:Bool×Unit}(h:F_120 a0=some y):p_120 a0=true/\v_120 a0=y:=pvG h
theorem run_120(x:HDen A_120)(y:HDen R_120)(h:F_120 x.1=some y):rnF sm_120 1 120 A_120 R_120 x y:=runG noO_ok (os:=[]) trivial (Eq.trans (by kernel_rfl) h)
end
noncomputable section
abbrev A_135:List Ty:=[(.slice (.int .u32))]
abbrev R_135:List Ty:=[(.slice (.int .u8))]
noncomputable def sm_135:Nat->Option Summ:=smL []
noncomputable def T_135_0:PS:=⟨28,[(3,.kc (.whole 0)),(6,.hv (.slice (.int .u32))),(7,.hv (.int .i64)),(8,.hv (.int .i64))],[.vec 5 (.int .u8)],0⟩
inductive Sp.E_135_0 where
 |e0 (p3:List Int)
noncomputable def Sp.B_135_0{R:Type}(r:Option E_135_0)(k0:List Int->Option R):Option R:=match r with
 |none=>none
 |some (.e0 p3)=>k0 p3
noncomputable def Y_135_0{R:Type}(k:Ex->St->Option R):E_135_0->Option R
 | .e0 p3=>k (Ex.exit 0) (sx 28 [(3,CV.whole 0)] [Blk.vec 5 (Ty.int u8) p3])
noncomputable def Sp.S_135_0{R:Type}(K:List Int->Int->Int->List Int->Option R)(k:E_135_0->Option R)(p0:List Int)(p1 p2:Int)(p3:List Int):Option R:=
 bif decide (p2<p1)then gd (inB p2 (length p0)) (gd (room (length p3+4) 1) (K p0 p1 (wrap i64 (p2+1)) (p3++[wrap u8 (Int.fdiv (getD p0 (toNat p2) 0) 16777216),wrap u8 (Int.fdiv (getD p0 (toNat p2) 0) 65536),wrap u8 (Int.fdiv (getD p0 (toNat p2) 0) 256),wrap u8 (getD p0 (toNat p2) 0)])))else k (E_135_0.e0 p3)
noncomputable def Sp.L_135_0:Nat->List Int->Int->Int->List Int->Option E_135_0
 |0,_,_,_,_=>none
 |m+1,p0,p1,p2,p3=>S_135_0 (L_135_0 m) some p0 p1 p2 p3
noncomputable def l_135_0(m:Nat)(a:T_135_0.E):Option E_135_0:=L_135_0 m a.1 a.2.1 a.2.2.1 a.2.2.2.1
noncomputable def O_135_0{R:Type}:Orc R:=orL T_135_0 (l_135_0 FU) Y_135_0
theorem OK_135_0{R:Type}:okF (R:=R) sm_135 0 (nf 135 0) O_135_0:=lp0 T_135_0 l_135_0 (fun R K k a=>S_135_0 (fun p0 p1 p2 p3=>K (p0,p1,p2,p3,())) k a.1 a.2.1 a.2.2.1 a.2.2.2.1) Y_135_0 (fun _ _ _=>by kernel_rfl) (fun _ _ _=>by
 unfold S_135_0
 repeat' first|apply gdN|apply condN|rfl) (ok0 _)
noncomputable def F_135(a0:(List Int)):Option ((List Int)×Unit) :=
 B_135_0 (L_135_0 4611686018427387904 a0 (↑(length a0):Int) 0 []) fun y1=>some (y1,PUnit.unit)
noncomputable def Sp.p_135(a0:(List Int)):Bool:=(F_135 a0).isSome
noncomputable def Sp.v_135(a0:(List Int)):(List Int)×Unit:=(F_135 a0).getD (dfH R_135)
noncomputable def s_135:Summ:=shS A_135 R_135 (fun x=>p_135 x.1) (fun x=>v_135 x.1)
theorem pv_135(a0:(List Int)){y:(List Int)×Unit}(h:F_135 a0=some y):p_135 a0=true/\v_135 a0=y:=pvG h
theorem run_135(x:HDen A_135)(y:HDen R_135)(h:F_135 x.1=some y):rnF sm_135 1 135 A_135 R_135 x y:=runG noO_ok (os:=[O_135_0]) ⟨OK_135_0,trivial⟩ (Eq.trans (by kernel_rfl) h)
end
noncomputable section
abbrev Zt136_0:Type:=List (List Int)
abbrev A_136:List Ty:=[(.slice (.int .u32))]
abbrev R_136:List Ty:=[(.pair (.int .i64) (.pair (.slice (.arr 32 (.int .u8))) (.pair (.slice (.arr 32 (.int .u8))) .unit))),(.int .i64)]
noncomputable def sm_136:Nat->Option Summ:=smL []
noncomputable def T_136_1:PS:=⟨58,[(0,.hv (.slice (.int .u32))),(2,.kc (.ptr 0 [])),(4,.kc (.ptr 3 [])),(5,.hv (.int .i64)),(6,.kc (.ptr 6 [])),(23,.hv (.int .i64)),(26,.hv (.int .i64))],[.mem (.pr (.hv (.int .i64)) (.kc (.pair (.whole 1) (.pair (.whole 2) (.pure .unit PUnit.unit))))),.vec 23 (.arr 32 (.int .u8)),.vec 23 (.arr 32 (.int .u8)),.mem (.pr (.hv (.int .i64)) (.kc (.pair (.whole 4) (.pair (.whole 5) (.pure .unit PUnit.unit))))),.vec 23 (.arr 32 (.int .u8)),.vec 23 (.arr 32 (.int .u8)),.mem (.hv (.arr 32 (.int .u8)))],0⟩
inductive Sp.E_136_1 where
 |e0 (p0:List Int) (p1 p2 p4:Int) (p5 p6:Zt136_0) (p7:Int) (p8 p9:Zt136_0) (p10:List Int)
noncomputable def Sp.B_136_1{R:Type}(r:Option E_136_1)(k0:List Int->Int->Int->Int->Zt136_0->Zt136_0->Int->Zt136_0->Zt136_0->List Int->Option R):Option R:=match r with
 |none=>none
 |some (.e0 p0 p1 p2 p4 p5 p6 p7 p8 p9 p10)=>k0 p0 p1 p2 p4 p5 p6 p7 p8 p9 p10
theorem Bn_136_1{A R:Type}{r:Option E_136_1}{f:A->Option R}{k0:List Int->Int->Int->Int->Zt136_0->Zt136_0->Int->Zt136_0->Zt136_0->List Int->Option A}{l0:List Int->Int->Int->Int->Zt136_0->Zt136_0->Int->Zt136_0->Zt136_0->List Int->Option R}(h0:∀p0 p1 p2 p4 p5 p6 p7 p8 p9 p10,(k0 p0 p1 p2 p4 p5 p6 p7 p8 p9 p10).bind f=l0 p0 p1 p2 p4 p5 p6 p7 p8 p9 p10):(B_136_1 r k0).bind f=B_136_1 r l0:=by
 cases r with
 |none=>rfl
 |some e=>cases e<;>first|apply h0
noncomputable def Y_136_1{R:Type}(k:Ex->St->Option R):E_136_1->Option R
 | .e0 p0 p1 p2 p4 p5 p6 p7 p8 p9 p10=>k (Ex.exit 2) (sx 58 [(0,CV.pure (Ty.slice (Ty.int u32)) p0),(2,CV.ptr 0 []),(4,CV.ptr 3 []),(5,CV.int i64 p1),(6,CV.ptr 6 []),(23,CV.int i64 p2)] [Blk.mem (CV.pair (CV.int i64 p4) (CV.pair (CV.whole 1) (CV.pair (CV.whole 2) (CV.pure Ty.unit PUnit.unit)))),Blk.vec 23 (Ty.arr 32 (Ty.int u8)) p5,Blk.vec 23 (Ty.arr 32 (Ty.int u8)) p6,Blk.mem (CV.pair (CV.int i64 p7) (CV.pair (CV.whole 4) (CV.pair (CV.whole 5) (CV.pure Ty.unit PUnit.unit)))),Blk.vec 23 (Ty.arr 32 (Ty.int u8)) p8,Blk.vec 23 (Ty.arr 32 (Ty.int u8)) p9,Blk.mem (CV.pure (Ty.arr 32 (Ty.int u8)) p10)])
noncomputable def Sp.S_136_1{R:Type}(K:List Int->Int->Int->Int->Int->List (List Int)->List (List Int)->Int->List (List Int)->List (List Int)->List Int->Option R)(k:E_136_1->Option R)(p0:List Int)(p1 p2 p3 p4:Int)(p5 p6:List (List Int))(p7:Int)(p8 p9:List (List Int))(p10:List Int):Option R:=
 bif decide (p3<8)then gd (sl3 (wrap i64 (4*p3)) 32 32) (gd (inB (wrap i64 (wrap i64 (1+wrap i64 (8*p1))+p3)) (length p0)) (gd (inB 0 (32-toNat (wrap i64 (4*p3)))) (gd (decide (toNat (wrap i64 (4*p3))+(0:Nat)<(32:Nat))&&true) (gd (inB 1 (32-toNat (wrap i64 (4*p3)))) (gd (decide (toNat (wrap i64 (4*p3))+(1:Nat)<(32:Nat))&&true) (gd (inB 2 (32-toNat (wrap i64 (4*p3)))) (gd (decide (toNat (wrap i64 (4*p3))+(2:Nat)<(32:Nat))&&true) (gd (inB 3 (32-toNat (wrap i64 (4*p3)))) (gd (decide (toNat (wrap i64 (4*p3))+(3:Nat)<(32:Nat))&&true) (K p0 p1 p2 (wrap i64 (p3+1)) p4 p5 p6 p7 p8 p9 (List.set (List.set (List.set (List.set p10 (toNat (wrap i64 (4*p3))+0) (wrap u8 (Int.fdiv (getD p0 (toNat (wrap i64 (wrap i64 (1+wrap i64 (8*p1))+p3))) 0) 16777216))) (toNat (wrap i64 (4*p3))+1) (wrap u8 (Int.fdiv (getD p0 (toNat (wrap i64 (wrap i64 (1+wrap i64 (8*p1))+p3))) 0) 65536))) (toNat (wrap i64 (4*p3))+2) (wrap u8 (Int.fdiv (getD p0 (toNat (wrap i64 (wrap i64 (1+wrap i64 (8*p1))+p3))) 0) 256))) (toNat (wrap i64 (4*p3))+3) (wrap u8 (getD p0 (toNat (wrap i64 (wrap i64 (1+wrap i64 (8*p1))+p3))) 0)))))))))))))else k (E_136_1.e0 p0 p1 p2 p4 p5 p6 p7 p8 p9 p10)
noncomputable def Sp.L_136_1:Nat->List Int->Int->Int->Int->Int->List (List Int)->List (List Int)->Int->List (List Int)->List (List Int)->List Int->Option E_136_1
 |0,_,_,_,_,_,_,_,_,_,_,_=>none
 |m+1,p0,p1,p2,p3,p4,p5,p6,p7,p8,p9,p10=>S_136_1 (L_136_1 m) some p0 p1 p2 p3 p4 p5 p6 p7 p8 p9 p10
noncomputable def l_136_1(m:Nat)(a:T_136_1.E):Option E_136_1:=L_136_1 m a.1 a.2.1 a.2.2.1 a.2.2.2.1 a.2.2.2.2.1 a.2.2.2.2.2.1 a.2.2.2.2.2.2.1 a.2.2.2.2.2.2.2.1 a.2.2.2.2.2.2.2.2.1 a.2.2.2.2.2.2.2.2.2.1 a.2.2.2.2.2.2.2.2.2.2.1
noncomputable def O_136_1{R:Type}:Orc R:=orL T_136_1 (l_136_1 FU) Y_136_1
theorem OK_136_1{R:Type}:okF (R:=R) sm_136 1 (ni (nf 136 0) 0) O_136_1:=lp0 T_136_1 l_136_1 (fun R K k a=>S_136_1 (fun p0 p1 p2 p3 p4 p5 p6 p7 p8 p9 p10=>K (p0,p1,p2,p3,p4,p5,p6,p7,p8,p9,p10,())) k a.1 a.2.1 a.2.2.1 a.2.2.2.1 a.2.2.2.2.1 a.2.2.2.2.2.1 a.2.2.2.2.2.2.1 a.2.2.2.2.2.2.2.1 a.2.2.2.2.2.2.2.2.1 a.2.2.2.2.2.2.2.2.2.1 a.2.2.2.2.2.2.2.2.2.2.1) Y_136_1 (fun _ _ _=>by kernel_rfl) (fun _ _ _=>by
 unfold S_136_1
 repeat' first|apply gdN|apply condN|rfl) (ok0 _)
noncomputable def T_136_0:PS:=⟨58,[(0,.hv (.slice (.int .u32))),(2,.kc (.ptr 0 [])),(4,.kc (.ptr 3 [])),(23,.hv (.int .i64))],[.mem (.pr (.hv (.int .i64)) (.kc (.pair (.whole 1) (.pair (.whole 2) (.pure .unit PUnit.unit))))),.vec 23 (.arr 32 (.int .u8)),.vec 23 (.arr 32 (.int .u8)),.mem (.pr (.hv (.int .i64)) (.kc (.pair (.whole 4) (.pair (.whole 5) (.pure .unit PUnit.unit))))),.vec 23 (.arr 32 (.int .u8)),.vec 23 (.arr 32 (.int .u8))],0⟩
inductive Sp.E_136_0 where
 |e0 (p2:Int) (p3 p4:Zt136_0) (p5:Int) (p6 p7:Zt136_0)
noncomputable def Sp.B_136_0{R:Type}(r:Option E_136_0)(k0:Int->Zt136_0->Zt136_0->Int->Zt136_0->Zt136_0->Option R):Option R:=match r with
 |none=>none
 |some (.e0 p2 p3 p4 p5 p6 p7)=>k0 p2 p3 p4 p5 p6 p7
noncomputable def Y_136_0{R:Type}(k:Ex->St->Option R):E_136_0->Option R
 | .e0 p2 p3 p4 p5 p6 p7=>k (Ex.exit 0) (sx 58 [(2,CV.ptr 0 []),(4,CV.ptr 3 [])] [Blk.mem (CV.pair (CV.int i64 p2) (CV.pair (CV.whole 1) (CV.pair (CV.whole 2) (CV.pure Ty.unit PUnit.unit)))),Blk.vec 23 (Ty.arr 32 (Ty.int u8)) p3,Blk.vec 23 (Ty.arr 32 (Ty.int u8)) p4,Blk.mem (CV.pair (CV.int i64 p5) (CV.pair (CV.whole 4) (CV.pair (CV.whole 5) (CV.pure Ty.unit PUnit.unit)))),Blk.vec 23 (Ty.arr 32 (Ty.int u8)) p6,Blk.vec 23 (Ty.arr 32 (Ty.int u8)) p7])
noncomputable def Sp.S_136_0{R:Type}(K:List Int->Int->Int->List (List Int)->List (List Int)->Int->List (List Int)->List (List Int)->Option R)(k:E_136_0->Option R)(p0:List Int)(p1 p2:Int)(p3 p4:List (List Int))(p5:Int)(p6 p7:List (List Int)):Option R:=
 bif decide (p1<69)then B_136_1 (L_136_1 4611686018427387904 p0 p1 p1 0 p2 p3 p4 p5 p6 p7 (replicate 32 (0:Int))) fun y10 y11 y12 y13 y14 y15 y16 y17 y18 y19=>bif decide (y11<67)then gd (room (length y17+1) 32) (K y10 (wrap i64 (y12+1)) y13 y14 y15 y16 (y17++[y19]) y18)else gd (room (length y18+1) 32) (K y10 (wrap i64 (y12+1)) y13 y14 y15 y16 y17 (y18++[y19]))else k (E_136_0.e0 p2 p3 p4 p5 p6 p7)
noncomputable def Sp.L_136_0:Nat->List Int->Int->Int->List (List Int)->List (List Int)->Int->List (List Int)->List (List Int)->Option E_136_0
 |0,_,_,_,_,_,_,_,_=>none
 |m+1,p0,p1,p2,p3,p4,p5,p6,p7=>S_136_0 (L_136_0 m) some p0 p1 p2 p3 p4 p5 p6 p7
noncomputable def l_136_0(m:Nat)(a:T_136_0.E):Option E_136_0:=L_136_0 m a.1 a.2.1 a.2.2.1 a.2.2.2.1 a.2.2.2.2.1 a.2.2.2.2.2.1 a.2.2.2.2.2.2.1 a.2.2.2.2.2.2.2.1
noncomputable def O_136_0{R:Type}:Orc R:=orL T_136_0 (l_136_0 FU) Y_136_0
theorem OK_136_0{R:Type}:okF (R:=R) sm_136 1 (nf 136 0) O_136_0:=lp noO_ok (os:=[O_136_1]) ⟨OK_136_1,trivial⟩ T_136_0 l_136_0 (fun R K k a=>S_136_0 (fun p0 p1 p2 p3 p4 p5 p6 p7=>K (p0,p1,p2,p3,p4,p5,p6,p7,())) k a.1 a.2.1 a.2.2.1 a.2.2.2.1 a.2.2.2.2.1 a.2.2.2.2.2.1 a.2.2.2.2.2.2.1 a.2.2.2.2.2.2.2.1) Y_136_0 (fun _=>rfl) (fun _ _=>rfl) (fun k K a=>by kernel_rfl) (fun Y K a=>by
 unfold S_136_0
 repeat' first|apply gdN|apply condN|(apply Bn_136_1<;>intros)|rfl) (ok0 _)
noncomputable def F_136(a0:(List Int)):Option ((Int×((List (List Int))×((List (List Int))×Unit)))×Int×Unit) :=
 bif(↑(length a0):Int)!=553 then some ((0,[],[],PUnit.unit),3,PUnit.unit)else gd (inB 0 (length a0)) (bif decide (getD a0 0 (0:Int)>=(4:Int))then some ((0,[],[],PUnit.unit),3,PUnit.unit)else gd (inB 0 (length a0)) (B_136_0 (L_136_0 4611686018427387904 a0 0 0 [] [] (wrap i64 (getD a0 0 0)) [] []) fun y6 y7 y8 y9 y10 y11=>some ((y9,y10,y11,PUnit.unit),0,PUnit.unit)))
noncomputable def Sp.p_136(a0:(List Int)):Bool:=(F_136 a0).isSome
noncomputable def Sp.v_136(a0:(List Int)):(Int×((List (List Int))×((List (List Int))×Unit)))×Int×Unit:=(F_136 a0).getD (dfH R_136)
noncomputable def s_136:Summ:=shS A_136 R_136 (fun x=>p_136 x.1) (fun x=>v_136 x.1)
theorem pv_136(a0:(List Int)){y:(Int×((List (List Int))×((List (List Int))×Unit)))×Int×Unit}(h:F_136 a0=some y):p_136 a0=true/\v_136 a0=y:=pvG h
theorem run_136(x:HDen A_136)(y:HDen R_136)(h:F_136 x.1=some y):rnF sm_136 2 136 A_136 R_136 x y:=runG noO_ok (os:=[O_136_0]) ⟨OK_136_0,trivial⟩ (Eq.trans (by kernel_rfl) h)
end
noncomputable section
abbrev A_121:List Ty:=[(.slice (.int .u32))]
abbrev R_121:List Ty:=[(.pair (.int .i64) (.pair (.int .i64) (.pair (.arr 32 (.int .u8)) (.pair (.pair (.int .i64) (.pair (.slice (.arr 32 (.int .u8))) (.pair (.slice (.arr 32 (.int .u8))) .unit))) .unit)))),.bool]
noncomputable def sm_121:Nat->Option Summ:=smL [(135,s_135),(136,s_136),(145,s_145)]
noncomputable def F_121(a0:(List Int)):Option ((Int×(Int×((List Int)×((Int×((List (List Int))×((List (List Int))×Unit)))×Unit))))×Bool×Unit) :=
 gd (sl3 0 1 (↑(length a0):Int)) (gd (decide (2<=(↑(length a0):Int))) (gd (inB 0 (length (take 1 (drop 1 a0)))) (gd (decide (3<=(↑(length a0):Int))) (gd (inB 0 (length (take 1 (drop 2 a0)))) (gd (decide (11<=(↑(length a0):Int))) (gd (p_135 (take 8 (drop 3 a0))) (gd (sl3 11 564 (↑(length a0):Int)) (gd (p_136 (take 553 (drop 11 a0))) (bif(v_136 (take 553 (drop 11 a0))).2.1 !=0 then some ((0,0,replicate 32 (0:Int),(0,[],[],PUnit.unit),PUnit.unit),false,PUnit.unit)else bif decide (wrap i64 (getD (take 1 (drop 1 a0)) 0 0)<1)then some ((0,0,replicate 32 (0:Int),(0,[],[],PUnit.unit),PUnit.unit),false,PUnit.unit)else bif decide (wrap i64 (getD (take 1 (drop 1 a0)) 0 0)>2147483647)then some ((0,0,replicate 32 (0:Int),(0,[],[],PUnit.unit),PUnit.unit),false,PUnit.unit)else bif decide (wrap i64 (getD (take 1 (drop 2 a0)) 0 0)<1)then some ((0,0,replicate 32 (0:Int),(0,[],[],PUnit.unit),PUnit.unit),false,PUnit.unit)else bif decide (wrap i64 (getD (take 1 (drop 2 a0)) 0 0)>wrap i64 ((↑(length a0):Int)-564))then some ((0,0,replicate 32 (0:Int),(0,[],[],PUnit.unit),PUnit.unit),false,PUnit.unit)else some ((wrap i64 (getD (take 1 (drop 1 a0)) 0 0),wrap i64 (getD (take 1 (drop 2 a0)) 0 0),over (replicate 32 (0:Int)) 0 (take 32 ((v_135 (take 8 (drop 3 a0))).1)),(v_136 (take 553 (drop 11 a0))).1,PUnit.unit),true,PUnit.unit))))))))))
noncomputable def Sp.p_121(a0:(List Int)):Bool:=(F_121 a0).isSome
noncomputable def Sp.v_121(a0:(List Int)):(Int×(Int×((List Int)×((Int×((List (List Int))×((List (List Int))×Unit)))×Unit))))×Bool×Unit:=(F_121 a0).getD (dfH R_121)
noncomputable def s_121:Summ:=shS A_121 R_121 (fun x=>p_121 x.1) (fun x=>v_121 x.1)
theorem pv_121(a0:(List Int)){y:(Int×(Int×((List Int)×((Int×((List (List Int))×((List (List Int))×Unit)))×Unit))))×Bool×Unit}(h:F_121 a0=some y):p_121 a0=true/\v_121 a0=y:=pvG h
theorem run_121(x:HDen A_121)(y:HDen R_121)(h:F_121 x.1=some y):rnF sm_121 3 121 A_121 R_121 x y:=runG noO_ok (os:=[]) trivial (Eq.trans (by kernel_rfl) h)
end
noncomputable section
abbrev A_82:List Ty:=[(.pair (.pair (.slice (.int .u32)) (.pair (.slice (.int .i64)) (.pair (.int .i64) .unit))) (.pair (.arr 32 (.int .u8)) .unit)),(.int .i64)]
abbrev R_82:List Ty:=[(.pair (.int .i64) (.pair (.int .i64) (.pair (.arr 32 (.int .u8)) (.pair (.pair (.int .i64) (.pair (.slice (.arr 32 (.int .u8))) (.pair (.slice (.arr 32 (.int .u8))) .unit))) .unit)))),.bool]
noncomputable def sm_82:Nat->Option Summ:=smL [(29,s_29),(109,s_109),(120,s_120),(121,s_121)]
noncomputable def F_82(a0:(((List Int)×((List Int)×(Int×Unit)))×((List Int)×Unit)))(a1:Int):Option ((Int×(Int×((List Int)×((Int×((List (List Int))×((List (List Int))×Unit)))×Unit))))×Bool×Unit) :=
 gd (p_29 a0) (bif !(v_29 a0).1 then some ((0,0,replicate 32 (0:Int),(0,[],[],PUnit.unit),PUnit.unit),false,PUnit.unit)else gd (p_120 a1) (bif !(v_120 a1).1 then some ((0,0,replicate 32 (0:Int),(0,[],[],PUnit.unit),PUnit.unit),false,PUnit.unit)else gd (p_109 a0 a1) (gd (p_121 ((v_109 a0 a1).1)) (some ((v_121 ((v_109 a0 a1).1)).1,(v_121 ((v_109 a0 a1).1)).2.1,PUnit.unit)))))
noncomputable def Sp.p_82(a0:(((List Int)×((List Int)×(Int×Unit)))×((List Int)×Unit)))(a1:Int):Bool:=(F_82 a0 a1).isSome
noncomputable def Sp.v_82(a0:(((List Int)×((List Int)×(Int×Unit)))×((List Int)×Unit)))(a1:Int):(Int×(Int×((List Int)×((Int×((List (List Int))×((List (List Int))×Unit)))×Unit))))×Bool×Unit:=(F_82 a0 a1).getD (dfH R_82)
noncomputable def s_82:Summ:=shS A_82 R_82 (fun x=>p_82 x.1 x.2.1) (fun x=>v_82 x.1 x.2.1)
theorem pv_82(a0:(((List Int)×((List Int)×(Int×Unit)))×((List Int)×Unit)))(a1:Int){y:(Int×(Int×((List Int)×((Int×((List (List Int))×((List (List Int))×Unit)))×Unit))))×Bool×Unit}(h:F_82 a0 a1=some y):p_82 a0 a1=true/\v_82 a0 a1=y:=pvG h
theorem run_82(x:HDen A_82)(y:HDen R_82)(h:F_82 x.1 x.2.1=some y):rnF sm_82 1 82 A_82 R_82 x y:=runG noO_ok (os:=[]) trivial (Eq.trans (by kernel_rfl) h)
end
noncomputable section
abbrev A_106:List Ty:=[(.pair (.pair (.slice (.int .u32)) (.pair (.slice (.int .i64)) (.pair (.int .i64) .unit))) (.pair (.arr 32 (.int .u8)) .unit)),(.int .i64)]
abbrev R_106:List Ty:=[.bool]
noncomputable def sm_106:Nat->Option Summ:=smL [(109,s_109)]
noncomputable def F_106(a0:(((List Int)×((List Int)×(Int×Unit)))×((List Int)×Unit)))(a1:Int):Option (Bool×Unit) :=
 gd (p_109 a0 a1) (gd (inB 0 (length ((v_109 a0 a1).1))) (some (getD ((v_109 a0 a1).1) 0 (0:Int)==(0:Int),PUnit.unit)))
noncomputable def Sp.p_106(a0:(((List Int)×((List Int)×(Int×Unit)))×((List Int)×Unit)))(a1:Int):Bool:=(F_106 a0 a1).isSome
noncomputable def Sp.v_106(a0:(((List Int)×((List Int)×(Int×Unit)))×((List Int)×Unit)))(a1:Int):Bool×Unit:=(F_106 a0 a1).getD (dfH R_106)
noncomputable def s_106:Summ:=shN A_106 R_106 (fun x=>p_106 x.1 x.2.1) (fun x=>v_106 x.1 x.2.1)
theorem pv_106(a0:(((List Int)×((List Int)×(Int×Unit)))×((List Int)×Unit)))(a1:Int){y:Bool×Unit}(h:F_106 a0 a1=some y):p_106 a0 a1=true/\v_106 a0 a1=y:=pvG h
theorem run_106(x:HDen A_106)(y:HDen R_106)(h:F_106 x.1 x.2.1=some y):rnF sm_106 1 106 A_106 R_106 x y:=runG noO_ok (os:=[]) trivial (Eq.trans (by kernel_rfl) h)
end
noncomputable section
abbrev A_84:List Ty:=[(.arr 32 (.int .u8))]
abbrev R_84:List Ty:=[(.slice (.int .i64))]
noncomputable def sm_84:Nat->Option Summ:=smL []
noncomputable def T_84_1:PS:=⟨43,[(3,.kc (.whole 0)),(4,.hv (.int .i64)),(9,.hv (.arr 32 (.int .u8))),(10,.hv (.int .i64)),(19,.hv (.arr 2 (.int .i64))),(20,.hv (.int .i64))],[.vec 3 (.int .i64)],0⟩
inductive Sp.E_84_1 where
 |e0 (p0:Int) (p1:List Int) (p2:Int) (p5:List Int)
noncomputable def Sp.B_84_1{R:Type}(r:Option E_84_1)(k0:Int->List Int->Int->List Int->Option R):Option R:=match r with
 |none=>none
 |some (.e0 p0 p1 p2 p5)=>k0 p0 p1 p2 p5
theorem Bn_84_1{A R:Type}{r:Option E_84_1}{f:A->Option R}{k0:Int->List Int->Int->List Int->Option A}{l0:Int->List Int->Int->List Int->Option R}(h0:∀p0 p1 p2 p5,(k0 p0 p1 p2 p5).bind f=l0 p0 p1 p2 p5):(B_84_1 r k0).bind f=B_84_1 r l0:=by
 cases r with
 |none=>rfl
 |some e=>cases e<;>first|apply h0
noncomputable def Y_84_1{R:Type}(k:Ex->St->Option R):E_84_1->Option R
 | .e0 p0 p1 p2 p5=>k (Ex.exit 2) (sx 43 [(3,CV.whole 0),(4,CV.int i64 p0),(9,CV.pure (Ty.arr 32 (Ty.int u8)) p1),(10,CV.int i64 p2)] [Blk.vec 3 (Ty.int i64) p5])
noncomputable def Sp.S_84_1{R:Type}(K:Int->List Int->Int->List Int->Int->List Int->Option R)(k:E_84_1->Option R)(p0:Int)(p1:List Int)(p2:Int)(p3:List Int)(p4:Int)(p5:List Int):Option R:=
 bif decide (p4<2)then gd (inB p4 2) (gd (room (length p5+1) 8) (K (wrap i64 (p0+wrap i64 (15-getD p3 (toNat p4) 0))) p1 p2 p3 (wrap i64 (p4+1)) (p5++[getD p3 (toNat p4) 0])))else k (E_84_1.e0 p0 p1 p2 p5)
noncomputable def Sp.L_84_1:Nat->Int->List Int->Int->List Int->Int->List Int->Option E_84_1
 |0,_,_,_,_,_,_=>none
 |m+1,p0,p1,p2,p3,p4,p5=>S_84_1 (L_84_1 m) some p0 p1 p2 p3 p4 p5
noncomputable def l_84_1(m:Nat)(a:T_84_1.E):Option E_84_1:=L_84_1 m a.1 a.2.1 a.2.2.1 a.2.2.2.1 a.2.2.2.2.1 a.2.2.2.2.2.1
noncomputable def O_84_1{R:Type}:Orc R:=orL T_84_1 (l_84_1 FU) Y_84_1
theorem OK_84_1{R:Type}:okF (R:=R) sm_84 0 (ni (nf 84 0) 0) O_84_1:=lp0 T_84_1 l_84_1 (fun R K k a=>S_84_1 (fun p0 p1 p2 p3 p4 p5=>K (p0,p1,p2,p3,p4,p5,())) k a.1 a.2.1 a.2.2.1 a.2.2.2.1 a.2.2.2.2.1 a.2.2.2.2.2.1) Y_84_1 (fun _ _ _=>by kernel_rfl) (fun _ _ _=>by
 unfold S_84_1
 repeat' first|apply gdN|apply condN|rfl) (ok0 _)
noncomputable def T_84_0:PS:=⟨43,[(3,.kc (.whole 0)),(4,.hv (.int .i64)),(9,.hv (.arr 32 (.int .u8))),(10,.hv (.int .i64))],[.vec 3 (.int .i64)],0⟩
inductive Sp.E_84_0 where
 |e0 (p0:Int) (p3:List Int)
noncomputable def Sp.B_84_0{R:Type}(r:Option E_84_0)(k0:Int->List Int->Option R):Option R:=match r with
 |none=>none
 |some (.e0 p0 p3)=>k0 p0 p3
noncomputable def Y_84_0{R:Type}(k:Ex->St->Option R):E_84_0->Option R
 | .e0 p0 p3=>k (Ex.exit 0) (sx 43 [(3,CV.whole 0),(4,CV.int i64 p0)] [Blk.vec 3 (Ty.int i64) p3])
noncomputable def Sp.S_84_0{R:Type}(K:Int->List Int->Int->List Int->Option R)(k:E_84_0->Option R)(p0:Int)(p1:List Int)(p2:Int)(p3:List Int):Option R:=
 bif decide (p2<32)then gd (inB p2 32) (B_84_1 (L_84_1 4611686018427387904 p0 p1 p2 [wrap i64 (Int.fdiv (getD p1 (toNat p2) 0) 16),wrap i64 (Sp.andI u8 (getD p1 (toNat p2) 0) 15)] 0 p3) fun y4 y5 y6 y7=>K y4 y5 (wrap i64 (y6+1)) y7)else k (E_84_0.e0 p0 p3)
noncomputable def Sp.L_84_0:Nat->Int->List Int->Int->List Int->Option E_84_0
 |0,_,_,_,_=>none
 |m+1,p0,p1,p2,p3=>S_84_0 (L_84_0 m) some p0 p1 p2 p3
noncomputable def l_84_0(m:Nat)(a:T_84_0.E):Option E_84_0:=L_84_0 m a.1 a.2.1 a.2.2.1 a.2.2.2.1
noncomputable def O_84_0{R:Type}:Orc R:=orL T_84_0 (l_84_0 FU) Y_84_0
theorem OK_84_0{R:Type}:okF (R:=R) sm_84 0 (nf 84 0) O_84_0:=lp noO_ok (os:=[O_84_1]) ⟨OK_84_1,trivial⟩ T_84_0 l_84_0 (fun R K k a=>S_84_0 (fun p0 p1 p2 p3=>K (p0,p1,p2,p3,())) k a.1 a.2.1 a.2.2.1 a.2.2.2.1) Y_84_0 (fun _=>rfl) (fun _ _=>rfl) (fun k K a=>by kernel_rfl) (fun Y K a=>by
 unfold S_84_0
 repeat' first|apply gdN|apply condN|(apply Bn_84_1<;>intros)|rfl) (ok0 _)
noncomputable def F_84(a0:(List Int)):Option ((List Int)×Unit) :=
 B_84_0 (L_84_0 4611686018427387904 0 a0 0 []) fun y2 y3=>gd (room (length y3+3) 8) (some (y3++[Int.fdiv y2 256,Sp.andI i64 (Int.fdiv y2 16) 15,Sp.andI i64 y2 15],PUnit.unit))
noncomputable def Sp.p_84(a0:(List Int)):Bool:=(F_84 a0).isSome
noncomputable def Sp.v_84(a0:(List Int)):(List Int)×Unit:=(F_84 a0).getD (dfH R_84)
noncomputable def s_84:Summ:=shS A_84 R_84 (fun x=>p_84 x.1) (fun x=>v_84 x.1)
theorem pv_84(a0:(List Int)){y:(List Int)×Unit}(h:F_84 a0=some y):p_84 a0=true/\v_84 a0=y:=pvG h
theorem run_84(x:HDen A_84)(y:HDen R_84)(h:F_84 x.1=some y):rnF sm_84 1 84 A_84 R_84 x y:=runG noO_ok (os:=[O_84_0]) ⟨OK_84_0,trivial⟩ (Eq.trans (by kernel_rfl) h)
end
noncomputable section
abbrev A_137:List Ty:=[]
abbrev R_137:List Ty:=[(.arr 64 (.int .u32))]
noncomputable def sm_137:Nat->Option Summ:=smL []
noncomputable def F_137:Option ((List Int)×Unit) :=
 some ([1116352408,1899447441,3049323471,3921009573,961987163,1508970993,2453635748,2870763221,3624381080,310598401,607225278,1426881987,1925078388,2162078206,2614888103,3248222580,3835390401,4022224774,264347078,604807628,770255983,1249150122,1555081692,1996064986,2554220882,2821834349,2952996808,3210313671,3336571891,3584528711,113926993,338241895,666307205,773529912,1294757372,1396182291,1695183700,1986661051,2177026350,2456956037,2730485921,2820302411,3259730800,3345764771,3516065817,3600352804,4094571909,275423344,430227734,506948616,659060556,883997877,958139571,1322822218,1537002063,1747873779,1955562222,2024104815,2227730452,2361852424,2428436474,2756734187,3204031479,3329325298],PUnit.unit)
noncomputable def Sp.p_137:Bool:=(F_137).isSome
noncomputable def Sp.v_137:(List Int)×Unit:=(F_137).getD (dfH R_137)
noncomputable def s_137:Summ:=shN A_137 R_137 (fun x=>p_137) (fun x=>v_137)
theorem run_137(x:HDen A_137)(y:HDen R_137)(h:F_137=some y):rnF sm_137 1 137 A_137 R_137 x y:=runG noO_ok (os:=[]) trivial (Eq.trans (by kernel_rfl) h)
end
noncomputable section
abbrev A_148:List Ty:=[(.int .u32),(.int .i64)]
abbrev R_148:List Ty:=[(.int .u32)]
noncomputable def sm_148:Nat->Option Summ:=smL []
noncomputable def F_148(a0 a1:Int):Option (Int×Unit) :=
 gd (decide (0<=wrap u64 (32-Sp.andI u64 (wrap u64 a1) 31))) (some (Sp.orI u32 (wrap u32 (a0*2^Nat.min (toNat (Sp.andI u64 (wrap u64 a1) 31)) 32)) (Int.fdiv a0 (2^Nat.min (toNat (wrap u64 (32-Sp.andI u64 (wrap u64 a1) 31))) 32)),PUnit.unit))
noncomputable def Sp.p_148(a0 a1:Int):Bool:=(F_148 a0 a1).isSome
noncomputable def Sp.v_148(a0 a1:Int):Int×Unit:=(F_148 a0 a1).getD (dfH R_148)
noncomputable def s_148:Summ:=shN A_148 R_148 (fun x=>p_148 x.1 x.2.1) (fun x=>v_148 x.1 x.2.1)
theorem pv_148(a0 a1:Int){y:Int×Unit}(h:F_148 a0 a1=some y):p_148 a0 a1=true/\v_148 a0 a1=y:=pvG h
theorem run_148(x:HDen A_148)(y:HDen R_148)(h:F_148 x.1 x.2.1=some y):rnF sm_148 1 148 A_148 R_148 x y:=runG noO_ok (os:=[]) trivial (Eq.trans (by kernel_rfl) h)
end
noncomputable section
abbrev A_146:List Ty:=[(.int .u32),(.int .i64)]
abbrev R_146:List Ty:=[(.int .u32)]
noncomputable def sm_146:Nat->Option Summ:=smL [(148,s_148)]
noncomputable def F_146(a0 a1:Int):Option (Int×Unit) :=
 gd (p_148 a0 (wrap i64 (0-a1))) (some ((v_148 a0 (wrap i64 (0-a1))).1,PUnit.unit))
noncomputable def Sp.p_146(a0 a1:Int):Bool:=(F_146 a0 a1).isSome
noncomputable def Sp.v_146(a0 a1:Int):Int×Unit:=(F_146 a0 a1).getD (dfH R_146)
noncomputable def s_146:Summ:=shN A_146 R_146 (fun x=>p_146 x.1 x.2.1) (fun x=>v_146 x.1 x.2.1)
theorem pv_146(a0 a1:Int){y:Int×Unit}(h:F_146 a0 a1=some y):p_146 a0 a1=true/\v_146 a0 a1=y:=pvG h
theorem run_146(x:HDen A_146)(y:HDen R_146)(h:F_146 x.1 x.2.1=some y):rnF sm_146 1 146 A_146 R_146 x y:=runG noO_ok (os:=[]) trivial (Eq.trans (by kernel_rfl) h)
end
noncomputable section
abbrev A_122:List Ty:=[(.slice (.int .u8))]
abbrev R_122:List Ty:=[(.arr 32 (.int .u8))]
noncomputable def sm_122:Nat->Option Summ:=smL [(119,s_119),(137,s_137),(146,s_146)]
noncomputable def T_122_138_0_0:PS:=⟨176,[(0,.kc (.ptr 1 [])),(1,.kc (.ptr 2 [])),(2,.hv (.slice (.int .u8))),(6,.kc (.ptr 3 [])),(20,.hv (.int .i64))],[.mem (.hv (.arr 32 (.int .u8))),.mem (.hv (.arr 8 (.int .u32))),.mem (.hv (.arr 64 (.int .u32))),.mem (.hv (.arr 64 (.int .u32)))],3⟩
inductive Sp.E_122_138_0_0 where
 |e0 (p2 p3 p4 p5:List Int)
noncomputable def Sp.B_122_138_0_0{R:Type}(r:Option E_122_138_0_0)(k0:List Int->List Int->List Int->List Int->Option R):Option R:=match r with
 |none=>none
 |some (.e0 p2 p3 p4 p5)=>k0 p2 p3 p4 p5
theorem Bn_122_138_0_0{A R:Type}{r:Option E_122_138_0_0}{f:A->Option R}{k0:List Int->List Int->List Int->List Int->Option A}{l0:List Int->List Int->List Int->List Int->Option R}(h0:∀p2 p3 p4 p5,(k0 p2 p3 p4 p5).bind f=l0 p2 p3 p4 p5):(B_122_138_0_0 r k0).bind f=B_122_138_0_0 r l0:=by
 cases r with
 |none=>rfl
 |some e=>cases e<;>first|apply h0
noncomputable def Y_122_138_0_0{R:Type}(k:Ex->St->Option R):E_122_138_0_0->Option R
 | .e0 p2 p3 p4 p5=>k (Ex.exit 0) (sx 176 [(0,CV.ptr 1 []),(1,CV.ptr 2 []),(6,CV.ptr 3 [])] [Blk.mem (CV.pure (Ty.arr 32 (Ty.int u8)) p2),Blk.mem (CV.pure (Ty.arr 8 (Ty.int u32)) p3),Blk.mem (CV.pure (Ty.arr 64 (Ty.int u32)) p4),Blk.mem (CV.pure (Ty.arr 64 (Ty.int u32)) p5)] 3)
noncomputable def Sp.S_122_138_0_0{R:Type}(K:List Int->Int->List Int->List Int->List Int->List Int->Option R)(k:E_122_138_0_0->Option R)(p0:List Int)(p1:Int)(p2 p3 p4 p5:List Int):Option R:=
 bif decide (p1<16)then gd (sl3 (wrap i64 (4*p1)) (↑(length p0):Int) (↑(length p0):Int)) (gd (p_119 (drop (toNat (wrap i64 (4*p1))) p0)) (gd (inB p1 64) (gd (decide (toNat p1<64)&&true) (K p0 (wrap i64 (p1+1)) p2 p3 p4 (List.set p5 (toNat p1) ((v_119 (drop (toNat (wrap i64 (4*p1))) p0)).1))))))else k (E_122_138_0_0.e0 p2 p3 p4 p5)
noncomputable def Sp.L_122_138_0_0:Nat->List Int->Int->List Int->List Int->List Int->List Int->Option E_122_138_0_0
 |0,_,_,_,_,_,_=>none
 |m+1,p0,p1,p2,p3,p4,p5=>S_122_138_0_0 (L_122_138_0_0 m) some p0 p1 p2 p3 p4 p5
noncomputable def l_122_138_0_0(m:Nat)(a:T_122_138_0_0.E):Option E_122_138_0_0:=L_122_138_0_0 m a.1 a.2.1 a.2.2.1 a.2.2.2.1 a.2.2.2.2.1 a.2.2.2.2.2.1
noncomputable def O_122_138_0_0{R:Type}:Orc R:=orL T_122_138_0_0 (l_122_138_0_0 FU) Y_122_138_0_0
theorem OK_122_138_0_0{R:Type}:okF (R:=R) sm_122 0 (nf 138 0) O_122_138_0_0:=lp0 T_122_138_0_0 l_122_138_0_0 (fun R K k a=>S_122_138_0_0 (fun p0 p1 p2 p3 p4 p5=>K (p0,p1,p2,p3,p4,p5,())) k a.1 a.2.1 a.2.2.1 a.2.2.2.1 a.2.2.2.2.1 a.2.2.2.2.2.1) Y_122_138_0_0 (fun _ _ _=>by kernel_rfl) (fun _ _ _=>by
 unfold S_122_138_0_0
 repeat' first|apply gdN|apply condN|rfl) (ok0 _)
noncomputable def T_122_138_0_1:PS:=⟨176,[(0,.kc (.ptr 1 [])),(1,.kc (.ptr 2 [])),(2,.sb 3 [] 1 none none (some none)),(6,.kc (.ptr 4 [])),(20,.hv (.int .i64))],[.mem (.hv (.arr 32 (.int .u8))),.mem (.hv (.arr 8 (.int .u32))),.mem (.hv (.arr 64 (.int .u32))),.mem (.hv (.arr 128 (.int .u8))),.mem (.hv (.arr 64 (.int .u32)))],4⟩
inductive Sp.E_122_138_0_1 where
 |e0 (p4 p5 p6 p7 p8:List Int)
noncomputable def Sp.B_122_138_0_1{R:Type}(r:Option E_122_138_0_1)(k0:List Int->List Int->List Int->List Int->List Int->Option R):Option R:=match r with
 |none=>none
 |some (.e0 p4 p5 p6 p7 p8)=>k0 p4 p5 p6 p7 p8
theorem Bn_122_138_0_1{A R:Type}{r:Option E_122_138_0_1}{f:A->Option R}{k0:List Int->List Int->List Int->List Int->List Int->Option A}{l0:List Int->List Int->List Int->List Int->List Int->Option R}(h0:∀p4 p5 p6 p7 p8,(k0 p4 p5 p6 p7 p8).bind f=l0 p4 p5 p6 p7 p8):(B_122_138_0_1 r k0).bind f=B_122_138_0_1 r l0:=by
 cases r with
 |none=>rfl
 |some e=>cases e<;>first|apply h0
noncomputable def Y_122_138_0_1{R:Type}(k:Ex->St->Option R):E_122_138_0_1->Option R
 | .e0 p4 p5 p6 p7 p8=>k (Ex.exit 0) (sx 176 [(0,CV.ptr 1 []),(1,CV.ptr 2 []),(6,CV.ptr 4 [])] [Blk.mem (CV.pure (Ty.arr 32 (Ty.int u8)) p4),Blk.mem (CV.pure (Ty.arr 8 (Ty.int u32)) p5),Blk.mem (CV.pure (Ty.arr 64 (Ty.int u32)) p6),Blk.mem (CV.pure (Ty.arr 128 (Ty.int u8)) p7),Blk.mem (CV.pure (Ty.arr 64 (Ty.int u32)) p8)] 4)
noncomputable def Sp.S_122_138_0_1{R:Type}(K:Nat->Nat->Nat->Int->List Int->List Int->List Int->List Int->List Int->Option R)(k:E_122_138_0_1->Option R)(p0 p1 p2:Nat)(p3:Int)(p4 p5 p6 p7 p8:List Int):Option R:=
 bif decide (p3<16)then gd (sl3 (wrap i64 (4*p3)) (↑p1:Int) (↑p1:Int)) (gd (decide (p0+toNat (wrap i64 (4*p3))+(toNat (↑p1:Int)-toNat (wrap i64 (4*p3)))<=128)&&true&&p_119 (take (toNat (↑p1:Int)-toNat (wrap i64 (4*p3))) (drop (p0+toNat (wrap i64 (4*p3))) p7))) (gd (inB p3 64) (gd (decide (toNat p3<64)&&true) (K p0 p1 p2 (wrap i64 (p3+1)) p4 p5 p6 p7 (List.set p8 (toNat p3) ((v_119 (take (toNat (↑p1:Int)-toNat (wrap i64 (4*p3))) (drop (p0+toNat (wrap i64 (4*p3))) p7))).1))))))else k (E_122_138_0_1.e0 p4 p5 p6 p7 p8)
noncomputable def Sp.L_122_138_0_1:Nat->Nat->Nat->Nat->Int->List Int->List Int->List Int->List Int->List Int->Option E_122_138_0_1
 |0,_,_,_,_,_,_,_,_,_=>none
 |m+1,p0,p1,p2,p3,p4,p5,p6,p7,p8=>S_122_138_0_1 (L_122_138_0_1 m) some p0 p1 p2 p3 p4 p5 p6 p7 p8
noncomputable def l_122_138_0_1(m:Nat)(a:T_122_138_0_1.E):Option E_122_138_0_1:=L_122_138_0_1 m a.1 a.2.1 a.2.2.1 a.2.2.2.1 a.2.2.2.2.1 a.2.2.2.2.2.1 a.2.2.2.2.2.2.1 a.2.2.2.2.2.2.2.1 a.2.2.2.2.2.2.2.2.1
noncomputable def O_122_138_0_1{R:Type}:Orc R:=orL T_122_138_0_1 (l_122_138_0_1 FU) Y_122_138_0_1 O_122_138_0_0
theorem OK_122_138_0_1{R:Type}:okF (R:=R) sm_122 0 (nf 138 0) O_122_138_0_1:=lp0 T_122_138_0_1 l_122_138_0_1 (fun R K k a=>S_122_138_0_1 (fun p0 p1 p2 p3 p4 p5 p6 p7 p8=>K (p0,p1,p2,p3,p4,p5,p6,p7,p8,())) k a.1 a.2.1 a.2.2.1 a.2.2.2.1 a.2.2.2.2.1 a.2.2.2.2.2.1 a.2.2.2.2.2.2.1 a.2.2.2.2.2.2.2.1 a.2.2.2.2.2.2.2.2.1) Y_122_138_0_1 (fun _ _ _=>by kernel_rfl) (fun _ _ _=>by
 unfold S_122_138_0_1
 repeat' first|apply gdN|apply condN|rfl) OK_122_138_0_0
noncomputable def T_122_138_1_0:PS:=⟨176,[(0,.kc (.ptr 1 [])),(1,.kc (.ptr 2 [])),(6,.kc (.ptr 3 [])),(8,.hv (.int .i64))],[.mem (.hv (.arr 32 (.int .u8))),.mem (.hv (.arr 8 (.int .u32))),.mem (.hv (.arr 64 (.int .u32))),.mem (.hv (.arr 64 (.int .u32)))],3⟩
inductive Sp.E_122_138_1_0 where
 |e0 (p1 p2 p3 p4:List Int)
noncomputable def Sp.B_122_138_1_0{R:Type}(r:Option E_122_138_1_0)(k0:List Int->List Int->List Int->List Int->Option R):Option R:=match r with
 |none=>none
 |some (.e0 p1 p2 p3 p4)=>k0 p1 p2 p3 p4
theorem Bn_122_138_1_0{A R:Type}{r:Option E_122_138_1_0}{f:A->Option R}{k0:List Int->List Int->List Int->List Int->Option A}{l0:List Int->List Int->List Int->List Int->Option R}(h0:∀p1 p2 p3 p4,(k0 p1 p2 p3 p4).bind f=l0 p1 p2 p3 p4):(B_122_138_1_0 r k0).bind f=B_122_138_1_0 r l0:=by
 cases r with
 |none=>rfl
 |some e=>cases e<;>first|apply h0
noncomputable def Y_122_138_1_0{R:Type}(k:Ex->St->Option R):E_122_138_1_0->Option R
 | .e0 p1 p2 p3 p4=>k (Ex.exit 2) (sx 176 [(0,CV.ptr 1 []),(1,CV.ptr 2 []),(6,CV.ptr 3 [])] [Blk.mem (CV.pure (Ty.arr 32 (Ty.int u8)) p1),Blk.mem (CV.pure (Ty.arr 8 (Ty.int u32)) p2),Blk.mem (CV.pure (Ty.arr 64 (Ty.int u32)) p3),Blk.mem (CV.pure (Ty.arr 64 (Ty.int u32)) p4)] 3)
noncomputable def Sp.S_122_138_1_0{R:Type}(K:Int->List Int->List Int->List Int->List Int->Option R)(k:E_122_138_1_0->Option R)(p0:Int)(p1 p2 p3 p4:List Int):Option R:=
 bif decide (p0<64)then gd (inB (wrap i64 (p0-15)) 64) (gd (decide (toNat (wrap i64 (p0-15))<64)&&true) (gd (inB (wrap i64 (p0-2)) 64) (gd (decide (toNat (wrap i64 (p0-2))<64)&&true) (gd (p_146 (getD p4 (toNat (wrap i64 (p0-15))) 0) 7) (gd (p_146 (getD p4 (toNat (wrap i64 (p0-15))) 0) 18) (gd (p_146 (getD p4 (toNat (wrap i64 (p0-2))) 0) 17) (gd (p_146 (getD p4 (toNat (wrap i64 (p0-2))) 0) 19) (gd (inB (wrap i64 (p0-7)) 64) (gd (decide (toNat (wrap i64 (p0-7))<64)&&true) (gd (inB (wrap i64 (p0-16)) 64) (gd (decide (toNat (wrap i64 (p0-16))<64)&&true) (gd (inB p0 64) (gd (decide (toNat p0<64)&&true) (K (wrap i64 (p0+1)) p1 p2 p3 (List.set p4 (toNat p0) (wrap u32 (wrap u32 (wrap u32 (Sp.xorI u32 (Sp.xorI u32 ((v_146 (getD p4 (toNat (wrap i64 (p0-2))) 0) 17).1) ((v_146 (getD p4 (toNat (wrap i64 (p0-2))) 0) 19).1)) (Int.fdiv (getD p4 (toNat (wrap i64 (p0-2))) 0) 1024)+getD p4 (toNat (wrap i64 (p0-7))) 0)+Sp.xorI u32 (Sp.xorI u32 ((v_146 (getD p4 (toNat (wrap i64 (p0-15))) 0) 7).1) ((v_146 (getD p4 (toNat (wrap i64 (p0-15))) 0) 18).1)) (Int.fdiv (getD p4 (toNat (wrap i64 (p0-15))) 0) 8))+getD p4 (toNat (wrap i64 (p0-16))) 0)))))))))))))))))else k (E_122_138_1_0.e0 p1 p2 p3 p4)
noncomputable def Sp.L_122_138_1_0:Nat->Int->List Int->List Int->List Int->List Int->Option E_122_138_1_0
 |0,_,_,_,_,_=>none
 |m+1,p0,p1,p2,p3,p4=>S_122_138_1_0 (L_122_138_1_0 m) some p0 p1 p2 p3 p4
noncomputable def l_122_138_1_0(m:Nat)(a:T_122_138_1_0.E):Option E_122_138_1_0:=L_122_138_1_0 m a.1 a.2.1 a.2.2.1 a.2.2.2.1 a.2.2.2.2.1
noncomputable def O_122_138_1_0{R:Type}:Orc R:=orL T_122_138_1_0 (l_122_138_1_0 FU) Y_122_138_1_0
theorem OK_122_138_1_0{R:Type}:okF (R:=R) sm_122 0 (nf 138 1) O_122_138_1_0:=lp0 T_122_138_1_0 l_122_138_1_0 (fun R K k a=>S_122_138_1_0 (fun p0 p1 p2 p3 p4=>K (p0,p1,p2,p3,p4,())) k a.1 a.2.1 a.2.2.1 a.2.2.2.1 a.2.2.2.2.1) Y_122_138_1_0 (fun _ _ _=>by kernel_rfl) (fun _ _ _=>by
 unfold S_122_138_1_0
 repeat' first|apply gdN|apply condN|rfl) (ok0 _)
noncomputable def T_122_138_1_1:PS:=⟨176,[(0,.kc (.ptr 1 [])),(1,.kc (.ptr 2 [])),(6,.kc (.ptr 4 [])),(8,.hv (.int .i64))],[.mem (.hv (.arr 32 (.int .u8))),.mem (.hv (.arr 8 (.int .u32))),.mem (.hv (.arr 64 (.int .u32))),.mem (.hv (.arr 128 (.int .u8))),.mem (.hv (.arr 64 (.int .u32)))],4⟩
inductive Sp.E_122_138_1_1 where
 |e0 (p1 p2 p3 p4 p5:List Int)
noncomputable def Sp.B_122_138_1_1{R:Type}(r:Option E_122_138_1_1)(k0:List Int->List Int->List Int->List Int->List Int->Option R):Option R:=match r with
 |none=>none
 |some (.e0 p1 p2 p3 p4 p5)=>k0 p1 p2 p3 p4 p5
theorem Bn_122_138_1_1{A R:Type}{r:Option E_122_138_1_1}{f:A->Option R}{k0:List Int->List Int->List Int->List Int->List Int->Option A}{l0:List Int->List Int->List Int->List Int->List Int->Option R}(h0:∀p1 p2 p3 p4 p5,(k0 p1 p2 p3 p4 p5).bind f=l0 p1 p2 p3 p4 p5):(B_122_138_1_1 r k0).bind f=B_122_138_1_1 r l0:=by
 cases r with
 |none=>rfl
 |some e=>cases e<;>first|apply h0
noncomputable def Y_122_138_1_1{R:Type}(k:Ex->St->Option R):E_122_138_1_1->Option R
 | .e0 p1 p2 p3 p4 p5=>k (Ex.exit 2) (sx 176 [(0,CV.ptr 1 []),(1,CV.ptr 2 []),(6,CV.ptr 4 [])] [Blk.mem (CV.pure (Ty.arr 32 (Ty.int u8)) p1),Blk.mem (CV.pure (Ty.arr 8 (Ty.int u32)) p2),Blk.mem (CV.pure (Ty.arr 64 (Ty.int u32)) p3),Blk.mem (CV.pure (Ty.arr 128 (Ty.int u8)) p4),Blk.mem (CV.pure (Ty.arr 64 (Ty.int u32)) p5)] 4)
noncomputable def Sp.S_122_138_1_1{R:Type}(K:Int->List Int->List Int->List Int->List Int->List Int->Option R)(k:E_122_138_1_1->Option R)(p0:Int)(p1 p2 p3 p4 p5:List Int):Option R:=
 bif decide (p0<64)then gd (inB (wrap i64 (p0-15)) 64) (gd (decide (toNat (wrap i64 (p0-15))<64)&&true) (gd (inB (wrap i64 (p0-2)) 64) (gd (decide (toNat (wrap i64 (p0-2))<64)&&true) (gd (p_146 (getD p5 (toNat (wrap i64 (p0-15))) 0) 7) (gd (p_146 (getD p5 (toNat (wrap i64 (p0-15))) 0) 18) (gd (p_146 (getD p5 (toNat (wrap i64 (p0-2))) 0) 17) (gd (p_146 (getD p5 (toNat (wrap i64 (p0-2))) 0) 19) (gd (inB (wrap i64 (p0-7)) 64) (gd (decide (toNat (wrap i64 (p0-7))<64)&&true) (gd (inB (wrap i64 (p0-16)) 64) (gd (decide (toNat (wrap i64 (p0-16))<64)&&true) (gd (inB p0 64) (gd (decide (toNat p0<64)&&true) (K (wrap i64 (p0+1)) p1 p2 p3 p4 (List.set p5 (toNat p0) (wrap u32 (wrap u32 (wrap u32 (Sp.xorI u32 (Sp.xorI u32 ((v_146 (getD p5 (toNat (wrap i64 (p0-2))) 0) 17).1) ((v_146 (getD p5 (toNat (wrap i64 (p0-2))) 0) 19).1)) (Int.fdiv (getD p5 (toNat (wrap i64 (p0-2))) 0) 1024)+getD p5 (toNat (wrap i64 (p0-7))) 0)+Sp.xorI u32 (Sp.xorI u32 ((v_146 (getD p5 (toNat (wrap i64 (p0-15))) 0) 7).1) ((v_146 (getD p5 (toNat (wrap i64 (p0-15))) 0) 18).1)) (Int.fdiv (getD p5 (toNat (wrap i64 (p0-15))) 0) 8))+getD p5 (toNat (wrap i64 (p0-16))) 0)))))))))))))))))else k (E_122_138_1_1.e0 p1 p2 p3 p4 p5)
noncomputable def Sp.L_122_138_1_1:Nat->Int->List Int->List Int->List Int->List Int->List Int->Option E_122_138_1_1
 |0,_,_,_,_,_,_=>none
 |m+1,p0,p1,p2,p3,p4,p5=>S_122_138_1_1 (L_122_138_1_1 m) some p0 p1 p2 p3 p4 p5
noncomputable def l_122_138_1_1(m:Nat)(a:T_122_138_1_1.E):Option E_122_138_1_1:=L_122_138_1_1 m a.1 a.2.1 a.2.2.1 a.2.2.2.1 a.2.2.2.2.1 a.2.2.2.2.2.1
noncomputable def O_122_138_1_1{R:Type}:Orc R:=orL T_122_138_1_1 (l_122_138_1_1 FU) Y_122_138_1_1 O_122_138_1_0
theorem OK_122_138_1_1{R:Type}:okF (R:=R) sm_122 0 (nf 138 1) O_122_138_1_1:=lp0 T_122_138_1_1 l_122_138_1_1 (fun R K k a=>S_122_138_1_1 (fun p0 p1 p2 p3 p4 p5=>K (p0,p1,p2,p3,p4,p5,())) k a.1 a.2.1 a.2.2.1 a.2.2.2.1 a.2.2.2.2.1 a.2.2.2.2.2.1) Y_122_138_1_1 (fun _ _ _=>by kernel_rfl) (fun _ _ _=>by
 unfold S_122_138_1_1
 repeat' first|apply gdN|apply condN|rfl) OK_122_138_1_0
noncomputable def T_122_138_2_0:PS:=⟨176,[(0,.kc (.ptr 1 [])),(1,.kc (.ptr 2 [])),(6,.kc (.ptr 3 [])),(13,.kc (.ptr 4 [])),(77,.hv (.int .i64))],[.mem (.hv (.arr 32 (.int .u8))),.mem (.hv (.arr 8 (.int .u32))),.mem (.hv (.arr 64 (.int .u32))),.mem (.hv (.arr 64 (.int .u32))),.mem (.hv (.arr 8 (.int .u32)))],3⟩
inductive Sp.E_122_138_2_0 where
 |e0 (p1 p2 p3 p5:List Int)
noncomputable def Sp.B_122_138_2_0{R:Type}(r:Option E_122_138_2_0)(k0:List Int->List Int->List Int->List Int->Option R):Option R:=match r with
 |none=>none
 |some (.e0 p1 p2 p3 p5)=>k0 p1 p2 p3 p5
theorem Bn_122_138_2_0{A R:Type}{r:Option E_122_138_2_0}{f:A->Option R}{k0:List Int->List Int->List Int->List Int->Option A}{l0:List Int->List Int->List Int->List Int->Option R}(h0:∀p1 p2 p3 p5,(k0 p1 p2 p3 p5).bind f=l0 p1 p2 p3 p5):(B_122_138_2_0 r k0).bind f=B_122_138_2_0 r l0:=by
 cases r with
 |none=>rfl
 |some e=>cases e<;>first|apply h0
noncomputable def Y_122_138_2_0{R:Type}(k:Ex->St->Option R):E_122_138_2_0->Option R
 | .e0 p1 p2 p3 p5=>k (Ex.exit 4) (sx 176 [(0,CV.ptr 1 []),(13,CV.ptr 3 [])] [Blk.mem (CV.pure (Ty.arr 32 (Ty.int u8)) p1),Blk.mem (CV.pure (Ty.arr 8 (Ty.int u32)) p2),Blk.mem (CV.pure (Ty.arr 64 (Ty.int u32)) p3),Blk.mem (CV.pure (Ty.arr 8 (Ty.int u32)) p5)] 3)
noncomputable def Sp.S_122_138_2_0{R:Type}(K:Int->List Int->List Int->List Int->List Int->List Int->Option R)(k:E_122_138_2_0->Option R)(p0:Int)(p1 p2 p3 p4 p5:List Int):Option R:=
 bif decide (p0<64)then gd (p_146 (getD p5 4 0) 6) (gd (p_146 (getD p5 4 0) 11) (gd (p_146 (getD p5 4 0) 25) (gd (inB p0 64) (gd (decide (toNat p0<64)&&true) (gd (inB p0 64) (gd (decide (toNat p0<64)&&true) (gd (p_146 (getD p5 0 0) 2) (gd (p_146 (getD p5 0 0) 13) (gd (p_146 (getD p5 0 0) 22) (K (wrap i64 (p0+1)) p1 p2 p3 p4 [wrap u32 (wrap u32 (wrap u32 (wrap u32 (wrap u32 (getD p5 7 0+Sp.xorI u32 (Sp.xorI u32 ((v_146 (getD p5 4 0) 6).1) ((v_146 (getD p5 4 0) 11).1)) ((v_146 (getD p5 4 0) 25).1))+Sp.xorI u32 (Sp.andI u32 (getD p5 4 0) (getD p5 5 0)) (Sp.andI u32 (Sp.xorI u32 4294967295 (getD p5 4 0)) (getD p5 6 0)))+getD p3 (toNat p0) 0)+getD p4 (toNat p0) 0)+wrap u32 (Sp.xorI u32 (Sp.xorI u32 ((v_146 (getD p5 0 0) 2).1) ((v_146 (getD p5 0 0) 13).1)) ((v_146 (getD p5 0 0) 22).1)+Sp.xorI u32 (Sp.xorI u32 (Sp.andI u32 (getD p5 0 0) (getD p5 1 0)) (Sp.andI u32 (getD p5 0 0) (getD p5 2 0))) (Sp.andI u32 (getD p5 1 0) (getD p5 2 0)))),getD p5 0 0,getD p5 1 0,getD p5 2 0,wrap u32 (getD p5 3 0+wrap u32 (wrap u32 (wrap u32 (wrap u32 (getD p5 7 0+Sp.xorI u32 (Sp.xorI u32 ((v_146 (getD p5 4 0) 6).1) ((v_146 (getD p5 4 0) 11).1)) ((v_146 (getD p5 4 0) 25).1))+Sp.xorI u32 (Sp.andI u32 (getD p5 4 0) (getD p5 5 0)) (Sp.andI u32 (Sp.xorI u32 4294967295 (getD p5 4 0)) (getD p5 6 0)))+getD p3 (toNat p0) 0)+getD p4 (toNat p0) 0)),getD p5 4 0,getD p5 5 0,getD p5 6 0]))))))))))else k (E_122_138_2_0.e0 p1 p2 p3 p5)
noncomputable def Sp.L_122_138_2_0:Nat->Int->List Int->List Int->List Int->List Int->List Int->Option E_122_138_2_0
 |0,_,_,_,_,_,_=>none
 |m+1,p0,p1,p2,p3,p4,p5=>S_122_138_2_0 (L_122_138_2_0 m) some p0 p1 p2 p3 p4 p5
noncomputable def l_122_138_2_0(m:Nat)(a:T_122_138_2_0.E):Option E_122_138_2_0:=L_122_138_2_0 m a.1 a.2.1 a.2.2.1 a.2.2.2.1 a.2.2.2.2.1 a.2.2.2.2.2.1
noncomputable def O_122_138_2_0{R:Type}:Orc R:=orL T_122_138_2_0 (l_122_138_2_0 FU) Y_122_138_2_0
theorem OK_122_138_2_0{R:Type}:okF (R:=R) sm_122 0 (nf 138 2) O_122_138_2_0:=lp0 T_122_138_2_0 l_122_138_2_0 (fun R K k a=>S_122_138_2_0 (fun p0 p1 p2 p3 p4 p5=>K (p0,p1,p2,p3,p4,p5,())) k a.1 a.2.1 a.2.2.1 a.2.2.2.1 a.2.2.2.2.1 a.2.2.2.2.2.1) Y_122_138_2_0 (fun _ _ _=>by kernel_rfl) (fun _ _ _=>by
 unfold S_122_138_2_0
 repeat' first|apply gdN|apply condN|rfl) (ok0 _)
noncomputable def T_122_138_2_1:PS:=⟨176,[(0,.kc (.ptr 1 [])),(1,.kc (.ptr 2 [])),(6,.kc (.ptr 4 [])),(13,.kc (.ptr 5 [])),(77,.hv (.int .i64))],[.mem (.hv (.arr 32 (.int .u8))),.mem (.hv (.arr 8 (.int .u32))),.mem (.hv (.arr 64 (.int .u32))),.mem (.hv (.arr 128 (.int .u8))),.mem (.hv (.arr 64 (.int .u32))),.mem (.hv (.arr 8 (.int .u32)))],4⟩
inductive Sp.E_122_138_2_1 where
 |e0 (p1 p2 p3 p4 p6:List Int)
noncomputable def Sp.B_122_138_2_1{R:Type}(r:Option E_122_138_2_1)(k0:List Int->List Int->List Int->List Int->List Int->Option R):Option R:=match r with
 |none=>none
 |some (.e0 p1 p2 p3 p4 p6)=>k0 p1 p2 p3 p4 p6
theorem Bn_122_138_2_1{A R:Type}{r:Option E_122_138_2_1}{f:A->Option R}{k0:List Int->List Int->List Int->List Int->List Int->Option A}{l0:List Int->List Int->List Int->List Int->List Int->Option R}(h0:∀p1 p2 p3 p4 p6,(k0 p1 p2 p3 p4 p6).bind f=l0 p1 p2 p3 p4 p6):(B_122_138_2_1 r k0).bind f=B_122_138_2_1 r l0:=by
 cases r with
 |none=>rfl
 |some e=>cases e<;>first|apply h0
noncomputable def Y_122_138_2_1{R:Type}(k:Ex->St->Option R):E_122_138_2_1->Option R
 | .e0 p1 p2 p3 p4 p6=>k (Ex.exit 4) (sx 176 [(0,CV.ptr 1 []),(13,CV.ptr 4 [])] [Blk.mem (CV.pure (Ty.arr 32 (Ty.int u8)) p1),Blk.mem (CV.pure (Ty.arr 8 (Ty.int u32)) p2),Blk.mem (CV.pure (Ty.arr 64 (Ty.int u32)) p3),Blk.mem (CV.pure (Ty.arr 128 (Ty.int u8)) p4),Blk.mem (CV.pure (Ty.arr 8 (Ty.int u32)) p6)] 4)
noncomputable def Sp.S_122_138_2_1{R:Type}(K:Int->List Int->List Int->List Int->List Int->List Int->List Int->Option R)(k:E_122_138_2_1->Option R)(p0:Int)(p1 p2 p3 p4 p5 p6:List Int):Option R:=
 bif decide (p0<64)then gd (p_146 (getD p6 4 0) 6) (gd (p_146 (getD p6 4 0) 11) (gd (p_146 (getD p6 4 0) 25) (gd (inB p0 64) (gd (decide (toNat p0<64)&&true) (gd (inB p0 64) (gd (decide (toNat p0<64)&&true) (gd (p_146 (getD p6 0 0) 2) (gd (p_146 (getD p6 0 0) 13) (gd (p_146 (getD p6 0 0) 22) (K (wrap i64 (p0+1)) p1 p2 p3 p4 p5 [wrap u32 (wrap u32 (wrap u32 (wrap u32 (wrap u32 (getD p6 7 0+Sp.xorI u32 (Sp.xorI u32 ((v_146 (getD p6 4 0) 6).1) ((v_146 (getD p6 4 0) 11).1)) ((v_146 (getD p6 4 0) 25).1))+Sp.xorI u32 (Sp.andI u32 (getD p6 4 0) (getD p6 5 0)) (Sp.andI u32 (Sp.xorI u32 4294967295 (getD p6 4 0)) (getD p6 6 0)))+getD p3 (toNat p0) 0)+getD p5 (toNat p0) 0)+wrap u32 (Sp.xorI u32 (Sp.xorI u32 ((v_146 (getD p6 0 0) 2).1) ((v_146 (getD p6 0 0) 13).1)) ((v_146 (getD p6 0 0) 22).1)+Sp.xorI u32 (Sp.xorI u32 (Sp.andI u32 (getD p6 0 0) (getD p6 1 0)) (Sp.andI u32 (getD p6 0 0) (getD p6 2 0))) (Sp.andI u32 (getD p6 1 0) (getD p6 2 0)))),getD p6 0 0,getD p6 1 0,getD p6 2 0,wrap u32 (getD p6 3 0+wrap u32 (wrap u32 (wrap u32 (wrap u32 (getD p6 7 0+Sp.xorI u32 (Sp.xorI u32 ((v_146 (getD p6 4 0) 6).1) ((v_146 (getD p6 4 0) 11).1)) ((v_146 (getD p6 4 0) 25).1))+Sp.xorI u32 (Sp.andI u32 (getD p6 4 0) (getD p6 5 0)) (Sp.andI u32 (Sp.xorI u32 4294967295 (getD p6 4 0)) (getD p6 6 0)))+getD p3 (toNat p0) 0)+getD p5 (toNat p0) 0)),getD p6 4 0,getD p6 5 0,getD p6 6 0]))))))))))else k (E_122_138_2_1.e0 p1 p2 p3 p4 p6)
noncomputable def Sp.L_122_138_2_1:Nat->Int->List Int->List Int->List Int->List Int->List Int->List Int->Option E_122_138_2_1
 |0,_,_,_,_,_,_,_=>none
 |m+1,p0,p1,p2,p3,p4,p5,p6=>S_122_138_2_1 (L_122_138_2_1 m) some p0 p1 p2 p3 p4 p5 p6
noncomputable def l_122_138_2_1(m:Nat)(a:T_122_138_2_1.E):Option E_122_138_2_1:=L_122_138_2_1 m a.1 a.2.1 a.2.2.1 a.2.2.2.1 a.2.2.2.2.1 a.2.2.2.2.2.1 a.2.2.2.2.2.2.1
noncomputable def O_122_138_2_1{R:Type}:Orc R:=orL T_122_138_2_1 (l_122_138_2_1 FU) Y_122_138_2_1 O_122_138_2_0
theorem OK_122_138_2_1{R:Type}:okF (R:=R) sm_122 0 (nf 138 2) O_122_138_2_1:=lp0 T_122_138_2_1 l_122_138_2_1 (fun R K k a=>S_122_138_2_1 (fun p0 p1 p2 p3 p4 p5 p6=>K (p0,p1,p2,p3,p4,p5,p6,())) k a.1 a.2.1 a.2.2.1 a.2.2.2.1 a.2.2.2.2.1 a.2.2.2.2.2.1 a.2.2.2.2.2.2.1) Y_122_138_2_1 (fun _ _ _=>by kernel_rfl) (fun _ _ _=>by
 unfold S_122_138_2_1
 repeat' first|apply gdN|apply condN|rfl) OK_122_138_2_0
noncomputable def T_122_138_3_0:PS:=⟨176,[(0,.kc (.ptr 1 [])),(13,.kc (.ptr 3 [])),(161,.hv (.int .i64))],[.mem (.hv (.arr 32 (.int .u8))),.mem (.hv (.arr 8 (.int .u32))),.mem (.hv (.arr 64 (.int .u32))),.mem (.hv (.arr 8 (.int .u32)))],3⟩
inductive Sp.E_122_138_3_0 where
 |e0 (p1 p2 p3:List Int)
noncomputable def Sp.B_122_138_3_0{R:Type}(r:Option E_122_138_3_0)(k0:List Int->List Int->List Int->Option R):Option R:=match r with
 |none=>none
 |some (.e0 p1 p2 p3)=>k0 p1 p2 p3
theorem Bn_122_138_3_0{A R:Type}{r:Option E_122_138_3_0}{f:A->Option R}{k0:List Int->List Int->List Int->Option A}{l0:List Int->List Int->List Int->Option R}(h0:∀p1 p2 p3,(k0 p1 p2 p3).bind f=l0 p1 p2 p3):(B_122_138_3_0 r k0).bind f=B_122_138_3_0 r l0:=by
 cases r with
 |none=>rfl
 |some e=>cases e<;>first|apply h0
noncomputable def Y_122_138_3_0{R:Type}(k:Ex->St->Option R):E_122_138_3_0->Option R
 | .e0 p1 p2 p3=>k (Ex.exit 6) (sx 176 [] [Blk.mem (CV.pure (Ty.arr 32 (Ty.int u8)) p1),Blk.mem (CV.pure (Ty.arr 8 (Ty.int u32)) p2),Blk.mem (CV.pure (Ty.arr 64 (Ty.int u32)) p3)] 3)
noncomputable def Sp.S_122_138_3_0{R:Type}(K:Int->List Int->List Int->List Int->List Int->Option R)(k:E_122_138_3_0->Option R)(p0:Int)(p1 p2 p3 p4:List Int):Option R:=
 bif decide (p0<8)then gd (inB p0 8) (gd (decide (toNat p0<8)&&true) (gd (inB p0 8) (gd (decide (toNat p0<8)&&true) (gd (inB p0 8) (gd (decide (toNat p0<8)&&true) (K (wrap i64 (p0+1)) p1 (List.set p2 (toNat p0) (wrap u32 (getD p2 (toNat p0) 0+getD p4 (toNat p0) 0))) p3 p4))))))else k (E_122_138_3_0.e0 p1 p2 p3)
noncomputable def Sp.L_122_138_3_0:Nat->Int->List Int->List Int->List Int->List Int->Option E_122_138_3_0
 |0,_,_,_,_,_=>none
 |m+1,p0,p1,p2,p3,p4=>S_122_138_3_0 (L_122_138_3_0 m) some p0 p1 p2 p3 p4
noncomputable def l_122_138_3_0(m:Nat)(a:T_122_138_3_0.E):Option E_122_138_3_0:=L_122_138_3_0 m a.1 a.2.1 a.2.2.1 a.2.2.2.1 a.2.2.2.2.1
noncomputable def O_122_138_3_0{R:Type}:Orc R:=orL T_122_138_3_0 (l_122_138_3_0 FU) Y_122_138_3_0
theorem OK_122_138_3_0{R:Type}:okF (R:=R) sm_122 0 (nf 138 3) O_122_138_3_0:=lp0 T_122_138_3_0 l_122_138_3_0 (fun R K k a=>S_122_138_3_0 (fun p0 p1 p2 p3 p4=>K (p0,p1,p2,p3,p4,())) k a.1 a.2.1 a.2.2.1 a.2.2.2.1 a.2.2.2.2.1) Y_122_138_3_0 (fun _ _ _=>by kernel_rfl) (fun _ _ _=>by
 unfold S_122_138_3_0
 repeat' first|apply gdN|apply condN|rfl) (ok0 _)
noncomputable def T_122_138_3_1:PS:=⟨176,[(0,.kc (.ptr 1 [])),(13,.kc (.ptr 4 [])),(161,.hv (.int .i64))],[.mem (.hv (.arr 32 (.int .u8))),.mem (.hv (.arr 8 (.int .u32))),.mem (.hv (.arr 64 (.int .u32))),.mem (.hv (.arr 128 (.int .u8))),.mem (.hv (.arr 8 (.int .u32)))],4⟩
inductive Sp.E_122_138_3_1 where
 |e0 (p1 p2 p3 p4:List Int)
noncomputable def Sp.B_122_138_3_1{R:Type}(r:Option E_122_138_3_1)(k0:List Int->List Int->List Int->List Int->Option R):Option R:=match r with
 |none=>none
 |some (.e0 p1 p2 p3 p4)=>k0 p1 p2 p3 p4
theorem Bn_122_138_3_1{A R:Type}{r:Option E_122_138_3_1}{f:A->Option R}{k0:List Int->List Int->List Int->List Int->Option A}{l0:List Int->List Int->List Int->List Int->Option R}(h0:∀p1 p2 p3 p4,(k0 p1 p2 p3 p4).bind f=l0 p1 p2 p3 p4):(B_122_138_3_1 r k0).bind f=B_122_138_3_1 r l0:=by
 cases r with
 |none=>rfl
 |some e=>cases e<;>first|apply h0
noncomputable def Y_122_138_3_1{R:Type}(k:Ex->St->Option R):E_122_138_3_1->Option R
 | .e0 p1 p2 p3 p4=>k (Ex.exit 6) (sx 176 [] [Blk.mem (CV.pure (Ty.arr 32 (Ty.int u8)) p1),Blk.mem (CV.pure (Ty.arr 8 (Ty.int u32)) p2),Blk.mem (CV.pure (Ty.arr 64 (Ty.int u32)) p3),Blk.mem (CV.pure (Ty.arr 128 (Ty.int u8)) p4)] 4)
noncomputable def Sp.S_122_138_3_1{R:Type}(K:Int->List Int->List Int->List Int->List Int->List Int->Option R)(k:E_122_138_3_1->Option R)(p0:Int)(p1 p2 p3 p4 p5:List Int):Option R:=
 bif decide (p0<8)then gd (inB p0 8) (gd (decide (toNat p0<8)&&true) (gd (inB p0 8) (gd (decide (toNat p0<8)&&true) (gd (inB p0 8) (gd (decide (toNat p0<8)&&true) (K (wrap i64 (p0+1)) p1 (List.set p2 (toNat p0) (wrap u32 (getD p2 (toNat p0) 0+getD p5 (toNat p0) 0))) p3 p4 p5))))))else k (E_122_138_3_1.e0 p1 p2 p3 p4)
noncomputable def Sp.L_122_138_3_1:Nat->Int->List Int->List Int->List Int->List Int->List Int->Option E_122_138_3_1
 |0,_,_,_,_,_,_=>none
 |m+1,p0,p1,p2,p3,p4,p5=>S_122_138_3_1 (L_122_138_3_1 m) some p0 p1 p2 p3 p4 p5
noncomputable def l_122_138_3_1(m:Nat)(a:T_122_138_3_1.E):Option E_122_138_3_1:=L_122_138_3_1 m a.1 a.2.1 a.2.2.1 a.2.2.2.1 a.2.2.2.2.1 a.2.2.2.2.2.1
noncomputable def O_122_138_3_1{R:Type}:Orc R:=orL T_122_138_3_1 (l_122_138_3_1 FU) Y_122_138_3_1 O_122_138_3_0
theorem OK_122_138_3_1{R:Type}:okF (R:=R) sm_122 0 (nf 138 3) O_122_138_3_1:=lp0 T_122_138_3_1 l_122_138_3_1 (fun R K k a=>S_122_138_3_1 (fun p0 p1 p2 p3 p4 p5=>K (p0,p1,p2,p3,p4,p5,())) k a.1 a.2.1 a.2.2.1 a.2.2.2.1 a.2.2.2.2.1 a.2.2.2.2.2.1) Y_122_138_3_1 (fun _ _ _=>by kernel_rfl) (fun _ _ _=>by
 unfold S_122_138_3_1
 repeat' first|apply gdN|apply condN|rfl) OK_122_138_3_0
noncomputable def g_122_138{R:Type}:List CV->List Blk->(CV->List Blk->Option R)->Option R:=evFnL sm_122 FU (ovr noO (evFn sm_122 fns FU 0)) (mkT (fB fns 138) [O_122_138_0_1,O_122_138_1_1,O_122_138_2_1,O_122_138_3_1]) (fO fns 138)
theorem g_122_138_ok{R:Type}(args:List CV)(hp:List Blk)(k:CV->List Blk->Option R)(r:R)(h:g_122_138 args hp k=some r):evFn sm_122 fns FU 1 138 args hp k=some r:=runG noO_ok (os:=[O_122_138_0_1,O_122_138_1_1,O_122_138_2_1,O_122_138_3_1]) ⟨OK_122_138_0_1,OK_122_138_1_1,OK_122_138_2_1,OK_122_138_3_1,trivial⟩ h
noncomputable def ov_122_122{R:Type}:Nat->Option (List CV->List Blk->(CV->List Blk->Option R)->Option R):=fun f'=>bif Nat.beq f' 138 then some g_122_138 else none
theorem ov_122_122_ok{R:Type}:OvrOK (R:=R) ov_122_122 (evFn sm_122 fns FU 1):=by
 intro f' g h args hp k r hg
 dsimp only[ov_122_122]at h
 by_cases h138:f'=138
 ·subst h138
  injection h with h
  subst h
  exact evFn_le 0 (g_122_138_ok _ _ _ _ hg)
 rw[nbeq_ne h138,cond_false]at h
 cases h
noncomputable def T_122_0:PS:=⟨72,[(0,.hv (.slice (.int .u8))),(2,.kc (.ptr 0 [])),(3,.kc (.ptr 1 [])),(4,.kc (.ptr 2 [])),(5,.hv (.slice (.int .u8)))],[.mem (.hv (.arr 32 (.int .u8))),.mem (.hv (.arr 8 (.int .u32))),.mem (.hv (.arr 64 (.int .u32)))],0⟩
inductive Sp.E_122_0 where
 |e0 (p0 p1 p2 p3 p4:List Int)
noncomputable def Sp.B_122_0{R:Type}(r:Option E_122_0)(k0:List Int->List Int->List Int->List Int->List Int->Option R):Option R:=match r with
 |none=>none
 |some (.e0 p0 p1 p2 p3 p4)=>k0 p0 p1 p2 p3 p4
noncomputable def Y_122_0{R:Type}(k:Ex->St->Option R):E_122_0->Option R
 | .e0 p0 p1 p2 p3 p4=>k (Ex.exit 0) (sx 72 [(0,CV.pure (Ty.slice (Ty.int u8)) p0),(2,CV.ptr 0 []),(3,CV.ptr 1 []),(4,CV.ptr 2 []),(5,CV.pure (Ty.slice (Ty.int u8)) p1)] [Blk.mem (CV.pure (Ty.arr 32 (Ty.int u8)) p2),Blk.mem (CV.pure (Ty.arr 8 (Ty.int u32)) p3),Blk.mem (CV.pure (Ty.arr 64 (Ty.int u32)) p4)])
noncomputable def Sp.S_122_0{R:Type}(K:List Int->List Int->List Int->List Int->List Int->Option R)(k:E_122_0->Option R)(p0 p1 p2 p3 p4:List Int):Option R:=
 bif decide ((↑(length p1):Int)>=64)then gd (sl3 0 64 (↑(length p1):Int)) (B_122_138_0_0 (L_122_138_0_0 4611686018427387904 (take 64 (drop 0 p1)) 0 p2 p3 p4 (replicate 64 (0:Int))) fun y19 y20 y21 y22=>B_122_138_1_0 (L_122_138_1_0 4611686018427387904 16 y19 y20 y21 y22) fun y23 y24 y25 y26=>B_122_138_2_0 (L_122_138_2_0 4611686018427387904 0 y23 y24 y25 y26 y24) fun y27 y28 y29 y30=>B_122_138_3_0 (L_122_138_3_0 4611686018427387904 0 y27 y28 y29 y30) fun y31 y32 y33=>gd (sl3 64 (↑(length p1):Int) (↑(length p1):Int)) (K p0 (drop 64 p1) y31 y32 y33))else k (E_122_0.e0 p0 p1 p2 p3 p4)
noncomputable def Sp.L_122_0:Nat->List Int->List Int->List Int->List Int->List Int->Option E_122_0
 |0,_,_,_,_,_=>none
 |m+1,p0,p1,p2,p3,p4=>S_122_0 (L_122_0 m) some p0 p1 p2 p3 p4
noncomputable def l_122_0(m:Nat)(a:T_122_0.E):Option E_122_0:=L_122_0 m a.1 a.2.1 a.2.2.1 a.2.2.2.1 a.2.2.2.2.1
noncomputable def O_122_0{R:Type}:Orc R:=orL T_122_0 (l_122_0 FU) Y_122_0
theorem OK_122_0{R:Type}:okF (R:=R) sm_122 1 (nf 122 0) O_122_0:=lp ov_122_122_ok (os:=[]) trivial T_122_0 l_122_0 (fun R K k a=>S_122_0 (fun p0 p1 p2 p3 p4=>K (p0,p1,p2,p3,p4,())) k a.1 a.2.1 a.2.2.1 a.2.2.2.1 a.2.2.2.2.1) Y_122_0 (fun _=>rfl) (fun _ _=>rfl) (fun k K a=>by kernel_rfl) (fun Y K a=>by
 unfold S_122_0
 repeat' first|apply gdN|apply condN|(apply Bn_122_138_0_0<;>intros)|(apply Bn_122_138_1_0<;>intros)|(apply Bn_122_138_2_0<;>intros)|(apply Bn_122_138_3_0<;>intros)|rfl) (ok0 _)
noncomputable def T_122_2:PS:=⟨72,[(2,.kc (.ptr 0 [])),(3,.kc (.ptr 1 [])),(4,.kc (.ptr 2 [])),(6,.kc (.ptr 3 [])),(8,.hv (.int .i64)),(10,.hv (.int .i64))],[.mem (.hv (.arr 32 (.int .u8))),.mem (.hv (.arr 8 (.int .u32))),.mem (.hv (.arr 64 (.int .u32))),.mem (.hv (.arr 128 (.int .u8)))],0⟩
inductive Sp.E_122_2 where
 |e0 (p2 p3:List Int)
noncomputable def Sp.B_122_2{R:Type}(r:Option E_122_2)(k0:List Int->List Int->Option R):Option R:=match r with
 |none=>none
 |some (.e0 p2 p3)=>k0 p2 p3
theorem Bn_122_2{A R:Type}{r:Option E_122_2}{f:A->Option R}{k0:List Int->List Int->Option A}{l0:List Int->List Int->Option R}(h0:∀p2 p3,(k0 p2 p3).bind f=l0 p2 p3):(B_122_2 r k0).bind f=B_122_2 r l0:=by
 cases r with
 |none=>rfl
 |some e=>cases e<;>first|apply h0
noncomputable def Y_122_2{R:Type}(k:Ex->St->Option R):E_122_2->Option R
 | .e0 p2 p3=>k (Ex.exit 2) (sx 72 [(2,CV.ptr 0 []),(3,CV.ptr 1 [])] [Blk.mem (CV.pure (Ty.arr 32 (Ty.int u8)) p2),Blk.mem (CV.pure (Ty.arr 8 (Ty.int u32)) p3)])
noncomputable def Sp.S_122_2{R:Type}(K:Int->Int->List Int->List Int->List Int->List Int->Option R)(k:E_122_2->Option R)(p0 p1:Int)(p2 p3 p4 p5:List Int):Option R:=
 bif decide (p1<p0)then gd (sl3 p1 (wrap i64 (p1+64)) 128) (B_122_138_0_1 (L_122_138_0_1 4611686018427387904 (toNat p1) (toNat (wrap i64 (p1+64))-toNat p1) (128-toNat p1) 0 p2 p3 p4 p5 (replicate 64 (0:Int))) fun y19 y20 y21 y22 y23=>B_122_138_1_1 (L_122_138_1_1 4611686018427387904 16 y19 y20 y21 y22 y23) fun y24 y25 y26 y27 y28=>B_122_138_2_1 (L_122_138_2_1 4611686018427387904 0 y24 y25 y26 y27 y28 y25) fun y29 y30 y31 y32 y33=>B_122_138_3_1 (L_122_138_3_1 4611686018427387904 0 y29 y30 y31 y32 y33) fun y34 y35 y36 y37=>K p0 (wrap i64 (p1+64)) y34 y35 y36 y37)else k (E_122_2.e0 p2 p3)
noncomputable def Sp.L_122_2:Nat->Int->Int->List Int->List Int->List Int->List Int->Option E_122_2
 |0,_,_,_,_,_,_=>none
 |m+1,p0,p1,p2,p3,p4,p5=>S_122_2 (L_122_2 m) some p0 p1 p2 p3 p4 p5
noncomputable def l_122_2(m:Nat)(a:T_122_2.E):Option E_122_2:=L_122_2 m a.1 a.2.1 a.2.2.1 a.2.2.2.1 a.2.2.2.2.1 a.2.2.2.2.2.1
noncomputable def O_122_2{R:Type}:Orc R:=orL T_122_2 (l_122_2 FU) Y_122_2
theorem OK_122_2{R:Type}:okF (R:=R) sm_122 1 (ni (nf 122 1) 0) O_122_2:=lp ov_122_122_ok (os:=[]) trivial T_122_2 l_122_2 (fun R K k a=>S_122_2 (fun p0 p1 p2 p3 p4 p5=>K (p0,p1,p2,p3,p4,p5,())) k a.1 a.2.1 a.2.2.1 a.2.2.2.1 a.2.2.2.2.1 a.2.2.2.2.2.1) Y_122_2 (fun _=>rfl) (fun _ _=>rfl) (fun k K a=>by kernel_rfl) (fun Y K a=>by
 unfold S_122_2
 repeat' first|apply gdN|apply condN|(apply Bn_122_138_0_1<;>intros)|(apply Bn_122_138_1_1<;>intros)|(apply Bn_122_138_2_1<;>intros)|(apply Bn_122_138_3_1<;>intros)|rfl) (ok0 _)
noncomputable def T_122_3:PS:=⟨72,[(2,.kc (.ptr 0 [])),(11,.kc (.ptr 1 [])),(60,.hv (.arr 8 (.int .u32))),(61,.hv (.int .i64))],[.mem (.hv (.arr 32 (.int .u8))),.mem (.hv (.arr 32 (.int .u8)))],0⟩
inductive Sp.E_122_3 where
 |e0 (p2 p3:List Int)
noncomputable def Sp.B_122_3{R:Type}(r:Option E_122_3)(k0:List Int->List Int->Option R):Option R:=match r with
 |none=>none
 |some (.e0 p2 p3)=>k0 p2 p3
theorem Bn_122_3{A R:Type}{r:Option E_122_3}{f:A->Option R}{k0:List Int->List Int->Option A}{l0:List Int->List Int->Option R}(h0:∀p2 p3,(k0 p2 p3).bind f=l0 p2 p3):(B_122_3 r k0).bind f=B_122_3 r l0:=by
 cases r with
 |none=>rfl
 |some e=>cases e<;>first|apply h0
noncomputable def Y_122_3{R:Type}(k:Ex->St->Option R):E_122_3->Option R
 | .e0 p2 p3=>k (Ex.exit 4) (sx 72 [(2,CV.ptr 0 []),(11,CV.ptr 1 [])] [Blk.mem (CV.pure (Ty.arr 32 (Ty.int u8)) p2),Blk.mem (CV.pure (Ty.arr 32 (Ty.int u8)) p3)])
noncomputable def Sp.S_122_3{R:Type}(K:List Int->Int->List Int->List Int->Option R)(k:E_122_3->Option R)(p0:List Int)(p1:Int)(p2 p3:List Int):Option R:=
 bif decide (p1<8)then gd (inB p1 8) (gd (sl3 (wrap i64 (4*p1)) 32 32) (gd (inB 0 (32-toNat (wrap i64 (4*p1)))) (gd (decide (toNat (wrap i64 (4*p1))+(0:Nat)<(32:Nat))&&true) (gd (inB 1 (32-toNat (wrap i64 (4*p1)))) (gd (decide (toNat (wrap i64 (4*p1))+(1:Nat)<(32:Nat))&&true) (gd (inB 2 (32-toNat (wrap i64 (4*p1)))) (gd (decide (toNat (wrap i64 (4*p1))+(2:Nat)<(32:Nat))&&true) (gd (inB 3 (32-toNat (wrap i64 (4*p1)))) (gd (decide (toNat (wrap i64 (4*p1))+(3:Nat)<(32:Nat))&&true) (K p0 (wrap i64 (p1+1)) p2 (List.set (List.set (List.set (List.set p3 (toNat (wrap i64 (4*p1))+0) (wrap u8 (Int.fdiv (getD p0 (toNat p1) 0) 16777216))) (toNat (wrap i64 (4*p1))+1) (wrap u8 (Int.fdiv (getD p0 (toNat p1) 0) 65536))) (toNat (wrap i64 (4*p1))+2) (wrap u8 (Int.fdiv (getD p0 (toNat p1) 0) 256))) (toNat (wrap i64 (4*p1))+3) (wrap u8 (getD p0 (toNat p1) 0)))))))))))))else k (E_122_3.e0 p2 p3)
noncomputable def Sp.L_122_3:Nat->List Int->Int->List Int->List Int->Option E_122_3
 |0,_,_,_,_=>none
 |m+1,p0,p1,p2,p3=>S_122_3 (L_122_3 m) some p0 p1 p2 p3
noncomputable def l_122_3(m:Nat)(a:T_122_3.E):Option E_122_3:=L_122_3 m a.1 a.2.1 a.2.2.1 a.2.2.2.1
noncomputable def O_122_3{R:Type}:Orc R:=orL T_122_3 (l_122_3 FU) Y_122_3
theorem OK_122_3{R:Type}:okF (R:=R) sm_122 1 (ni (nf 122 1) 1) O_122_3:=lp ov_122_122_ok (os:=[]) trivial T_122_3 l_122_3 (fun R K k a=>S_122_3 (fun p0 p1 p2 p3=>K (p0,p1,p2,p3,())) k a.1 a.2.1 a.2.2.1 a.2.2.2.1) Y_122_3 (fun _=>rfl) (fun _ _=>rfl) (fun k K a=>by kernel_rfl) (fun Y K a=>by
 unfold S_122_3
 repeat' first|apply gdN|apply condN|rfl) (ok0 _)
noncomputable def T_122_1:PS:=⟨72,[(0,.hv (.slice (.int .u8))),(2,.kc (.ptr 0 [])),(3,.kc (.ptr 1 [])),(4,.kc (.ptr 2 [])),(6,.kc (.ptr 3 [])),(8,.hv (.int .i64))],[.mem (.hv (.arr 32 (.int .u8))),.mem (.hv (.arr 8 (.int .u32))),.mem (.hv (.arr 64 (.int .u32))),.mem (.hv (.arr 128 (.int .u8)))],0⟩
inductive Sp.E_122_1 where
 |e0 (y7:List Int)
noncomputable def Sp.B_122_1{R:Type}(r:Option E_122_1)(k0:List Int->Option R):Option R:=match r with
 |none=>none
 |some (.e0 y7)=>k0 y7
noncomputable def Y_122_1{R:Type}(k:Ex->St->Option R):E_122_1->Option R
 | .e0 y7=>k Ex.ret (sx 72 [(2,CV.ptr 0 [])] [Blk.mem (CV.pure (Ty.arr 32 (Ty.int u8)) y7)])
noncomputable def Sp.S_122_1{R:Type}(k:E_122_1->Option R)(p0:List Int)(p1:Int)(p2 p3 p4 p5:List Int):Option R:=
 gd (sl3 (wrap i64 (p1-8)) 128 128) (gd (inB 0 (128-toNat (wrap i64 (p1-8)))) (gd (decide (toNat (wrap i64 (p1-8))+(0:Nat)<(128:Nat))&&true) (gd (inB 1 (128-toNat (wrap i64 (p1-8)))) (gd (decide (toNat (wrap i64 (p1-8))+(1:Nat)<(128:Nat))&&true) (gd (inB 2 (128-toNat (wrap i64 (p1-8)))) (gd (decide (toNat (wrap i64 (p1-8))+(2:Nat)<(128:Nat))&&true) (gd (inB 3 (128-toNat (wrap i64 (p1-8)))) (gd (decide (toNat (wrap i64 (p1-8))+(3:Nat)<(128:Nat))&&true) (gd (sl3 (wrap i64 (p1-4)) 128 128) (gd (inB 0 (128-toNat (wrap i64 (p1-4)))) (gd (decide (toNat (wrap i64 (p1-4))+(0:Nat)<(128:Nat))&&true) (gd (inB 1 (128-toNat (wrap i64 (p1-4)))) (gd (decide (toNat (wrap i64 (p1-4))+(1:Nat)<(128:Nat))&&true) (gd (inB 2 (128-toNat (wrap i64 (p1-4)))) (gd (decide (toNat (wrap i64 (p1-4))+(2:Nat)<(128:Nat))&&true) (gd (inB 3 (128-toNat (wrap i64 (p1-4)))) (gd (decide (toNat (wrap i64 (p1-4))+(3:Nat)<(128:Nat))&&true) (B_122_2 (L_122_2 4611686018427387904 p1 0 p2 p3 p4 (List.set (List.set (List.set (List.set (List.set (List.set (List.set (List.set p5 (toNat (wrap i64 (p1-8))+0) (wrap u8 (Int.fdiv (wrap u32 (Int.fdiv (wrap u64 (wrap u64 (↑(length p0):Int)*8)) 4294967296)) 16777216))) (toNat (wrap i64 (p1-8))+1) (wrap u8 (Int.fdiv (wrap u32 (Int.fdiv (wrap u64 (wrap u64 (↑(length p0):Int)*8)) 4294967296)) 65536))) (toNat (wrap i64 (p1-8))+2) (wrap u8 (Int.fdiv (wrap u32 (Int.fdiv (wrap u64 (wrap u64 (↑(length p0):Int)*8)) 4294967296)) 256))) (toNat (wrap i64 (p1-8))+3) (wrap u8 (wrap u32 (Int.fdiv (wrap u64 (wrap u64 (↑(length p0):Int)*8)) 4294967296)))) (toNat (wrap i64 (p1-4))+0) (wrap u8 (Int.fdiv (wrap u32 (wrap u64 (wrap u64 (↑(length p0):Int)*8))) 16777216))) (toNat (wrap i64 (p1-4))+1) (wrap u8 (Int.fdiv (wrap u32 (wrap u64 (wrap u64 (↑(length p0):Int)*8))) 65536))) (toNat (wrap i64 (p1-4))+2) (wrap u8 (Int.fdiv (wrap u32 (wrap u64 (wrap u64 (↑(length p0):Int)*8))) 256))) (toNat (wrap i64 (p1-4))+3) (wrap u8 (wrap u32 (wrap u64 (wrap u64 (↑(length p0):Int)*8)))))) fun y4 y5=>B_122_3 (L_122_3 4611686018427387904 y5 0 y4 (replicate 32 (0:Int))) fun y6 y7=>k (E_122_1.e0 y7)))))))))))))))))))
noncomputable def Sp.J_122_1(p0:List Int)(p1:Int)(p2 p3 p4 p5:List Int):Option E_122_1:=S_122_1 some p0 p1 p2 p3 p4 p5
noncomputable def O_122_1{R:Type}:Orc R:=orL T_122_1 (fun a=>J_122_1 a.1 a.2.1 a.2.2.1 a.2.2.2.1 a.2.2.2.2.1 a.2.2.2.2.2.1) Y_122_1
theorem OK_122_1{R:Type}:okF (R:=R) sm_122 1 (nf 122 1) O_122_1:=jp ov_122_122_ok (os:=[O_122_2,O_122_3]) ⟨OK_122_2,OK_122_3,trivial⟩ T_122_1 (fun R k a=>S_122_1 k a.1 a.2.1 a.2.2.1 a.2.2.2.1 a.2.2.2.2.1 a.2.2.2.2.2.1) Y_122_1 (fun k a=>by kernel_rfl) (fun Y a=>by
 unfold S_122_1
 repeat' first|apply gdN|apply condN|(apply Bn_122_2<;>intros)|(apply Bn_122_3<;>intros)|rfl) (ok0 _)
noncomputable def F_122(a0:(List Int)):Option ((List Int)×Unit) :=
 gd p_137 (B_122_0 (L_122_0 4611686018427387904 a0 a0 (replicate 32 (0:Int)) [1779033703,3144134277,1013904242,2773480762,1359893119,2600822924,528734635,1541459225] (v_137.1)) fun y7 y8 y9 y10 y11=>gd (inB (↑(Nat.min (length y8) 128):Int) 128) (gd (decide (toNat (↑(Nat.min (length y8) 128):Int)<128)&&true) (bif decide (wrap i64 ((↑(Nat.min (length y8) 128):Int)+9)>64)then B_122_1 (J_122_1 y7 128 y9 y10 y11 (List.set (over (replicate 128 (0:Int)) 0 (take 128 y8)) (toNat (↑(Nat.min (length y8) 128):Int)) 128)) fun y12=>some (y12,PUnit.unit)else B_122_1 (J_122_1 y7 64 y9 y10 y11 (List.set (over (replicate 128 (0:Int)) 0 (take 128 y8)) (toNat (↑(Nat.min (length y8) 128):Int)) 128)) fun y13=>some (y13,PUnit.unit))))
noncomputable def Sp.p_122(a0:(List Int)):Bool:=(F_122 a0).isSome
noncomputable def Sp.v_122(a0:(List Int)):(List Int)×Unit:=(F_122 a0).getD (dfH R_122)
noncomputable def s_122:Summ:=shN A_122 R_122 (fun x=>p_122 x.1) (fun x=>v_122 x.1)
theorem pv_122(a0:(List Int)){y:(List Int)×Unit}(h:F_122 a0=some y):p_122 a0=true/\v_122 a0=y:=pvG h
theorem run_122(x:HDen A_122)(y:HDen R_122)(h:F_122 x.1=some y):rnF sm_122 2 122 A_122 R_122 x y:=runG ov_122_122_ok (os:=[O_122_0,O_122_1]) ⟨OK_122_0,OK_122_1,trivial⟩ (Eq.trans (by kernel_rfl) h)
end
noncomputable section
abbrev A_85:List Ty:=[(.arr 32 (.int .u8)),(.int .i64),(.int .i64)]
abbrev R_85:List Ty:=[(.arr 32 (.int .u8))]
noncomputable def sm_85:Nat->Option Summ:=smL [(122,s_122)]
noncomputable def T_85_0:PS:=⟨21,[(2,.hv (.int .i64)),(3,.kc (.ptr 0 [])),(6,.kc (.ptr 1 [])),(7,.hv (.int .i64))],[.mem (.hv (.arr 32 (.int .u8))),.mem (.hv (.arr 32 (.int .u8)))],0⟩
inductive Sp.E_85_0 where
 |e0 (p2 p3:List Int)
noncomputable def Sp.B_85_0{R:Type}(r:Option E_85_0)(k0:List Int->List Int->Option R):Option R:=match r with
 |none=>none
 |some (.e0 p2 p3)=>k0 p2 p3
noncomputable def Y_85_0{R:Type}(k:Ex->St->Option R):E_85_0->Option R
 | .e0 p2 p3=>k (Ex.exit 0) (sx 21 [(3,CV.ptr 0 []),(6,CV.ptr 1 [])] [Blk.mem (CV.pure (Ty.arr 32 (Ty.int u8)) p2),Blk.mem (CV.pure (Ty.arr 32 (Ty.int u8)) p3)])
noncomputable def Sp.S_85_0{R:Type}(K:Int->Int->List Int->List Int->Option R)(k:E_85_0->Option R)(p0 p1:Int)(p2 p3:List Int):Option R:=
 bif decide (p1<p0)then gd (room (1+length (take 32 (drop 0 p2))) 1) (gd (p_122 ([wrap u8 p1]++take 32 (drop 0 p2))) (K p0 (wrap i64 (p1+1)) ((v_122 ([wrap u8 p1]++take 32 (drop 0 p2))).1) p3))else k (E_85_0.e0 p2 p3)
noncomputable def Sp.L_85_0:Nat->Int->Int->List Int->List Int->Option E_85_0
 |0,_,_,_,_=>none
 |m+1,p0,p1,p2,p3=>S_85_0 (L_85_0 m) some p0 p1 p2 p3
noncomputable def l_85_0(m:Nat)(a:T_85_0.E):Option E_85_0:=L_85_0 m a.1 a.2.1 a.2.2.1 a.2.2.2.1
noncomputable def O_85_0{R:Type}:Orc R:=orL T_85_0 (l_85_0 FU) Y_85_0
theorem OK_85_0{R:Type}:okF (R:=R) sm_85 0 (nf 85 0) O_85_0:=lp0 T_85_0 l_85_0 (fun R K k a=>S_85_0 (fun p0 p1 p2 p3=>K (p0,p1,p2,p3,())) k a.1 a.2.1 a.2.2.1 a.2.2.2.1) Y_85_0 (fun _ _ _=>by kernel_rfl) (fun _ _ _=>by
 unfold S_85_0
 repeat' first|apply gdN|apply condN|rfl) (ok0 _)
noncomputable def F_85(a0:(List Int))(a1 a2:Int):Option ((List Int)×Unit) :=
 B_85_0 (L_85_0 4611686018427387904 a2 a1 a0 (replicate 32 (0:Int))) fun y2 y3=>some (y2,PUnit.unit)
noncomputable def Sp.p_85(a0:(List Int))(a1 a2:Int):Bool:=(F_85 a0 a1 a2).isSome
noncomputable def Sp.v_85(a0:(List Int))(a1 a2:Int):(List Int)×Unit:=(F_85 a0 a1 a2).getD (dfH R_85)
noncomputable def s_85:Summ:=shN A_85 R_85 (fun x=>p_85 x.1 x.2.1 x.2.2.1) (fun x=>v_85 x.1 x.2.1 x.2.2.1)
theorem pv_85(a0:(List Int))(a1 a2:Int){y:(List Int)×Unit}(h:F_85 a0 a1 a2=some y):p_85 a0 a1 a2=true/\v_85 a0 a1 a2=y:=pvG h
theorem run_85(x:HDen A_85)(y:HDen R_85)(h:F_85 x.1 x.2.1 x.2.2.1=some y):rnF sm_85 1 85 A_85 R_85 x y:=runG noO_ok (os:=[O_85_0]) ⟨OK_85_0,trivial⟩ (Eq.trans (by kernel_rfl) h)
end
noncomputable section
abbrev A_86:List Ty:=[(.slice (.arr 32 (.int .u8)))]
abbrev R_86:List Ty:=[(.arr 32 (.int .u8))]
noncomputable def sm_86:Nat->Option Summ:=smL [(122,s_122)]
noncomputable def T_86_0:PS:=⟨18,[(2,.kc (.ptr 0 [])),(3,.kc (.whole 1)),(6,.hv (.slice (.arr 32 (.int .u8)))),(7,.hv (.int .i64)),(8,.hv (.int .i64))],[.mem (.hv (.arr 32 (.int .u8))),.vec 5 (.int .u8)],0⟩
inductive Sp.E_86_0 where
 |e0 (p3 p4:List Int)
noncomputable def Sp.B_86_0{R:Type}(r:Option E_86_0)(k0:List Int->List Int->Option R):Option R:=match r with
 |none=>none
 |some (.e0 p3 p4)=>k0 p3 p4
noncomputable def Y_86_0{R:Type}(k:Ex->St->Option R):E_86_0->Option R
 | .e0 p3 p4=>k (Ex.exit 0) (sx 18 [(2,CV.ptr 0 []),(3,CV.whole 1)] [Blk.mem (CV.pure (Ty.arr 32 (Ty.int u8)) p3),Blk.vec 5 (Ty.int u8) p4])
noncomputable def Sp.S_86_0{R:Type}(K:List (List Int)->Int->Int->List Int->List Int->Option R)(k:E_86_0->Option R)(p0:List (List Int))(p1 p2:Int)(p3 p4:List Int):Option R:=
 bif decide (p2<p1)then gd (inB p2 (length p0)) (gd (room (length p4+length (take 32 (drop 0 (getD p0 (toNat p2) (Ty.dflt (Ty.arr 32 (Ty.int u8))))))) 1) (K p0 p1 (wrap i64 (p2+1)) p3 (p4++take 32 (drop 0 (getD p0 (toNat p2) (Ty.dflt (Ty.arr 32 (Ty.int u8))))))))else k (E_86_0.e0 p3 p4)
noncomputable def Sp.L_86_0:Nat->List (List Int)->Int->Int->List Int->List Int->Option E_86_0
 |0,_,_,_,_,_=>none
 |m+1,p0,p1,p2,p3,p4=>S_86_0 (L_86_0 m) some p0 p1 p2 p3 p4
noncomputable def l_86_0(m:Nat)(a:T_86_0.E):Option E_86_0:=L_86_0 m a.1 a.2.1 a.2.2.1 a.2.2.2.1 a.2.2.2.2.1
noncomputable def O_86_0{R:Type}:Orc R:=orL T_86_0 (l_86_0 FU) Y_86_0
theorem OK_86_0{R:Type}:okF (R:=R) sm_86 0 (nf 86 0) O_86_0:=lp0 T_86_0 l_86_0 (fun R K k a=>S_86_0 (fun p0 p1 p2 p3 p4=>K (p0,p1,p2,p3,p4,())) k a.1 a.2.1 a.2.2.1 a.2.2.2.1 a.2.2.2.2.1) Y_86_0 (fun _ _ _=>by kernel_rfl) (fun _ _ _=>by
 unfold S_86_0
 repeat' first|apply gdN|apply condN|rfl) (ok0 _)
noncomputable def F_86(a0:(List (List Int))):Option ((List Int)×Unit) :=
 B_86_0 (L_86_0 4611686018427387904 a0 (↑(length a0):Int) 0 (replicate 32 (0:Int)) []) fun y2 y3=>gd (p_122 y3) (some ((v_122 y3).1,PUnit.unit))
noncomputable def Sp.p_86(a0:(List (List Int))):Bool:=(F_86 a0).isSome
noncomputable def Sp.v_86(a0:(List (List Int))):(List Int)×Unit:=(F_86 a0).getD (dfH R_86)
noncomputable def s_86:Summ:=shN A_86 R_86 (fun x=>p_86 x.1) (fun x=>v_86 x.1)
theorem pv_86(a0:(List (List Int))){y:(List Int)×Unit}(h:F_86 a0=some y):p_86 a0=true/\v_86 a0=y:=pvG h
theorem run_86(x:HDen A_86)(y:HDen R_86)(h:F_86 x.1=some y):rnF sm_86 1 86 A_86 R_86 x y:=runG noO_ok (os:=[O_86_0]) ⟨OK_86_0,trivial⟩ (Eq.trans (by kernel_rfl) h)
end
noncomputable section
abbrev A_87:List Ty:=[(.arr 32 (.int .u8)),(.arr 32 (.int .u8))]
abbrev R_87:List Ty:=[(.arr 32 (.int .u8))]
noncomputable def sm_87:Nat->Option Summ:=smL [(122,s_122)]
noncomputable def F_87(a0 a1:(List Int)):Option ((List Int)×Unit) :=
 gd (room (1+length (take 32 (drop 0 a0))) 1) (gd (room (length ([255]++take 32 (drop 0 a0))+length (take 32 (drop 0 a1))) 1) (gd (p_122 ([255]++take 32 (drop 0 a0)++take 32 (drop 0 a1))) (some ((v_122 ([255]++take 32 (drop 0 a0)++take 32 (drop 0 a1))).1,PUnit.unit))))
noncomputable def Sp.p_87(a0 a1:(List Int)):Bool:=(F_87 a0 a1).isSome
noncomputable def Sp.v_87(a0 a1:(List Int)):(List Int)×Unit:=(F_87 a0 a1).getD (dfH R_87)
noncomputable def s_87:Summ:=shN A_87 R_87 (fun x=>p_87 x.1 x.2.1) (fun x=>v_87 x.1 x.2.1)
theorem pv_87(a0 a1:(List Int)){y:(List Int)×Unit}(h:F_87 a0 a1=some y):p_87 a0 a1=true/\v_87 a0 a1=y:=pvG h
theorem run_87(x:HDen A_87)(y:HDen R_87)(h:F_87 x.1 x.2.1=some y):rnF sm_87 1 87 A_87 R_87 x y:=runG noO_ok (os:=[]) trivial (Eq.trans (by kernel_rfl) h)
end
noncomputable section
abbrev Zy45_0:Ty:=(.pair (.int .i64) (.pair (.slice (.arr 32 (.int .u8))) (.pair (.slice (.arr 32 (.int .u8))) .unit)))
abbrev Zt45_1:Type:=Int×List (List Int)×List (List Int)×Unit
abbrev A_45:List Ty:=[(.arr 32 (.int .u8)),(.arr 32 (.int .u8)),(.pair (.int .i64) (.pair (.slice (.arr 32 (.int .u8))) (.pair (.slice (.arr 32 (.int .u8))) .unit)))]
abbrev R_45:List Ty:=[.bool]
noncomputable def sm_45:Nat->Option Summ:=smL [(83,s_83),(84,s_84),(85,s_85),(86,s_86),(87,s_87)]
noncomputable def T_45_0:PS:=⟨61,[(3,.kc (.ptr 0 [])),(5,.kc (.ptr 1 [])),(7,.kc (.whole 2)),(17,.hv (.slice (.int .i64))),(18,.hv (.int .i64)),(19,.hv (.int .i64))],[.mem (.hv (.arr 32 (.int .u8))),.mem (.hv Zy45_0),.vec 23 (.arr 32 (.int .u8))],0⟩
inductive Sp.E_45_0 where
 |e0 (p3:List Int) (p4:Zt45_1) (p5:List (List Int))
noncomputable def Sp.B_45_0{R:Type}(r:Option E_45_0)(k0:List Int->Zt45_1->List (List Int)->Option R):Option R:=match r with
 |none=>none
 |some (.e0 p3 p4 p5)=>k0 p3 p4 p5
noncomputable def Y_45_0{R:Type}(k:Ex->St->Option R):E_45_0->Option R
 | .e0 p3 p4 p5=>k (Ex.exit 0) (sx 61 [(3,CV.ptr 0 []),(5,CV.ptr 1 []),(7,CV.whole 2)] [Blk.mem (CV.pure (Ty.arr 32 (Ty.int u8)) p3),Blk.mem (CV.pure (Ty.pair (Ty.int i64) (Ty.pair (Ty.slice (Ty.arr 32 (Ty.int u8))) (Ty.pair (Ty.slice (Ty.arr 32 (Ty.int u8))) Ty.unit))) p4),Blk.vec 23 (Ty.arr 32 (Ty.int u8)) p5])
noncomputable def Sp.S_45_0{R:Type}(K:List Int->Int->Int->List Int->(Int×List (List Int)×List (List Int)×Unit)->List (List Int)->Option R)(k:E_45_0->Option R)(p0:List Int)(p1 p2:Int)(p3:List Int)(p4:Int×List (List Int)×List (List Int)×Unit)(p5:List (List Int)):Option R:=
 bif decide (p2<p1)then gd (inB p2 (length p0)) (gd (inB p2 (length (p4.2.1))) (gd (p_85 (getD (p4.2.1) (toNat p2) (Ty.dflt (Ty.arr 32 (Ty.int u8)))) (getD p0 (toNat p2) 0) 15) (gd (room (length p5+1) 32) (K p0 p1 (wrap i64 (p2+1)) p3 p4 (p5++[(v_85 (getD (p4.2.1) (toNat p2) (Ty.dflt (Ty.arr 32 (Ty.int u8)))) (getD p0 (toNat p2) 0) 15).1])))))else k (E_45_0.e0 p3 p4 p5)
noncomputable def Sp.L_45_0:Nat->List Int->Int->Int->List Int->(Int×List (List Int)×List (List Int)×Unit)->List (List Int)->Option E_45_0
 |0,_,_,_,_,_,_=>none
 |m+1,p0,p1,p2,p3,p4,p5=>S_45_0 (L_45_0 m) some p0 p1 p2 p3 p4 p5
noncomputable def l_45_0(m:Nat)(a:T_45_0.E):Option E_45_0:=L_45_0 m a.1 a.2.1 a.2.2.1 a.2.2.2.1 a.2.2.2.2.1 a.2.2.2.2.2.1
noncomputable def O_45_0{R:Type}:Orc R:=orL T_45_0 (l_45_0 FU) Y_45_0
theorem OK_45_0{R:Type}:okF (R:=R) sm_45 0 (nf 45 0) O_45_0:=lp0 T_45_0 l_45_0 (fun R K k a=>S_45_0 (fun p0 p1 p2 p3 p4 p5=>K (p0,p1,p2,p3,p4,p5,())) k a.1 a.2.1 a.2.2.1 a.2.2.2.1 a.2.2.2.2.1 a.2.2.2.2.2.1) Y_45_0 (fun _ _ _=>by kernel_rfl) (fun _ _ _=>by
 unfold S_45_0
 repeat' first|apply gdN|apply condN|rfl) (ok0 _)
noncomputable def T_45_1:PS:=⟨61,[(3,.kc (.ptr 0 [])),(5,.kc (.ptr 1 [])),(10,.kc (.ptr 2 [])),(38,.hv (.slice (.arr 32 (.int .u8)))),(39,.hv (.int .i64)),(40,.hv (.int .i64))],[.mem (.hv (.arr 32 (.int .u8))),.mem (.hv Zy45_0),.mem (.hv (.arr 32 (.int .u8)))],0⟩
inductive Sp.E_45_1 where
 |e0 (p3 p5:List Int)
noncomputable def Sp.B_45_1{R:Type}(r:Option E_45_1)(k0:List Int->List Int->Option R):Option R:=match r with
 |none=>none
 |some (.e0 p3 p5)=>k0 p3 p5
noncomputable def Y_45_1{R:Type}(k:Ex->St->Option R):E_45_1->Option R
 | .e0 p3 p5=>k (Ex.exit 2) (sx 61 [(3,CV.ptr 0 []),(10,CV.ptr 1 [])] [Blk.mem (CV.pure (Ty.arr 32 (Ty.int u8)) p3),Blk.mem (CV.pure (Ty.arr 32 (Ty.int u8)) p5)])
noncomputable def Sp.S_45_1{R:Type}(K:List (List Int)->Int->Int->List Int->(Int×List (List Int)×List (List Int)×Unit)->List Int->Option R)(k:E_45_1->Option R)(p0:List (List Int))(p1 p2:Int)(p3:List Int)(p4:Int×List (List Int)×List (List Int)×Unit)(p5:List Int):Option R:=
 bif decide (p2<p1)then gd (inB p2 (length p0)) (gd (decide (0<=p2)) (bif Sp.andI i64 (Int.fdiv (p4.1) (2^Nat.min (toNat p2) 64)) (1:Int)==(1:Int)then gd (p_87 (getD p0 (toNat p2) (Ty.dflt (Ty.arr 32 (Ty.int u8)))) p5) (K p0 p1 (wrap i64 (p2+1)) p3 p4 ((v_87 (getD p0 (toNat p2) (Ty.dflt (Ty.arr 32 (Ty.int u8)))) p5).1))else gd (p_87 p5 (getD p0 (toNat p2) (Ty.dflt (Ty.arr 32 (Ty.int u8))))) (K p0 p1 (wrap i64 (p2+1)) p3 p4 ((v_87 p5 (getD p0 (toNat p2) (Ty.dflt (Ty.arr 32 (Ty.int u8))))).1))))else k (E_45_1.e0 p3 p5)
noncomputable def Sp.L_45_1:Nat->List (List Int)->Int->Int->List Int->(Int×List (List Int)×List (List Int)×Unit)->List Int->Option E_45_1
 |0,_,_,_,_,_,_=>none
 |m+1,p0,p1,p2,p3,p4,p5=>S_45_1 (L_45_1 m) some p0 p1 p2 p3 p4 p5
noncomputable def l_45_1(m:Nat)(a:T_45_1.E):Option E_45_1:=L_45_1 m a.1 a.2.1 a.2.2.1 a.2.2.2.1 a.2.2.2.2.1 a.2.2.2.2.2.1
noncomputable def O_45_1{R:Type}:Orc R:=orL T_45_1 (l_45_1 FU) Y_45_1
theorem OK_45_1{R:Type}:okF (R:=R) sm_45 0 (nf 45 1) O_45_1:=lp0 T_45_1 l_45_1 (fun R K k a=>S_45_1 (fun p0 p1 p2 p3 p4 p5=>K (p0,p1,p2,p3,p4,p5,())) k a.1 a.2.1 a.2.2.1 a.2.2.2.1 a.2.2.2.2.1 a.2.2.2.2.2.1) Y_45_1 (fun _ _ _=>by kernel_rfl) (fun _ _ _=>by
 unfold S_45_1
 repeat' first|apply gdN|apply condN|rfl) (ok0 _)
noncomputable def F_45(a0 a1:(List Int))(a2:(Int×((List (List Int))×((List (List Int))×Unit)))):Option (Bool×Unit) :=
 gd (p_83 a2) (bif !(v_83 a2).1 then some (false,PUnit.unit)else gd (p_84 a1) (B_45_0 (L_45_0 4611686018427387904 ((v_84 a1).1) (↑(length ((v_84 a1).1)):Int) 0 a0 a2 []) fun y5 y6 y7=>gd (p_86 y7) (B_45_1 (L_45_1 4611686018427387904 (y6.2.2.1) (↑(length (y6.2.2.1)):Int) 0 y5 y6 ((v_86 y7).1)) fun y8 y9=>some (Ty.beq (Ty.arr 32 (Ty.int u8)) y9 y8,PUnit.unit))))
noncomputable def Sp.p_45(a0 a1:(List Int))(a2:(Int×((List (List Int))×((List (List Int))×Unit)))):Bool:=(F_45 a0 a1 a2).isSome
noncomputable def Sp.v_45(a0 a1:(List Int))(a2:(Int×((List (List Int))×((List (List Int))×Unit)))):Bool×Unit:=(F_45 a0 a1 a2).getD (dfH R_45)
noncomputable def s_45:Summ:=shN A_45 R_45 (fun x=>p_45 x.1 x.2.1 x.2.2.1) (fun x=>v_45 x.1 x.2.1 x.2.2.1)
theorem pv_45(a0 a1:(List Int))(a2:(Int×((List (List Int))×((List (List Int))×Unit)))){y:Bool×Unit}(h:F_45 a0 a1 a2=some y):p_45 a0 a1 a2=true/\v_45 a0 a1 a2=y:=pvG h
theorem run_45(x:HDen A_45)(y:HDen R_45)(h:F_45 x.1 x.2.1 x.2.2.1=some y):rnF sm_45 1 45 A_45 R_45 x y:=runG noO_ok (os:=[O_45_0,O_45_1]) ⟨OK_45_0,OK_45_1,trivial⟩ (Eq.trans (by kernel_rfl) h)
end
noncomputable section
abbrev A_140:List Ty:=[(.slice (.slice (.int .u32)))]
abbrev R_140:List Ty:=[(.slice (.int .u32))]
noncomputable def sm_140:Nat->Option Summ:=smL [(147,s_147)]
noncomputable def T_140_0:PS:=⟨36,[(0,.hv (.slice (.slice (.int .u32)))),(3,.hv (.int .i64)),(9,.hv (.slice (.slice (.int .u32)))),(10,.hv (.int .i64)),(11,.hv (.int .i64))],[],0⟩
inductive Sp.E_140_0 where
 |e0 (p0:List (List Int)) (p1:Int)
noncomputable def Sp.B_140_0{R:Type}(r:Option E_140_0)(k0:List (List Int)->Int->Option R):Option R:=match r with
 |none=>none
 |some (.e0 p0 p1)=>k0 p0 p1
noncomputable def Y_140_0{R:Type}(k:Ex->St->Option R):E_140_0->Option R
 | .e0 p0 p1=>k (Ex.exit 0) (sx 36 [(0,CV.pure (Ty.slice (Ty.slice (Ty.int u32))) p0),(3,CV.int i64 p1)] [])
noncomputable def Sp.S_140_0{R:Type}(K:List (List Int)->Int->List (List Int)->Int->Int->Option R)(k:E_140_0->Option R)(p0:List (List Int))(p1:Int)(p2:List (List Int))(p3 p4:Int):Option R:=
 bif decide (p4<p3)then gd (inB p4 (length p2)) (bif decide (wrap i64 (p1+(↑(length (getD p2 (toNat p4) (Ty.dflt (Ty.slice (Ty.int u32))))):Int))<0)then none else K p0 (wrap i64 (p1+(↑(length (getD p2 (toNat p4) (Ty.dflt (Ty.slice (Ty.int u32))))):Int))) p2 p3 (wrap i64 (p4+1)))else k (E_140_0.e0 p0 p1)
noncomputable def Sp.L_140_0:Nat->List (List Int)->Int->List (List Int)->Int->Int->Option E_140_0
 |0,_,_,_,_,_=>none
 |m+1,p0,p1,p2,p3,p4=>S_140_0 (L_140_0 m) some p0 p1 p2 p3 p4
noncomputable def l_140_0(m:Nat)(a:T_140_0.E):Option E_140_0:=L_140_0 m a.1 a.2.1 a.2.2.1 a.2.2.2.1 a.2.2.2.2.1
noncomputable def O_140_0{R:Type}:Orc R:=orL T_140_0 (l_140_0 FU) Y_140_0
theorem OK_140_0{R:Type}:okF (R:=R) sm_140 0 (nf 140 0) O_140_0:=lp0 T_140_0 l_140_0 (fun R K k a=>S_140_0 (fun p0 p1 p2 p3 p4=>K (p0,p1,p2,p3,p4,())) k a.1 a.2.1 a.2.2.1 a.2.2.2.1 a.2.2.2.2.1) Y_140_0 (fun _ _ _=>by kernel_rfl) (fun _ _ _=>by
 unfold S_140_0
 repeat' first|apply gdN|apply condN|rfl) (ok0 _)
noncomputable def T_140_1:PS:=⟨36,[(6,.kc (.whole 0)),(25,.hv (.slice (.slice (.int .u32)))),(26,.hv (.int .i64)),(27,.hv (.int .i64))],[.vec 37 (.int .u32)],0⟩
inductive Sp.E_140_1 where
 |e0 (p3:List Int)
noncomputable def Sp.B_140_1{R:Type}(r:Option E_140_1)(k0:List Int->Option R):Option R:=match r with
 |none=>none
 |some (.e0 p3)=>k0 p3
noncomputable def Y_140_1{R:Type}(k:Ex->St->Option R):E_140_1->Option R
 | .e0 p3=>k (Ex.exit 2) (sx 36 [(6,CV.whole 0)] [Blk.vec 37 (Ty.int u32) p3])
noncomputable def Sp.S_140_1{R:Type}(K:List (List Int)->Int->Int->List Int->Option R)(k:E_140_1->Option R)(p0:List (List Int))(p1 p2:Int)(p3:List Int):Option R:=
 bif decide (p2<p1)then gd (inB p2 (length p0)) (gd (room (length p3+length (getD p0 (toNat p2) (Ty.dflt (Ty.slice (Ty.int u32))))) 4) (K p0 p1 (wrap i64 (p2+1)) (p3++getD p0 (toNat p2) (Ty.dflt (Ty.slice (Ty.int u32))))))else k (E_140_1.e0 p3)
noncomputable def Sp.L_140_1:Nat->List (List Int)->Int->Int->List Int->Option E_140_1
 |0,_,_,_,_=>none
 |m+1,p0,p1,p2,p3=>S_140_1 (L_140_1 m) some p0 p1 p2 p3
noncomputable def l_140_1(m:Nat)(a:T_140_1.E):Option E_140_1:=L_140_1 m a.1 a.2.1 a.2.2.1 a.2.2.2.1
noncomputable def O_140_1{R:Type}:Orc R:=orL T_140_1 (l_140_1 FU) Y_140_1
theorem OK_140_1{R:Type}:okF (R:=R) sm_140 0 (nf 140 1) O_140_1:=lp0 T_140_1 l_140_1 (fun R K k a=>S_140_1 (fun p0 p1 p2 p3=>K (p0,p1,p2,p3,())) k a.1 a.2.1 a.2.2.1 a.2.2.2.1) Y_140_1 (fun _ _ _=>by kernel_rfl) (fun _ _ _=>by
 unfold S_140_1
 repeat' first|apply gdN|apply condN|rfl) (ok0 _)
noncomputable def F_140(a0:(List (List Int))):Option ((List Int)×Unit) :=
 B_140_0 (L_140_0 4611686018427387904 a0 0 a0 (↑(length a0):Int) 0) fun y3 y4=>gd (decide (0<=y4)&&room (toNat y4) 4) (B_140_1 (L_140_1 4611686018427387904 y3 (↑(length y3):Int) 0 []) fun y5=>some (y5,PUnit.unit))
noncomputable def Sp.p_140(a0:(List (List Int))):Bool:=(F_140 a0).isSome
noncomputable def Sp.v_140(a0:(List (List Int))):(List Int)×Unit:=(F_140 a0).getD (dfH R_140)
noncomputable def s_140:Summ:=shS A_140 R_140 (fun x=>p_140 x.1) (fun x=>v_140 x.1)
theorem pv_140(a0:(List (List Int))){y:(List Int)×Unit}(h:F_140 a0=some y):p_140 a0=true/\v_140 a0=y:=pvG h
theorem run_140(x:HDen A_140)(y:HDen R_140)(h:F_140 x.1=some y):rnF sm_140 1 140 A_140 R_140 x y:=runG noO_ok (os:=[O_140_0,O_140_1]) ⟨OK_140_0,OK_140_1,trivial⟩ (Eq.trans (by kernel_rfl) h)
end
noncomputable section
abbrev A_123:List Ty:=[(.pair (.pair (.slice (.int .u32)) (.pair (.slice (.int .i64)) (.pair (.int .i64) .unit))) (.pair (.arr 32 (.int .u8)) .unit)),(.int .i64)]
abbrev R_123:List Ty:=[.bool]
noncomputable def sm_123:Nat->Option Summ:=smL [(45,s_45),(82,s_82),(109,s_109),(122,s_122),(135,s_135),(140,s_140)]
noncomputable def F_123(a0:(((List Int)×((List Int)×(Int×Unit)))×((List Int)×Unit)))(a1:Int):Option (Bool×Unit) :=
 gd (p_82 a0 a1) (bif !(v_82 a0 a1).2.1 then some (false,PUnit.unit)else gd (p_109 a0 a1) (gd (sl3 1 3 (↑(length ((v_109 a0 a1).1)):Int)) (gd (sl3 564 (wrap i64 (564+(v_82 a0 a1).1.2.1)) (↑(length ((v_109 a0 a1).1)):Int)) (gd (p_140 [take 2 (drop 1 ((v_109 a0 a1).1)),take (toNat (wrap i64 (564+(v_82 a0 a1).1.2.1))-564) (drop 564 ((v_109 a0 a1).1))]) (gd (p_135 ((v_140 [take 2 (drop 1 ((v_109 a0 a1).1)),take (toNat (wrap i64 (564+(v_82 a0 a1).1.2.1))-564) (drop 564 ((v_109 a0 a1).1))]).1)) (gd (p_122 ((v_135 ((v_140 [take 2 (drop 1 ((v_109 a0 a1).1)),take (toNat (wrap i64 (564+(v_82 a0 a1).1.2.1))-564) (drop 564 ((v_109 a0 a1).1))]).1)).1)) (bif Ty.beq (Ty.arr 32 (Ty.int u8)) ((v_122 ((v_135 ((v_140 [take 2 (drop 1 ((v_109 a0 a1).1)),take (toNat (wrap i64 (564+(v_82 a0 a1).1.2.1))-564) (drop 564 ((v_109 a0 a1).1))]).1)).1)).1) ((v_82 a0 a1).1.2.2.1)then gd (p_45 (a0.2.1) ((v_82 a0 a1).1.2.2.1) ((v_82 a0 a1).1.2.2.2.1)) (some ((v_45 (a0.2.1) ((v_82 a0 a1).1.2.2.1) ((v_82 a0 a1).1.2.2.2.1)).1,PUnit.unit))else some (false,PUnit.unit))))))))
noncomputable def Sp.p_123(a0:(((List Int)×((List Int)×(Int×Unit)))×((List Int)×Unit)))(a1:Int):Bool:=(F_123 a0 a1).isSome
noncomputable def Sp.v_123(a0:(((List Int)×((List Int)×(Int×Unit)))×((List Int)×Unit)))(a1:Int):Bool×Unit:=(F_123 a0 a1).getD (dfH R_123)
noncomputable def s_123:Summ:=shN A_123 R_123 (fun x=>p_123 x.1 x.2.1) (fun x=>v_123 x.1 x.2.1)
theorem pv_123(a0:(((List Int)×((List Int)×(Int×Unit)))×((List Int)×Unit)))(a1:Int){y:Bool×Unit}(h:F_123 a0 a1=some y):p_123 a0 a1=true/\v_123 a0 a1=y:=pvG h
theorem run_123(x:HDen A_123)(y:HDen R_123)(h:F_123 x.1 x.2.1=some y):rnF sm_123 1 123 A_123 R_123 x y:=runG noO_ok (os:=[]) trivial (Eq.trans (by kernel_rfl) h)
end
noncomputable section
abbrev A_88:List Ty:=[(.pair (.pair (.slice (.int .u32)) (.pair (.slice (.int .i64)) (.pair (.int .i64) .unit))) (.pair (.arr 32 (.int .u8)) .unit))]
abbrev R_88:List Ty:=[(.int .i64),(.int .i64)]
noncomputable def sm_88:Nat->Option Summ:=smL [(29,s_29),(82,s_82),(106,s_106),(123,s_123)]
noncomputable def T_88_0:PS:=⟨45,[(1,.kc (.ptr 0 [])),(4,.hv (.int .i64)),(5,.hv (.int .i64)),(12,.hv (.int .i64))],[.mem (.hv (.pair (.pair (.slice (.int .u32)) (.pair (.slice (.int .i64)) (.pair (.int .i64) .unit))) (.pair (.arr 32 (.int .u8)) .unit)))],0⟩
inductive Sp.E_88_0 where
 |e0 (p0 p1:Int)
noncomputable def Sp.B_88_0{R:Type}(r:Option E_88_0)(k0:Int->Int->Option R):Option R:=match r with
 |none=>none
 |some (.e0 p0 p1)=>k0 p0 p1
noncomputable def Y_88_0{R:Type}(k:Ex->St->Option R):E_88_0->Option R
 | .e0 p0 p1=>k (Ex.exit 0) (sx 45 [(4,CV.int i64 p0),(5,CV.int i64 p1)] [])
noncomputable def Sp.S_88_0{R:Type}(K:Int->Int->Int->((List Int×List Int×Int×Unit)×List Int×Unit)->Option R)(k:E_88_0->Option R)(p0 p1 p2:Int)(p3:(List Int×List Int×Int×Unit)×List Int×Unit):Option R:=
 bif decide (p2<2)then gd (p_82 p3 p2) (bif(v_82 p3 p2).2.1 then bif decide ((v_82 p3 p2).1.1>p1)then gd (p_106 p3 p2) (bif(v_106 p3 p2).1 then gd (p_123 p3 p2) (bif(v_123 p3 p2).1 then K p2 ((v_82 p3 p2).1.1) (wrap i64 (p2+1)) p3 else K p0 p1 (wrap i64 (p2+1)) p3)else K p0 p1 (wrap i64 (p2+1)) p3)else K p0 p1 (wrap i64 (p2+1)) p3 else K p0 p1 (wrap i64 (p2+1)) p3)else k (E_88_0.e0 p0 p1)
noncomputable def Sp.L_88_0:Nat->Int->Int->Int->((List Int×List Int×Int×Unit)×List Int×Unit)->Option E_88_0
 |0,_,_,_,_=>none
 |m+1,p0,p1,p2,p3=>S_88_0 (L_88_0 m) some p0 p1 p2 p3
noncomputable def l_88_0(m:Nat)(a:T_88_0.E):Option E_88_0:=L_88_0 m a.1 a.2.1 a.2.2.1 a.2.2.2.1
noncomputable def O_88_0{R:Type}:Orc R:=orL T_88_0 (l_88_0 FU) Y_88_0
theorem OK_88_0{R:Type}:okF (R:=R) sm_88 0 (nf 88 0) O_88_0:=lp0 T_88_0 l_88_0 (fun R K k a=>S_88_0 (fun p0 p1 p2 p3=>K (p0,p1,p2,p3,())) k a.1 a.2.1 a.2.2.1 a.2.2.2.1) Y_88_0 (fun _ _ _=>by kernel_rfl) (fun _ _ _=>by
 unfold S_88_0
 repeat' first|apply gdN|apply condN|rfl) (ok0 _)
noncomputable def F_88(a0:(((List Int)×((List Int)×(Int×Unit)))×((List Int)×Unit))):Option (Int×Int×Unit) :=
 gd (p_29 a0) (bif !(v_29 a0).1 then some (0,1,PUnit.unit)else B_88_0 (L_88_0 4611686018427387904 0 0 0 a0) fun y2 y3=>bif y3==0 then some (0,7,PUnit.unit)else some (y2,0,PUnit.unit))
noncomputable def Sp.p_88(a0:(((List Int)×((List Int)×(Int×Unit)))×((List Int)×Unit))):Bool:=(F_88 a0).isSome
noncomputable def Sp.v_88(a0:(((List Int)×((List Int)×(Int×Unit)))×((List Int)×Unit))):Int×Int×Unit:=(F_88 a0).getD (dfH R_88)
noncomputable def s_88:Summ:=shN A_88 R_88 (fun x=>p_88 x.1) (fun x=>v_88 x.1)
theorem pv_88(a0:(((List Int)×((List Int)×(Int×Unit)))×((List Int)×Unit))){y:Int×Int×Unit}(h:F_88 a0=some y):p_88 a0=true/\v_88 a0=y:=pvG h
theorem run_88(x:HDen A_88)(y:HDen R_88)(h:F_88 x.1=some y):rnF sm_88 1 88 A_88 R_88 x y:=runG noO_ok (os:=[O_88_0]) ⟨OK_88_0,trivial⟩ (Eq.trans (by kernel_rfl) h)
end
noncomputable section
abbrev A_46:List Ty:=[(.pair (.pair (.slice (.int .u32)) (.pair (.slice (.int .i64)) (.pair (.int .i64) .unit))) (.pair (.arr 32 (.int .u8)) .unit))]
abbrev R_46:List Ty:=[(.int .i64),.bool]
noncomputable def sm_46:Nat->Option Summ:=smL [(88,s_88)]
noncomputable def F_46(a0:(((List Int)×((List Int)×(Int×Unit)))×((List Int)×Unit))):Option (Int×Bool×Unit) :=
 gd (p_88 a0) (some ((v_88 a0).1,(v_88 a0).2.1==0,PUnit.unit))
noncomputable def Sp.p_46(a0:(((List Int)×((List Int)×(Int×Unit)))×((List Int)×Unit))):Bool:=(F_46 a0).isSome
noncomputable def Sp.v_46(a0:(((List Int)×((List Int)×(Int×Unit)))×((List Int)×Unit))):Int×Bool×Unit:=(F_46 a0).getD (dfH R_46)
noncomputable def s_46:Summ:=shN A_46 R_46 (fun x=>p_46 x.1) (fun x=>v_46 x.1)
theorem pv_46(a0:(((List Int)×((List Int)×(Int×Unit)))×((List Int)×Unit))){y:Int×Bool×Unit}(h:F_46 a0=some y):p_46 a0=true/\v_46 a0=y:=pvG h
theorem run_46(x:HDen A_46)(y:HDen R_46)(h:F_46 x.1=some y):rnF sm_46 1 46 A_46 R_46 x y:=runG noO_ok (os:=[]) trivial (Eq.trans (by kernel_rfl) h)
end
noncomputable section
abbrev A_44:List Ty:=[(.pair (.pair (.slice (.int .u32)) (.pair (.slice (.int .i64)) (.pair (.int .i64) .unit))) (.pair (.arr 32 (.int .u8)) .unit))]
abbrev R_44:List Ty:=[(.int .i64)]
noncomputable def sm_44:Nat->Option Summ:=smL [(46,s_46),(82,s_82)]
noncomputable def F_44(a0:(((List Int)×((List Int)×(Int×Unit)))×((List Int)×Unit))):Option (Int×Unit) :=
 gd (p_46 a0) (bif !(v_46 a0).2.1 then some (0,PUnit.unit)else gd (p_82 a0 ((v_46 a0).1)) (some ((v_82 a0 ((v_46 a0).1)).1.1,PUnit.unit)))
noncomputable def Sp.p_44(a0:(((List Int)×((List Int)×(Int×Unit)))×((List Int)×Unit))):Bool:=(F_44 a0).isSome
noncomputable def Sp.v_44(a0:(((List Int)×((List Int)×(Int×Unit)))×((List Int)×Unit))):Int×Unit:=(F_44 a0).getD (dfH R_44)
noncomputable def s_44:Summ:=shN A_44 R_44 (fun x=>p_44 x.1) (fun x=>v_44 x.1)
theorem pv_44(a0:(((List Int)×((List Int)×(Int×Unit)))×((List Int)×Unit))){y:Int×Unit}(h:F_44 a0=some y):p_44 a0=true/\v_44 a0=y:=pvG h
theorem run_44(x:HDen A_44)(y:HDen R_44)(h:F_44 x.1=some y):rnF sm_44 1 44 A_44 R_44 x y:=runG noO_ok (os:=[]) trivial (Eq.trans (by kernel_rfl) h)
end
noncomputable section
abbrev A_89:List Ty:=[(.slice (.int .i64)),(.int .i64)]
abbrev R_89:List Ty:=[(.int .i64)]
noncomputable def sm_89:Nat->Option Summ:=smL []
noncomputable def T_89_0:PS:=⟨19,[(0,.hv (.slice (.int .i64))),(1,.hv (.int .i64)),(7,.hv (.int .i64)),(8,.hv (.int .i64))],[],0⟩
inductive Sp.E_89_0 where
 |e0 (p3:Int)
 |e1
noncomputable def Sp.B_89_0{R:Type}(r:Option E_89_0)(k0:Int->Option R)(k1:Option R):Option R:=match r with
 |none=>none
 |some (.e0 p3)=>k0 p3
 |some (.e1)=>k1
noncomputable def Y_89_0{R:Type}(k:Ex->St->Option R):E_89_0->Option R
 | .e0 p3=>k Ex.ret (sx 19 [(4,CV.int i64 p3)] [])
 | .e1=>k (Ex.exit 0) (sx 19 [] [])
noncomputable def Sp.S_89_0{R:Type}(K:List Int->Int->Int->Int->Option R)(k:E_89_0->Option R)(p0:List Int)(p1 p2 p3:Int):Option R:=
 bif decide (p3<p2)then gd (inB p3 (length p0)) (bif p1==getD p0 (toNat p3) 0 then k (E_89_0.e0 p3)else K p0 p1 p2 (wrap i64 (p3+1)))else k (E_89_0.e1)
noncomputable def Sp.L_89_0:Nat->List Int->Int->Int->Int->Option E_89_0
 |0,_,_,_,_=>none
 |m+1,p0,p1,p2,p3=>S_89_0 (L_89_0 m) some p0 p1 p2 p3
noncomputable def l_89_0(m:Nat)(a:T_89_0.E):Option E_89_0:=L_89_0 m a.1 a.2.1 a.2.2.1 a.2.2.2.1
noncomputable def O_89_0{R:Type}:Orc R:=orL T_89_0 (l_89_0 FU) Y_89_0
theorem OK_89_0{R:Type}:okF (R:=R) sm_89 0 (nf 89 0) O_89_0:=lp0 T_89_0 l_89_0 (fun R K k a=>S_89_0 (fun p0 p1 p2 p3=>K (p0,p1,p2,p3,())) k a.1 a.2.1 a.2.2.1 a.2.2.2.1) Y_89_0 (fun _ _ _=>by kernel_rfl) (fun _ _ _=>by
 unfold S_89_0
 repeat' first|apply gdN|apply condN|rfl) (ok0 _)
noncomputable def F_89(a0:(List Int))(a1:Int):Option (Int×Unit) :=
 B_89_0 (L_89_0 4611686018427387904 a0 a1 (↑(length a0):Int) 0) (fun y1=>some (y1,PUnit.unit)) (some ((-1:Int),PUnit.unit))
noncomputable def Sp.p_89(a0:(List Int))(a1:Int):Bool:=(F_89 a0 a1).isSome
noncomputable def Sp.v_89(a0:(List Int))(a1:Int):Int×Unit:=(F_89 a0 a1).getD (dfH R_89)
noncomputable def s_89:Summ:=shN A_89 R_89 (fun x=>p_89 x.1 x.2.1) (fun x=>v_89 x.1 x.2.1)
theorem pv_89(a0:(List Int))(a1:Int){y:Int×Unit}(h:F_89 a0 a1=some y):p_89 a0 a1=true/\v_89 a0 a1=y:=pvG h
theorem run_89(x:HDen A_89)(y:HDen R_89)(h:F_89 x.1 x.2.1=some y):rnF sm_89 1 89 A_89 R_89 x y:=runG noO_ok (os:=[O_89_0]) ⟨OK_89_0,trivial⟩ (Eq.trans (by kernel_rfl) h)
end
noncomputable section
abbrev A_47:List Ty:=[(.slice (.int .i64)),(.int .i64)]
abbrev R_47:List Ty:=[.bool]
noncomputable def sm_47:Nat->Option Summ:=smL [(89,s_89)]
noncomputable def F_47(a0:(List Int))(a1:Int):Option (Bool×Unit) :=
 gd (p_89 a0 a1) (some (decide ((v_89 a0 a1).1>=0),PUnit.unit))
noncomputable def Sp.p_47(a0:(List Int))(a1:Int):Bool:=(F_47 a0 a1).isSome
noncomputable def Sp.v_47(a0:(List Int))(a1:Int):Bool×Unit:=(F_47 a0 a1).getD (dfH R_47)
noncomputable def s_47:Summ:=shN A_47 R_47 (fun x=>p_47 x.1 x.2.1) (fun x=>v_47 x.1 x.2.1)
theorem pv_47(a0:(List Int))(a1:Int){y:Bool×Unit}(h:F_47 a0 a1=some y):p_47 a0 a1=true/\v_47 a0 a1=y:=pvG h
theorem run_47(x:HDen A_47)(y:HDen R_47)(h:F_47 x.1 x.2.1=some y):rnF sm_47 1 47 A_47 R_47 x y:=runG noO_ok (os:=[]) trivial (Eq.trans (by kernel_rfl) h)
end
noncomputable section
abbrev Zt51_0:Type:=Int×Int×List Int×(Int×List (List Int)×List (List Int)×Unit)×Unit
abbrev Zy51_1:Ty:=(.pair (.int .i64) (.pair (.int .i64) (.pair (.arr 32 (.int .u8)) (.pair (.pair (.int .i64) (.pair (.slice (.arr 32 (.int .u8))) (.pair (.slice (.arr 32 (.int .u8))) .unit))) .unit))))
abbrev A_51:List Ty:=[(.pair (.int .i64) (.pair (.int .i64) (.pair (.arr 32 (.int .u8)) (.pair (.pair (.int .i64) (.pair (.slice (.arr 32 (.int .u8))) (.pair (.slice (.arr 32 (.int .u8))) .unit))) .unit))))]
abbrev R_51:List Ty:=[(.slice (.int .u32))]
noncomputable def sm_51:Nat->Option Summ:=smL [(81,s_81)]
noncomputable def T_51_129_0_1:PS:=⟨31,[(0,.yl 5 51 (.kc (.pair .junk (.pair .junk (.pair .junk (.pair (.ptr 2 []) (.pair .junk (.pair .junk (.pair .junk (.pair .junk (.pair .junk (.pair .junk (.pair .junk (.pair .junk (.pair .junk (.pair .junk (.pair .junk (.pair .junk (.pair .junk (.pair .junk (.pair .junk (.pair .junk (.pair .junk (.pair .junk (.pair .junk (.pair .junk (.pair .junk (.pair .junk (.pair .junk (.pair .junk (.pair .junk (.pair .junk (.pair .junk (.pair .junk (.pair .junk (.pair .junk (.pair .junk (.pair .junk (.pair .junk (.pair .junk (.pair .junk (.pair .junk (.pair .junk (.pair .junk (.pair .junk (.pair .junk (.pair .junk (.pair .junk (.pair .junk (.pair .junk (.pair .junk (.pair .junk (.pair .junk (.pair .junk (.pure .unit PUnit.unit))))))))))))))))))))))))))))))))))))))))))))))))))))))),(1,.kc (.ptr 3 [])),(2,.kc (.ptr 4 [])),(4,.hv (.int .i64))],[.mem (.hv Zy51_1),.dead,.mem (.kc (.whole 6)),.mem (.sb 0 [(.f 2 2)] 1 (some 0) (some 32) (some (some 32))),.mem (.hv (.int .i64)),.gh 0,.vec 37 (.int .u32)],6⟩
inductive Sp.E_51_129_0_1 where
 |e0 (p1:Zt51_0) (p2:Int) (p3:List Int)
noncomputable def Sp.B_51_129_0_1{R:Type}(r:Option E_51_129_0_1)(k0:Zt51_0->Int->List Int->Option R):Option R:=match r with
 |none=>none
 |some (.e0 p1 p2 p3)=>k0 p1 p2 p3
noncomputable def Y_51_129_0_1{R:Type}(k:Ex->St->Option R):E_51_129_0_1->Option R
 | .e0 p1 p2 p3=>k (Ex.exit 0) (sx 31 [] [Blk.mem (CV.pure (Ty.pair (Ty.int i64) (Ty.pair (Ty.int i64) (Ty.pair (Ty.arr 32 (Ty.int u8)) (Ty.pair (Ty.pair (Ty.int i64) (Ty.pair (Ty.slice (Ty.arr 32 (Ty.int u8))) (Ty.pair (Ty.slice (Ty.arr 32 (Ty.int u8))) Ty.unit))) Ty.unit)))) p1),Blk.dead,Blk.mem (CV.whole 6),Blk.mem (CV.sub 0 [Step.f 2 2] 1 0 32 (some 32)),Blk.mem (CV.int i64 p2),Blk.ghost 0,Blk.vec 37 (Ty.int u32) p3] 6)
noncomputable def Sp.S_51_129_0_1{R:Type}(K:Int->(Int×Int×List Int×(Int×List (List Int)×List (List Int)×Unit)×Unit)->Int->List Int->Option R)(k:E_51_129_0_1->Option R)(p0:Int)(p1:Int×Int×List Int×(Int×List (List Int)×List (List Int)×Unit)×Unit)(p2:Int)(p3:List Int):Option R:=
 bif decide (p0<32)then gd (sl3 p0 32 32) (gd (sl3 p0 (wrap i64 (p0+if(↑(32-toNat p0):Int)<p2 then(↑(32-toNat p0):Int)else p2)) (wrap i64 (p0+if(↑(32-toNat p0):Int)<p2 then(↑(32-toNat p0):Int)else p2))&&decide (wrap i64 (p0+if(↑(32-toNat p0):Int)<p2 then(↑(32-toNat p0):Int)else p2)<=32)) (gd (inB 0 (toNat (wrap i64 (p0+if(↑(32-toNat p0):Int)<p2 then(↑(32-toNat p0):Int)else p2))-toNat p0)) (gd (decide (0+toNat p0+(0:Nat)<(32:Nat))&&true) (gd (inB 1 (toNat (wrap i64 (p0+if(↑(32-toNat p0):Int)<p2 then(↑(32-toNat p0):Int)else p2))-toNat p0)) (gd (decide (0+toNat p0+(1:Nat)<(32:Nat))&&true) (gd (inB 2 (toNat (wrap i64 (p0+if(↑(32-toNat p0):Int)<p2 then(↑(32-toNat p0):Int)else p2))-toNat p0)) (gd (decide (0+toNat p0+(2:Nat)<(32:Nat))&&true) (gd (inB 3 (toNat (wrap i64 (p0+if(↑(32-toNat p0):Int)<p2 then(↑(32-toNat p0):Int)else p2))-toNat p0)) (gd (decide (0+toNat p0+(3:Nat)<(32:Nat))&&true) (gd (room (length p3+1) 4) (K (wrap i64 (p0+p2)) p1 p2 (p3++[Sp.orI u32 (Sp.orI u32 (Sp.orI u32 (wrap u32 (wrap u32 (getD (p1.2.2.1) (0+toNat p0+0) 0)*16777216)) (wrap u32 (wrap u32 (getD (p1.2.2.1) (0+toNat p0+1) 0)*65536))) (wrap u32 (wrap u32 (getD (p1.2.2.1) (0+toNat p0+2) 0)*256))) (wrap u32 (getD (p1.2.2.1) (0+toNat p0+3) 0))]))))))))))))else k (E_51_129_0_1.e0 p1 p2 p3)
noncomputable def Sp.L_51_129_0_1:Nat->Int->(Int×Int×List Int×(Int×List (List Int)×List (List Int)×Unit)×Unit)->Int->List Int->Option E_51_129_0_1
 |0,_,_,_,_=>none
 |m+1,p0,p1,p2,p3=>S_51_129_0_1 (L_51_129_0_1 m) some p0 p1 p2 p3
noncomputable def l_51_129_0_1(m:Nat)(a:T_51_129_0_1.E):Option E_51_129_0_1:=L_51_129_0_1 m a.1 a.2.1 a.2.2.1 a.2.2.2.1
noncomputable def O_51_129_0_1{R:Type}:Orc R:=orL T_51_129_0_1 (l_51_129_0_1 FU) Y_51_129_0_1
theorem loop_51_129_0_1{R:Type}(k:Ex->St->Option R):∀m a,evLoopN (evCodeL sm_51 FU (ovr noO (evFn sm_51 fns FU 2)) (mkT (inner (nf 129 0)) []) (inner (nf 129 0))) (St.norm (lv (nf 129 0))) m (T_51_129_0_1.inst a) k=(l_51_129_0_1 m a).bind (Y_51_129_0_1 k):=lpN l_51_129_0_1 (fun R K k a=>S_51_129_0_1 (fun p0 p1 p2 p3=>K (p0,p1,p2,p3,())) k a.1 a.2.1 a.2.2.1 a.2.2.2.1) (fun _=>rfl) (fun _ _=>rfl) (fun K a=>by kernel_rfl) (fun K a=>by
 unfold S_51_129_0_1
 repeat' first|apply gdN|apply condN|rfl)
theorem OK_51_129_0_1{R:Type}:okF (R:=R) sm_51 2 (nf 129 0) O_51_129_0_1:=lp0 T_51_129_0_1 l_51_129_0_1 (fun R K k a=>S_51_129_0_1 (fun p0 p1 p2 p3=>K (p0,p1,p2,p3,())) k a.1 a.2.1 a.2.2.1 a.2.2.2.1) Y_51_129_0_1 (fun _ _ _=>by kernel_rfl) (fun _ _ _=>by
 unfold S_51_129_0_1
 repeat' first|apply gdN|apply condN|rfl) (ok0 _)
noncomputable def T_51_129_0_0:PS:=⟨31,[(0,.yl 5 51 (.kc (.pair .junk (.pair .junk (.pair .junk (.pair (.ptr 2 []) (.pair .junk (.pair .junk (.pair .junk (.pair .junk (.pair .junk (.pair .junk (.pair .junk (.pair .junk (.pair .junk (.pair .junk (.pair .junk (.pair .junk (.pair .junk (.pair .junk (.pair .junk (.pair .junk (.pair .junk (.pair .junk (.pair .junk (.pair .junk (.pair .junk (.pair .junk (.pair .junk (.pair .junk (.pair .junk (.pair .junk (.pair .junk (.pair .junk (.pair .junk (.pair .junk (.pair .junk (.pair .junk (.pair .junk (.pair .junk (.pair .junk (.pair .junk (.pair .junk (.pair .junk (.pair .junk (.pair .junk (.pair .junk (.pair .junk (.pair .junk (.pair .junk (.pair .junk (.pair .junk (.pair .junk (.pair .junk (.pure .unit PUnit.unit))))))))))))))))))))))))))))))))))))))))))))))))))))))),(1,.kc (.ptr 3 [])),(2,.kc (.ptr 4 [])),(4,.hv (.int .i64))],[.mem (.hv Zy51_1),.vec 37 (.int .u32),.mem (.kc (.whole 1)),.mem (.sb 0 [(.f 2 2)] 1 (some 0) (some 32) (some (some 32))),.mem (.hv (.int .i64)),.gh 0],6⟩
inductive Sp.E_51_129_0_0 where
 |e0 (p1:Zt51_0) (p2:List Int) (p3:Int)
 |e1 (p1:Zt51_0) (p2:Int) (p3:List Int)
noncomputable def Sp.B_51_129_0_0{R:Type}(r:Option E_51_129_0_0)(k0:Zt51_0->List Int->Int->Option R)(k1:Zt51_0->Int->List Int->Option R):Option R:=match r with
 |none=>none
 |some (.e0 p1 p2 p3)=>k0 p1 p2 p3
 |some (.e1 p1 p2 p3)=>k1 p1 p2 p3
noncomputable def Y_51_129_0_0{R:Type}(k:Ex->St->Option R):E_51_129_0_0->Option R
 | .e0 p1 p2 p3=>k (Ex.exit 0) (sx 31 [] [Blk.mem (CV.pure (Ty.pair (Ty.int i64) (Ty.pair (Ty.int i64) (Ty.pair (Ty.arr 32 (Ty.int u8)) (Ty.pair (Ty.pair (Ty.int i64) (Ty.pair (Ty.slice (Ty.arr 32 (Ty.int u8))) (Ty.pair (Ty.slice (Ty.arr 32 (Ty.int u8))) Ty.unit))) Ty.unit)))) p1),Blk.vec 37 (Ty.int u32) p2,Blk.mem (CV.whole 1),Blk.mem (CV.sub 0 [Step.f 2 2] 1 0 32 (some 32)),Blk.mem (CV.int i64 p3),Blk.ghost 0] 6)
 | .e1 p1 p2 p3=>k (Ex.exit 0) (sx 31 [] [Blk.mem (CV.pure (Ty.pair (Ty.int i64) (Ty.pair (Ty.int i64) (Ty.pair (Ty.arr 32 (Ty.int u8)) (Ty.pair (Ty.pair (Ty.int i64) (Ty.pair (Ty.slice (Ty.arr 32 (Ty.int u8))) (Ty.pair (Ty.slice (Ty.arr 32 (Ty.int u8))) Ty.unit))) Ty.unit)))) p1),Blk.dead,Blk.mem (CV.whole 6),Blk.mem (CV.sub 0 [Step.f 2 2] 1 0 32 (some 32)),Blk.mem (CV.int i64 p2),Blk.ghost 0,Blk.vec 37 (Ty.int u32) p3] 6)
noncomputable def Sp.S_51_129_0_0{R:Type}(K:Int->(Int×Int×List Int×(Int×List (List Int)×List (List Int)×Unit)×Unit)->List Int->Int->Option R)(KB:Int->(Int×Int×List Int×(Int×List (List Int)×List (List Int)×Unit)×Unit)->Int->List Int->Option R)(k:E_51_129_0_0->Option R)(p0:Int)(p1:Int×Int×List Int×(Int×List (List Int)×List (List Int)×Unit)×Unit)(p2:List Int)(p3:Int):Option R:=
 bif decide (p0<32)then gd (sl3 p0 32 32) (gd (sl3 p0 (wrap i64 (p0+if(↑(32-toNat p0):Int)<p3 then(↑(32-toNat p0):Int)else p3)) (wrap i64 (p0+if(↑(32-toNat p0):Int)<p3 then(↑(32-toNat p0):Int)else p3))&&decide (wrap i64 (p0+if(↑(32-toNat p0):Int)<p3 then(↑(32-toNat p0):Int)else p3)<=32)) (gd (inB 0 (toNat (wrap i64 (p0+if(↑(32-toNat p0):Int)<p3 then(↑(32-toNat p0):Int)else p3))-toNat p0)) (gd (decide (0+toNat p0+(0:Nat)<(32:Nat))&&true) (gd (inB 1 (toNat (wrap i64 (p0+if(↑(32-toNat p0):Int)<p3 then(↑(32-toNat p0):Int)else p3))-toNat p0)) (gd (decide (0+toNat p0+(1:Nat)<(32:Nat))&&true) (gd (inB 2 (toNat (wrap i64 (p0+if(↑(32-toNat p0):Int)<p3 then(↑(32-toNat p0):Int)else p3))-toNat p0)) (gd (decide (0+toNat p0+(2:Nat)<(32:Nat))&&true) (gd (inB 3 (toNat (wrap i64 (p0+if(↑(32-toNat p0):Int)<p3 then(↑(32-toNat p0):Int)else p3))-toNat p0)) (gd (decide (0+toNat p0+(3:Nat)<(32:Nat))&&true) (gd (room (length p2+1) 4) (KB (wrap i64 (p0+p3)) p1 p3 (p2++[Sp.orI u32 (Sp.orI u32 (Sp.orI u32 (wrap u32 (wrap u32 (getD (p1.2.2.1) (0+toNat p0+0) 0)*16777216)) (wrap u32 (wrap u32 (getD (p1.2.2.1) (0+toNat p0+1) 0)*65536))) (wrap u32 (wrap u32 (getD (p1.2.2.1) (0+toNat p0+2) 0)*256))) (wrap u32 (getD (p1.2.2.1) (0+toNat p0+3) 0))]))))))))))))else k (E_51_129_0_0.e0 p1 p2 p3)
noncomputable def C_51_129_0_0:E_51_129_0_1->E_51_129_0_0
 | .e0 p1 p2 p3=> .e1 p1 p2 p3
theorem BC_51_129_0_0(r:Option E_51_129_0_1):B_51_129_0_1 r (fun p1 p2 p3=>some (E_51_129_0_0.e1 p1 p2 p3))=r.bind fun e=>some (C_51_129_0_0 e):=by
 cases r with
 |none=>rfl
 |some e=>cases e<;>rfl
noncomputable def Sp.L_51_129_0_0:Nat->Int->(Int×Int×List Int×(Int×List (List Int)×List (List Int)×Unit)×Unit)->List Int->Int->Option E_51_129_0_0
 |0,_,_,_,_=>none
 |m+1,p0,p1,p2,p3=>S_51_129_0_0 (L_51_129_0_0 m) (fun q0 q1 q2 q3=>B_51_129_0_1 (L_51_129_0_1 m q0 q1 q2 q3) (fun p1 p2 p3=>some (E_51_129_0_0.e1 p1 p2 p3))) some p0 p1 p2 p3
noncomputable def l_51_129_0_0(m:Nat)(a:T_51_129_0_0.E):Option E_51_129_0_0:=L_51_129_0_0 m a.1 a.2.1 a.2.2.1 a.2.2.2.1
noncomputable def O_51_129_0_0{R:Type}:Orc R:=orL T_51_129_0_0 (l_51_129_0_0 FU) Y_51_129_0_0 O_51_129_0_1
theorem OK_51_129_0_0{R:Type}:okF (R:=R) sm_51 2 (nf 129 0) O_51_129_0_0:=lp2 noO_ok (os:=[]) trivial T_51_129_0_0 T_51_129_0_1 l_51_129_0_0 l_51_129_0_1 (fun R K KB k a=>S_51_129_0_0 (fun p0 p1 p2 p3=>K (p0,p1,p2,p3,())) (fun q0 q1 q2 q3=>KB (q0,q1,q2,q3,())) k a.1 a.2.1 a.2.2.1 a.2.2.2.1) Y_51_129_0_0 Y_51_129_0_1 C_51_129_0_0 (fun _=>rfl) (fun m a=>by
 unfold l_51_129_0_0
 rw[L_51_129_0_0]
 simp only[BC_51_129_0_0]
 rfl) (fun k e=>by cases e<;>rfl) (fun k=>loop_51_129_0_1 k) (fun k K a=>by kernel_rfl) (fun Y K KB a=>by
 unfold S_51_129_0_0
 repeat' first|apply gdN|apply condN|rfl) OK_51_129_0_1
noncomputable def g_51_129{R:Type}:List CV->List Blk->(CV->List Blk->Option R)->Option R:=evFnL sm_51 FU (ovr noO (evFn sm_51 fns FU 2)) (mkT (fB fns 129) [O_51_129_0_0]) (fO fns 129)
theorem g_51_129_ok{R:Type}(args:List CV)(hp:List Blk)(k:CV->List Blk->Option R)(r:R)(h:g_51_129 args hp k=some r):evFn sm_51 fns FU 3 129 args hp k=some r:=runG noO_ok (os:=[O_51_129_0_0]) ⟨OK_51_129_0_0,trivial⟩ h
noncomputable def ov_51_94{R:Type}:Nat->Option (List CV->List Blk->(CV->List Blk->Option R)->Option R):=fun f'=>bif Nat.beq f' 129 then some g_51_129 else none
theorem ov_51_94_ok{R:Type}:OvrOK (R:=R) ov_51_94 (evFn sm_51 fns FU 3):=by
 intro f' g h args hp k r hg
 dsimp only[ov_51_94]at h
 by_cases h129:f'=129
 ·subst h129
  injection h with h
  subst h
  exact evFn_le 0 (g_51_129_ok _ _ _ _ hg)
 rw[nbeq_ne h129,cond_false]at h
 cases h
noncomputable def g_51_94{R:Type}:List CV->List Blk->(CV->List Blk->Option R)->Option R:=evFnL sm_51 FU (ovr ov_51_94 (evFn sm_51 fns FU 3)) (mkT (fB fns 94) []) (fO fns 94)
theorem g_51_94_ok{R:Type}(args:List CV)(hp:List Blk)(k:CV->List Blk->Option R)(r:R)(h:g_51_94 args hp k=some r):evFn sm_51 fns FU 4 94 args hp k=some r:=runG ov_51_94_ok (os:=[]) trivial h
noncomputable def ov_51_51{R:Type}:Nat->Option (List CV->List Blk->(CV->List Blk->Option R)->Option R):=fun f'=>bif Nat.beq f' 94 then some g_51_94 else bif Nat.beq f' 129 then some g_51_129 else none
theorem ov_51_51_ok{R:Type}:OvrOK (R:=R) ov_51_51 (evFn sm_51 fns FU 4):=by
 intro f' g h args hp k r hg
 dsimp only[ov_51_51]at h
 by_cases h94:f'=94
 ·subst h94
  injection h with h
  subst h
  exact evFn_le 0 (g_51_94_ok _ _ _ _ hg)
 rw[nbeq_ne h94,cond_false]at h
 by_cases h129:f'=129
 ·subst h129
  injection h with h
  subst h
  exact evFn_le 1 (g_51_129_ok _ _ _ _ hg)
 rw[nbeq_ne h129,cond_false]at h
 cases h
noncomputable def F_51(a0:(Int×(Int×((List Int)×((Int×((List (List Int))×((List (List Int))×Unit)))×Unit))))):Option ((List Int)×Unit) :=
 B_51_129_0_0 (L_51_129_0_0 4611686018427387904 0 a0 [wrap u32 (a0.1),wrap u32 (a0.2.1)] 4) (fun y6 y7 y8=>gd (p_81 (y6.2.2.2.1)) (gd (room (length y7+length ((v_81 (y6.2.2.2.1)).1)) 4) (some (y7++(v_81 (y6.2.2.2.1)).1,PUnit.unit)))) fun y9 y10 y11=>gd (p_81 (y9.2.2.2.1)) (gd (room (length y11+length ((v_81 (y9.2.2.2.1)).1)) 4) (some (y11++(v_81 (y9.2.2.2.1)).1,PUnit.unit)))
noncomputable def Sp.p_51(a0:(Int×(Int×((List Int)×((Int×((List (List Int))×((List (List Int))×Unit)))×Unit))))):Bool:=(F_51 a0).isSome
noncomputable def Sp.v_51(a0:(Int×(Int×((List Int)×((Int×((List (List Int))×((List (List Int))×Unit)))×Unit))))):(List Int)×Unit:=(F_51 a0).getD (dfH R_51)
noncomputable def s_51:Summ:=shS A_51 R_51 (fun x=>p_51 x.1) (fun x=>v_51 x.1)
theorem pv_51(a0:(Int×(Int×((List Int)×((Int×((List (List Int))×((List (List Int))×Unit)))×Unit))))){y:(List Int)×Unit}(h:F_51 a0=some y):p_51 a0=true/\v_51 a0=y:=pvG h
theorem run_51(x:HDen A_51)(y:HDen R_51)(h:F_51 x.1=some y):rnF sm_51 5 51 A_51 R_51 x y:=runG ov_51_51_ok (os:=[]) trivial (Eq.trans (by kernel_rfl) h)
end
noncomputable section
abbrev A_124:List Ty:=[(.pair (.slice (.int .u32)) (.pair (.slice (.int .i64)) (.pair (.int .i64) .unit))),(.pair (.int .i64) (.pair (.int .u32) .unit)),(.int .i64),(.int .i64)]
abbrev R_124:List Ty:=[(.int .i64)]
noncomputable def sm_124:Nat->Option Summ:=smL [(74,s_74)]
noncomputable def F_124(a0:((List Int)×((List Int)×(Int×Unit))))(a1:(Int×(Int×Unit)))(a2 a3:Int):Option (Int×Unit) :=
 gd (p_74 a0) (bif !(v_74 a0).1 then some (1,PUnit.unit)else bif decide (a1.1<0)then some (1,PUnit.unit)else bif decide (a1.1>1099511627776)then some (1,PUnit.unit)else bif decide (a2<0)then some (2,PUnit.unit)else bif decide (a2>=a3)then some (2,PUnit.unit)else some (0,PUnit.unit))
noncomputable def Sp.p_124(a0:((List Int)×((List Int)×(Int×Unit))))(a1:(Int×(Int×Unit)))(a2 a3:Int):Bool:=(F_124 a0 a1 a2 a3).isSome
noncomputable def Sp.v_124(a0:((List Int)×((List Int)×(Int×Unit))))(a1:(Int×(Int×Unit)))(a2 a3:Int):Int×Unit:=(F_124 a0 a1 a2 a3).getD (dfH R_124)
noncomputable def s_124:Summ:=shN A_124 R_124 (fun x=>p_124 x.1 x.2.1 x.2.2.1 x.2.2.2.1) (fun x=>v_124 x.1 x.2.1 x.2.2.1 x.2.2.2.1)
theorem pv_124(a0:((List Int)×((List Int)×(Int×Unit))))(a1:(Int×(Int×Unit)))(a2 a3:Int){y:Int×Unit}(h:F_124 a0 a1 a2 a3=some y):p_124 a0 a1 a2 a3=true/\v_124 a0 a1 a2 a3=y:=pvG h
theorem run_124(x:HDen A_124)(y:HDen R_124)(h:F_124 x.1 x.2.1 x.2.2.1 x.2.2.2.1=some y):rnF sm_124 1 124 A_124 R_124 x y:=runG noO_ok (os:=[]) trivial (Eq.trans (by kernel_rfl) h)
end
noncomputable section
abbrev Zt92_0:Type:=List Int×List Int×Int×Unit
abbrev Zt92_1:Type:=Int×Int×Unit
abbrev Zy92_2:Ty:=(.pair (.int .i64) (.pair (.int .u32) .unit))
abbrev Zy92_3:Ty:=(.pair (.slice (.int .u32)) (.pair (.slice (.int .i64)) (.pair (.int .i64) .unit)))
abbrev A_92:List Ty:=[(.pair (.slice (.int .u32)) (.pair (.slice (.int .i64)) (.pair (.int .i64) .unit))),(.int .i64),(.pair (.int .i64) (.pair (.int .u32) .unit))]
abbrev R_92:List Ty:=[(.pair (.slice (.int .u32)) (.pair (.slice (.int .i64)) (.pair (.int .i64) .unit))),(.pair (.int .i64) (.pair (.int .u32) .unit)),(.int .i64)]
noncomputable def sm_92:Nat->Option Summ:=smL [(90,s_90),(91,s_91),(124,s_124)]
noncomputable def T_92_126_0_0:PS:=⟨30,[(1,.hv (.int .u32)),(2,.kc (.ptr 1 [])),(3,.kc (.ptr 12 [])),(5,.sb 9 [] 1 none none none),(11,.hv (.int .i64)),(12,.hv (.int .i64))],[.mem (.hv Zy92_3),.mem (.hv (.int .i64)),.mem (.hv Zy92_2),.mem (.pr (.kc (.nil 37 (.int .u32))) (.pr (.kc (.nil 3 (.int .i64))) (.hv (.pair (.int .i64) .unit)))),.mem (.hv Zy92_2),.mem (.hv Zy92_3),.mem (.hv Zy92_2),.mem (.pr (.kc (.nil 37 (.int .u32))) (.pr (.kc (.nil 3 (.int .i64))) (.hv (.pair (.int .i64) .unit)))),.mem (.hv Zy92_2),.vec 37 (.int .u32),.vec 3 (.int .i64),.mem (.pr (.kc (.whole 9)) (.pr (.kc (.whole 10)) (.hv (.pair (.int .i64) .unit)))),.mem (.pr (.kc (.whole 9)) (.pr (.kc (.whole 10)) (.hv (.pair (.int .i64) .unit))))],12⟩
inductive Sp.E_92_126_0_0 where
 |e0 (p5:Zt92_0) (p6:Int) (p7:Zt92_1) (p8:Int×Unit) (p9:Zt92_1) (p10:Zt92_0) (p11:Zt92_1) (p12:Int×Unit) (p13:Zt92_1) (p14 p15:List Int) (p16 p17:Int×Unit)
noncomputable def Sp.B_92_126_0_0{R:Type}(r:Option E_92_126_0_0)(k0:Zt92_0->Int->Zt92_1->(Int×Unit)->Zt92_1->Zt92_0->Zt92_1->(Int×Unit)->Zt92_1->List Int->List Int->(Int×Unit)->(Int×Unit)->Option R):Option R:=match r with
 |none=>none
 |some (.e0 p5 p6 p7 p8 p9 p10 p11 p12 p13 p14 p15 p16 p17)=>k0 p5 p6 p7 p8 p9 p10 p11 p12 p13 p14 p15 p16 p17
noncomputable def Y_92_126_0_0{R:Type}(k:Ex->St->Option R):E_92_126_0_0->Option R
 | .e0 p5 p6 p7 p8 p9 p10 p11 p12 p13 p14 p15 p16 p17=>k (Ex.exit 0) (sx 30 [(2,CV.ptr 1 []),(3,CV.ptr 12 [])] [Blk.mem (CV.pure (Ty.pair (Ty.slice (Ty.int u32)) (Ty.pair (Ty.slice (Ty.int i64)) (Ty.pair (Ty.int i64) Ty.unit))) p5),Blk.mem (CV.int i64 p6),Blk.mem (CV.pure (Ty.pair (Ty.int i64) (Ty.pair (Ty.int u32) Ty.unit)) p7),Blk.mem (CV.pair (CV.nil 37 (Ty.int u32)) (CV.pair (CV.nil 3 (Ty.int i64)) (CV.pure (Ty.pair (Ty.int i64) Ty.unit) p8))),Blk.mem (CV.pure (Ty.pair (Ty.int i64) (Ty.pair (Ty.int u32) Ty.unit)) p9),Blk.mem (CV.pure (Ty.pair (Ty.slice (Ty.int u32)) (Ty.pair (Ty.slice (Ty.int i64)) (Ty.pair (Ty.int i64) Ty.unit))) p10),Blk.mem (CV.pure (Ty.pair (Ty.int i64) (Ty.pair (Ty.int u32) Ty.unit)) p11),Blk.mem (CV.pair (CV.nil 37 (Ty.int u32)) (CV.pair (CV.nil 3 (Ty.int i64)) (CV.pure (Ty.pair (Ty.int i64) Ty.unit) p12))),Blk.mem (CV.pure (Ty.pair (Ty.int i64) (Ty.pair (Ty.int u32) Ty.unit)) p13),Blk.vec 37 (Ty.int u32) p14,Blk.vec 3 (Ty.int i64) p15,Blk.mem (CV.pair (CV.whole 9) (CV.pair (CV.whole 10) (CV.pure (Ty.pair (Ty.int i64) Ty.unit) p16))),Blk.mem (CV.pair (CV.whole 9) (CV.pair (CV.whole 10) (CV.pure (Ty.pair (Ty.int i64) Ty.unit) p17)))] 12)
noncomputable def Sp.S_92_126_0_0{R:Type}(K:Int->Nat->Nat->Int->Int->(List Int×List Int×Int×Unit)->Int->(Int×Int×Unit)->(Int×Unit)->(Int×Int×Unit)->(List Int×List Int×Int×Unit)->(Int×Int×Unit)->(Int×Unit)->(Int×Int×Unit)->List Int->List Int->(Int×Unit)->(Int×Unit)->Option R)(k:E_92_126_0_0->Option R)(p0:Int)(p1 p2:Nat)(p3 p4:Int)(p5:List Int×List Int×Int×Unit)(p6:Int)(p7:Int×Int×Unit)(p8:Int×Unit)(p9:Int×Int×Unit)(p10:List Int×List Int×Int×Unit)(p11:Int×Int×Unit)(p12:Int×Unit)(p13:Int×Int×Unit)(p14 p15:List Int)(p16 p17:Int×Unit):Option R:=
 bif decide (p4<p3)then gd (inB p4 p2) (gd (decide (p1+toNat p4<length p14)&&true) (gd (inB p4 p2) (gd (decide (p1+toNat p4<length p14)&&true&&true) (K p0 p1 p2 p3 (wrap i64 (p4+1)) p5 p6 p7 p8 p9 p10 p11 p12 p13 (List.set p14 (p1+toNat p4) (Sp.orI u32 (getD p14 (p1+toNat p4) 0) p0)) p15 p16 p17))))else k (E_92_126_0_0.e0 p5 p6 p7 p8 p9 p10 p11 p12 p13 p14 p15 p16 p17)
noncomputable def Sp.L_92_126_0_0:Nat->Int->Nat->Nat->Int->Int->(List Int×List Int×Int×Unit)->Int->(Int×Int×Unit)->(Int×Unit)->(Int×Int×Unit)->(List Int×List Int×Int×Unit)->(Int×Int×Unit)->(Int×Unit)->(Int×Int×Unit)->List Int->List Int->(Int×Unit)->(Int×Unit)->Option E_92_126_0_0
 |0,_,_,_,_,_,_,_,_,_,_,_,_,_,_,_,_,_,_=>none
 |m+1,p0,p1,p2,p3,p4,p5,p6,p7,p8,p9,p10,p11,p12,p13,p14,p15,p16,p17=>S_92_126_0_0 (L_92_126_0_0 m) some p0 p1 p2 p3 p4 p5 p6 p7 p8 p9 p10 p11 p12 p13 p14 p15 p16 p17
noncomputable def l_92_126_0_0(m:Nat)(a:T_92_126_0_0.E):Option E_92_126_0_0:=L_92_126_0_0 m a.1 a.2.1 a.2.2.1 a.2.2.2.1 a.2.2.2.2.1 a.2.2.2.2.2.1 a.2.2.2.2.2.2.1 a.2.2.2.2.2.2.2.1 a.2.2.2.2.2.2.2.2.1 a.2.2.2.2.2.2.2.2.2.1 a.2.2.2.2.2.2.2.2.2.2.1 a.2.2.2.2.2.2.2.2.2.2.2.1 a.2.2.2.2.2.2.2.2.2.2.2.2.1 a.2.2.2.2.2.2.2.2.2.2.2.2.2.1 a.2.2.2.2.2.2.2.2.2.2.2.2.2.2.1 a.2.2.2.2.2.2.2.2.2.2.2.2.2.2.2.1 a.2.2.2.2.2.2.2.2.2.2.2.2.2.2.2.2.1 a.2.2.2.2.2.2.2.2.2.2.2.2.2.2.2.2.2.1
noncomputable def O_92_126_0_0{R:Type}:Orc R:=orL T_92_126_0_0 (l_92_126_0_0 FU) Y_92_126_0_0
theorem OK_92_126_0_0{R:Type}:okF (R:=R) sm_92 1 (nf 126 0) O_92_126_0_0:=lp0 T_92_126_0_0 l_92_126_0_0 (fun R K k a=>S_92_126_0_0 (fun p0 p1 p2 p3 p4 p5 p6 p7 p8 p9 p10 p11 p12 p13 p14 p15 p16 p17=>K (p0,p1,p2,p3,p4,p5,p6,p7,p8,p9,p10,p11,p12,p13,p14,p15,p16,p17,())) k a.1 a.2.1 a.2.2.1 a.2.2.2.1 a.2.2.2.2.1 a.2.2.2.2.2.1 a.2.2.2.2.2.2.1 a.2.2.2.2.2.2.2.1 a.2.2.2.2.2.2.2.2.1 a.2.2.2.2.2.2.2.2.2.1 a.2.2.2.2.2.2.2.2.2.2.1 a.2.2.2.2.2.2.2.2.2.2.2.1 a.2.2.2.2.2.2.2.2.2.2.2.2.1 a.2.2.2.2.2.2.2.2.2.2.2.2.2.1 a.2.2.2.2.2.2.2.2.2.2.2.2.2.2.1 a.2.2.2.2.2.2.2.2.2.2.2.2.2.2.2.1 a.2.2.2.2.2.2.2.2.2.2.2.2.2.2.2.2.1 a.2.2.2.2.2.2.2.2.2.2.2.2.2.2.2.2.2.1) Y_92_126_0_0 (fun _ _ _=>by kernel_rfl) (fun _ _ _=>by
 unfold S_92_126_0_0
 repeat' first|apply gdN|apply condN|rfl) (ok0 _)
noncomputable def g_92_126{R:Type}:List CV->List Blk->(CV->List Blk->Option R)->Option R:=evFnL sm_92 FU (ovr noO (evFn sm_92 fns FU 1)) (mkT (fB fns 126) [O_92_126_0_0]) (fO fns 126)
theorem g_92_126_ok{R:Type}(args:List CV)(hp:List Blk)(k:CV->List Blk->Option R)(r:R)(h:g_92_126 args hp k=some r):evFn sm_92 fns FU 2 126 args hp k=some r:=runG noO_ok (os:=[O_92_126_0_0]) ⟨OK_92_126_0_0,trivial⟩ h
noncomputable def ov_92_125{R:Type}:Nat->Option (List CV->List Blk->(CV->List Blk->Option R)->Option R):=fun f'=>bif Nat.beq f' 126 then some g_92_126 else none
theorem ov_92_125_ok{R:Type}:OvrOK (R:=R) ov_92_125 (evFn sm_92 fns FU 2):=by
 intro f' g h args hp k r hg
 dsimp only[ov_92_125]at h
 by_cases h126:f'=126
 ·subst h126
  injection h with h
  subst h
  exact evFn_le 0 (g_92_126_ok _ _ _ _ hg)
 rw[nbeq_ne h126,cond_false]at h
 cases h
noncomputable def g_92_125{R:Type}:List CV->List Blk->(CV->List Blk->Option R)->Option R:=evFnL sm_92 FU (ovr ov_92_125 (evFn sm_92 fns FU 2)) (mkT (fB fns 125) []) (fO fns 125)
theorem g_92_125_ok{R:Type}(args:List CV)(hp:List Blk)(k:CV->List Blk->Option R)(r:R)(h:g_92_125 args hp k=some r):evFn sm_92 fns FU 3 125 args hp k=some r:=runG ov_92_125_ok (os:=[]) trivial h
noncomputable def ov_92_92{R:Type}:Nat->Option (List CV->List Blk->(CV->List Blk->Option R)->Option R):=fun f'=>bif Nat.beq f' 125 then some g_92_125 else bif Nat.beq f' 126 then some g_92_126 else none
theorem ov_92_92_ok{R:Type}:OvrOK (R:=R) ov_92_92 (evFn sm_92 fns FU 3):=by
 intro f' g h args hp k r hg
 dsimp only[ov_92_92]at h
 by_cases h125:f'=125
 ·subst h125
  injection h with h
  subst h
  exact evFn_le 0 (g_92_125_ok _ _ _ _ hg)
 rw[nbeq_ne h125,cond_false]at h
 by_cases h126:f'=126
 ·subst h126
  injection h with h
  subst h
  exact evFn_le 1 (g_92_126_ok _ _ _ _ hg)
 rw[nbeq_ne h126,cond_false]at h
 cases h
noncomputable def F_92(a0:((List Int)×((List Int)×(Int×Unit))))(a1:Int)(a2:(Int×(Int×Unit))):Option (((List Int)×((List Int)×(Int×Unit)))×(Int×(Int×Unit))×Int×Unit) :=
 gd (p_124 a0 a2 a1 (↑(length (a0.2.1)):Int)) (bif(v_124 a0 a2 a1 (↑(length (a0.2.1)):Int)).1 !=0 then some (([],[],0,PUnit.unit),(0,0,PUnit.unit),(v_124 a0 a2 a1 (↑(length (a0.2.1)):Int)).1,PUnit.unit)else gd (inB a1 (length (a0.2.1))) (bif getD (a0.2.1) (toNat a1) 0==a0.2.2.1 then some (([],[],0,PUnit.unit),(0,0,PUnit.unit),19,PUnit.unit)else gd (room (length (a0.1)) 4) (gd (room (length (a0.2.1)) 8) (bif a2.1==0 then some ((a0.1,a0.2.1,a0.2.2.1,PUnit.unit),a2,18,PUnit.unit)else bif a2.1==1 then gd (sl3 (wrap i64 (a1*64)) (wrap i64 (wrap i64 (a1+1)*64)) (↑(length (a0.1)):Int)) (B_92_126_0_0 (L_92_126_0_0 4611686018427387904 (a2.2.1) (toNat (wrap i64 (a1*64))) (toNat (wrap i64 (wrap i64 (a1+1)*64))-toNat (wrap i64 (a1*64))) (↑(toNat (wrap i64 (wrap i64 (a1+1)*64))-toNat (wrap i64 (a1*64))):Int) 0 a0 a1 a2 (0,PUnit.unit) (0,0,PUnit.unit) a0 (0,a2.2) (0,PUnit.unit) (0,0,PUnit.unit) (a0.1) (a0.2.1) (a0.2.2.1,PUnit.unit) (a0.2.2.1,PUnit.unit)) fun y26 y27 y28 y29 y30 y31 y32 y33 y34 y35 y36 y37 y38=>gd (inB y27 (length y36)) (gd (decide (toNat y27<length y36)&&true) (gd (inB y27 (length y36)) (gd (decide (toNat y27<length y36)&&true&&true) (some ((y35,List.set y36 (toNat y27) (wrap i64 (getD y36 (toNat y27) (0:Int)+(1:Int))),y37),y32,18,PUnit.unit))))))else gd (sl3 (wrap i64 (a1*64)) (wrap i64 (wrap i64 (a1+1)*64)) (↑(length (a0.1)):Int)) (B_92_126_0_0 (L_92_126_0_0 4611686018427387904 4294967295 (toNat (wrap i64 (a1*64))) (toNat (wrap i64 (wrap i64 (a1+1)*64))-toNat (wrap i64 (a1*64))) (↑(toNat (wrap i64 (wrap i64 (a1+1)*64))-toNat (wrap i64 (a1*64))):Int) 0 a0 a1 a2 (0,PUnit.unit) (0,0,PUnit.unit) a0 (wrap i64 (a2.1-1),a2.2) (0,PUnit.unit) (0,0,PUnit.unit) (a0.1) (a0.2.1) (a0.2.2.1,PUnit.unit) (a0.2.2.1,PUnit.unit)) fun y39 y40 y41 y42 y43 y44 y45 y46 y47 y48 y49 y50 y51=>gd (inB y40 (length y49)) (gd (decide (toNat y40<length y49)&&true) (gd (inB y40 (length y49)) (gd (decide (toNat y40<length y49)&&true&&true) (some ((y48,List.set y49 (toNat y40) (wrap i64 (getD y49 (toNat y40) (0:Int)+(1:Int))),y50),y45,0,PUnit.unit))))))))))
noncomputable def Sp.p_92(a0:((List Int)×((List Int)×(Int×Unit))))(a1:Int)(a2:(Int×(Int×Unit))):Bool:=(F_92 a0 a1 a2).isSome
noncomputable def Sp.v_92(a0:((List Int)×((List Int)×(Int×Unit))))(a1:Int)(a2:(Int×(Int×Unit))):((List Int)×((List Int)×(Int×Unit)))×(Int×(Int×Unit))×Int×Unit:=(F_92 a0 a1 a2).getD (dfH R_92)
noncomputable def s_92:Summ:=shS A_92 R_92 (fun x=>p_92 x.1 x.2.1 x.2.2.1) (fun x=>v_92 x.1 x.2.1 x.2.2.1)
theorem pv_92(a0:((List Int)×((List Int)×(Int×Unit))))(a1:Int)(a2:(Int×(Int×Unit))){y:((List Int)×((List Int)×(Int×Unit)))×(Int×(Int×Unit))×Int×Unit}(h:F_92 a0 a1 a2=some y):p_92 a0 a1 a2=true/\v_92 a0 a1 a2=y:=pvG h
theorem run_92(x:HDen A_92)(y:HDen R_92)(h:F_92 x.1 x.2.1 x.2.2.1=some y):rnF sm_92 4 92 A_92 R_92 x y:=runG ov_92_92_ok (os:=[]) trivial (Eq.trans (by kernel_rfl) h)
end
noncomputable section
abbrev A_93:List Ty:=[(.pair (.slice (.int .u32)) (.pair (.slice (.int .i64)) (.pair (.int .i64) .unit))),(.int .i64),(.int .u32),(.pair (.int .i64) (.pair (.int .u32) .unit))]
abbrev R_93:List Ty:=[(.pair (.slice (.int .u32)) (.pair (.slice (.int .i64)) (.pair (.int .i64) .unit))),(.pair (.int .i64) (.pair (.int .u32) .unit)),(.int .i64)]
noncomputable def sm_93:Nat->Option Summ:=smL [(90,s_90),(91,s_91),(124,s_124)]
noncomputable def F_93(a0:((List Int)×((List Int)×(Int×Unit))))(a1 a2:Int)(a3:(Int×(Int×Unit))):Option (((List Int)×((List Int)×(Int×Unit)))×(Int×(Int×Unit))×Int×Unit) :=
 gd (p_124 a0 a3 a1 (↑(length (a0.1)):Int)) (bif(v_124 a0 a3 a1 (↑(length (a0.1)):Int)).1 !=0 then some (([],[],0,PUnit.unit),(0,0,PUnit.unit),(v_124 a0 a3 a1 (↑(length (a0.1)):Int)).1,PUnit.unit)else gd (room (length (a0.1)) 4) (gd (room (length (a0.2.1)) 8) (bif a3.1==0 then some ((a0.1,a0.2.1,a0.2.2.1,PUnit.unit),a3,18,PUnit.unit)else bif a3.1==1 then gd (inB a1 (length (a0.1))) (gd (decide (toNat a1<length (a0.1))&&true) (gd (inB a1 (length (a0.1))) (gd (decide (toNat a1<length (a0.1))&&true&&true) (some ((List.set (a0.1) (toNat a1) (Sp.andnI u32 (getD (a0.1) (toNat a1) 0) (Sp.andnI u32 (a3.2.1) a2)),a0.2.1,a0.2.2.1,PUnit.unit),(0,a3.2),18,PUnit.unit)))))else gd (inB a1 (length (a0.1))) (gd (decide (toNat a1<length (a0.1))&&true) (gd (inB a1 (length (a0.1))) (gd (decide (toNat a1<length (a0.1))&&true&&true) (some ((List.set (a0.1) (toNat a1) (Sp.andnI u32 (getD (a0.1) (toNat a1) 0) (Sp.andnI u32 4294967295 a2)),a0.2.1,a0.2.2.1,PUnit.unit),(wrap i64 (a3.1-1),a3.2),0,PUnit.unit))))))))
noncomputable def Sp.p_93(a0:((List Int)×((List Int)×(Int×Unit))))(a1 a2:Int)(a3:(Int×(Int×Unit))):Bool:=(F_93 a0 a1 a2 a3).isSome
noncomputable def Sp.v_93(a0:((List Int)×((List Int)×(Int×Unit))))(a1 a2:Int)(a3:(Int×(Int×Unit))):((List Int)×((List Int)×(Int×Unit)))×(Int×(Int×Unit))×Int×Unit:=(F_93 a0 a1 a2 a3).getD (dfH R_93)
noncomputable def s_93:Summ:=shS A_93 R_93 (fun x=>p_93 x.1 x.2.1 x.2.2.1 x.2.2.2.1) (fun x=>v_93 x.1 x.2.1 x.2.2.1 x.2.2.2.1)
theorem pv_93(a0:((List Int)×((List Int)×(Int×Unit))))(a1 a2:Int)(a3:(Int×(Int×Unit))){y:((List Int)×((List Int)×(Int×Unit)))×(Int×(Int×Unit))×Int×Unit}(h:F_93 a0 a1 a2 a3=some y):p_93 a0 a1 a2 a3=true/\v_93 a0 a1 a2 a3=y:=pvG h
theorem run_93(x:HDen A_93)(y:HDen R_93)(h:F_93 x.1 x.2.1 x.2.2.1 x.2.2.2.1=some y):rnF sm_93 4 93 A_93 R_93 x y:=runG noO_ok (os:=[]) trivial (Eq.trans (by kernel_rfl) h)
end
end Go.Ev
