/- Helpers: functions of the program as Lean functions, and what they compute. No condition. -/
import Derived.Test.YtnmiibgmjfiknaaGreatG4P1
import Derived.Test.YtnmiibgmjfiknaaGreatG4P2
import Derived.Test.YtnmiibgmjfiknaaGreatProg
import Derived.Test.YtnmiibgmjfiknaaGreatE4P2
import Derived.Test.YtnmiibgmjfiknaaGreatG4P0
set_option maxRecDepth 10000
set_option linter.unusedVariables false
set_option linter.unusedSimpArgs false
open Go.IntKind (wrap i64 i32 i16 i8 u64 u32 u16 u8)
open List (getD length take drop replicate)
open Int (toNat)
open Go.Ev.Sp
namespace Go.Ev
open Go
set_option maxRecDepth 100000
set_option maxHeartbeats 4000000
set_option linter.unusedVariables false
noncomputable section
abbrev A_153:List Ty:=[(.pair (.int .i64) (.pair (.int .u32) .unit))]
abbrev R_153:List Ty:=[(.int .u32),(.pair (.int .i64) (.pair (.int .u32) .unit)),(.int .i64)]
noncomputable def sm_153:Nat->Option Summ:=smL []
noncomputable def T_153_0:PS:=⟨23,[(1,.kc (.ptr 0 [])),(3,.kc (.ptr 1 [])),(5,.hv (.int .u32)),(6,.hv (.int .i64))],[.mem (.hv (.pair (.int .i64) (.pair (.int .u32) .unit))),.mem (.hv (.pair (.int .i64) (.pair (.int .u32) .unit)))],0⟩
inductive Sp.E_153_0 where
 |e0 (p1:Int) (p2:Int×Int×Unit)
 |e1 (p0 p1:Int) (p2:Int×Int×Unit)
noncomputable def Sp.B_153_0{R:Type}(r:Option E_153_0)(k0:Int->(Int×Int×Unit)->Option R)(k1:Int->Int->(Int×Int×Unit)->Option R):Option R:=match r with
 |none=>none
 |some (.e0 p1 p2)=>k0 p1 p2
 |some (.e1 p0 p1 p2)=>k1 p0 p1 p2
noncomputable def Y_153_0{R:Type}(k:Ex->St->Option R):E_153_0->Option R
 | .e0 p1 p2=>k Ex.ret (sx 23 [(2,CV.int u32 0),(3,CV.ptr 0 []),(4,CV.int i64 p1)] [Blk.mem (CV.pure (Ty.pair (Ty.int i64) (Ty.pair (Ty.int u32) Ty.unit)) ((if wrap i64 (p2.1-1)>0 then wrap i64 (p2.1-1)else 0,p2.2):(Int×(Int×Unit))))])
 | .e1 p0 p1 p2=>k Ex.ret (sx 23 [(2,CV.int u32 p0),(3,CV.ptr 0 []),(4,CV.int i64 p1)] [Blk.mem (CV.pure (Ty.pair (Ty.int i64) (Ty.pair (Ty.int u32) Ty.unit)) ((if wrap i64 (p2.1-1)>0 then wrap i64 (p2.1-1)else 0,p2.2):(Int×(Int×Unit))))])
noncomputable def Sp.S_153_0{R:Type}(k:E_153_0->Option R)(p0 p1:Int)(p2 p3:Int×Int×Unit):Option R:=
 bif decide (p2.1<1)then k (E_153_0.e0 p1 p2)else k (E_153_0.e1 p0 p1 p2)
noncomputable def Sp.J_153_0(p0 p1:Int)(p2 p3:Int×Int×Unit):Option E_153_0:=S_153_0 some p0 p1 p2 p3
noncomputable def O_153_0{R:Type}:Orc R:=orL T_153_0 (fun a=>J_153_0 a.1 a.2.1 a.2.2.1 a.2.2.2.1) Y_153_0
theorem OK_153_0{R:Type}:okF (R:=R) sm_153 0 (nf 153 0) O_153_0:=jp noO_ok (os:=[]) trivial T_153_0 (fun R k a=>S_153_0 k a.1 a.2.1 a.2.2.1 a.2.2.2.1) Y_153_0 (fun k a=>by kernel_rfl) (fun Y a=>by
 unfold S_153_0
 repeat' first|apply gdN|apply condN|rfl) (ok0 _)
noncomputable def F_153(a0:(Int×(Int×Unit))):Option (Int×(Int×(Int×Unit))×Int×Unit) :=
 bif decide (a0.1<2)then B_153_0 (J_153_0 (a0.2.1) 18 a0 (0,0,PUnit.unit)) (fun y12 y13=>some (0,(if wrap i64 (y13.1-1)>0 then wrap i64 (y13.1-1)else 0,y13.2),y12,PUnit.unit)) fun y14 y15 y16=>some (y14,(if wrap i64 (y16.1-1)>0 then wrap i64 (y16.1-1)else 0,y16.2),y15,PUnit.unit)else B_153_0 (J_153_0 4294967295 0 a0 (0,0,PUnit.unit)) (fun y17 y18=>some (0,(if wrap i64 (y18.1-1)>0 then wrap i64 (y18.1-1)else 0,y18.2),y17,PUnit.unit)) fun y19 y20 y21=>some (y19,(if wrap i64 (y21.1-1)>0 then wrap i64 (y21.1-1)else 0,y21.2),y20,PUnit.unit)
noncomputable def Sp.p_153(a0:(Int×(Int×Unit))):Bool:=(F_153 a0).isSome
noncomputable def Sp.v_153(a0:(Int×(Int×Unit))):Int×(Int×(Int×Unit))×Int×Unit:=(F_153 a0).getD (dfH R_153)
noncomputable def s_153:Summ:=shN A_153 R_153 (fun x=>p_153 x.1) (fun x=>v_153 x.1)
theorem pv_153(a0:(Int×(Int×Unit))){y:Int×(Int×(Int×Unit))×Int×Unit}(h:F_153 a0=some y):p_153 a0=true/\v_153 a0=y:=pvG h
theorem run_153(x:HDen A_153)(y:HDen R_153)(h:F_153 x.1=some y):rnF sm_153 1 153 A_153 R_153 x y:=runG noO_ok (os:=[O_153_0]) ⟨OK_153_0,trivial⟩ (Eq.trans (by kernel_rfl) h)
end
noncomputable section
abbrev Zt139_0:Type:=Int×Int×Unit
abbrev Zt139_1:Type:=List Int×List Int×Int×Unit
abbrev Zy139_2:Ty:=(.pair (.int .i64) (.pair (.int .u32) .unit))
abbrev Zy139_3:Ty:=(.pair (.slice (.int .u32)) (.pair (.slice (.int .i64)) (.pair (.int .i64) .unit)))
abbrev A_139:List Ty:=[(.pair (.slice (.int .u32)) (.pair (.slice (.int .i64)) (.pair (.int .i64) .unit))),(.int .i64),(.pair (.int .i64) (.pair (.int .u32) .unit))]
abbrev R_139:List Ty:=[(.pair (.slice (.int .u32)) (.pair (.slice (.int .i64)) (.pair (.int .i64) .unit))),(.pair (.int .i64) (.pair (.int .u32) .unit)),(.int .i64)]
noncomputable def sm_139:Nat->Option Summ:=smL [(27,s_27),(62,s_62),(153,s_153)]
noncomputable def T_139_154_0_0:PS:=⟨44,[(1,.kc (.ptr 5 [])),(2,.kc (.ptr 6 [])),(3,.kc (.ptr 9 [])),(4,.hv (.int .i64))],[.mem (.hv Zy139_3),.mem (.hv Zy139_2),.mem (.pr (.kc (.nil 51 (.int .u32))) (.pr (.kc (.nil 3 (.int .i64))) (.hv (.pair (.int .i64) .unit)))),.mem (.hv Zy139_2),.mem (.hv Zy139_2),.mem (.hv Zy139_3),.mem (.pr (.kc (.whole 7)) (.pr (.kc (.whole 8)) (.hv (.pair (.int .i64) .unit)))),.vec 51 (.int .u32),.vec 3 (.int .i64),.mem (.pr (.kc (.whole 10)) (.pr (.kc (.whole 11)) (.hv (.pair (.int .i64) .unit)))),.vec 51 (.int .u32),.vec 3 (.int .i64)],5⟩
inductive Sp.E_139_154_0_0 where
 |e0 (p1:Zt139_1) (p2:Zt139_0) (p3:Int×Unit) (p4 p5:Zt139_0) (p6:Zt139_1) (p7:Int×Unit) (p8 p9:List Int) (p10:Int×Unit) (p11 p12:List Int)
noncomputable def Sp.B_139_154_0_0{R:Type}(r:Option E_139_154_0_0)(k0:Zt139_1->Zt139_0->(Int×Unit)->Zt139_0->Zt139_0->Zt139_1->(Int×Unit)->List Int->List Int->(Int×Unit)->List Int->List Int->Option R):Option R:=match r with
 |none=>none
 |some (.e0 p1 p2 p3 p4 p5 p6 p7 p8 p9 p10 p11 p12)=>k0 p1 p2 p3 p4 p5 p6 p7 p8 p9 p10 p11 p12
noncomputable def Y_139_154_0_0{R:Type}(k:Ex->St->Option R):E_139_154_0_0->Option R
 | .e0 p1 p2 p3 p4 p5 p6 p7 p8 p9 p10 p11 p12=>k (Ex.exit 0) (sx 44 [(1,CV.ptr 5 []),(2,CV.ptr 6 []),(3,CV.ptr 9 [])] [Blk.mem (CV.pure (Ty.pair (Ty.slice (Ty.int u32)) (Ty.pair (Ty.slice (Ty.int i64)) (Ty.pair (Ty.int i64) Ty.unit))) p1),Blk.mem (CV.pure (Ty.pair (Ty.int i64) (Ty.pair (Ty.int u32) Ty.unit)) p2),Blk.mem (CV.pair (CV.nil 51 (Ty.int u32)) (CV.pair (CV.nil 3 (Ty.int i64)) (CV.pure (Ty.pair (Ty.int i64) Ty.unit) p3))),Blk.mem (CV.pure (Ty.pair (Ty.int i64) (Ty.pair (Ty.int u32) Ty.unit)) p4),Blk.mem (CV.pure (Ty.pair (Ty.int i64) (Ty.pair (Ty.int u32) Ty.unit)) p5),Blk.mem (CV.pure (Ty.pair (Ty.slice (Ty.int u32)) (Ty.pair (Ty.slice (Ty.int i64)) (Ty.pair (Ty.int i64) Ty.unit))) p6),Blk.mem (CV.pair (CV.whole 7) (CV.pair (CV.whole 8) (CV.pure (Ty.pair (Ty.int i64) Ty.unit) p7))),Blk.vec 51 (Ty.int u32) p8,Blk.vec 3 (Ty.int i64) p9,Blk.mem (CV.pair (CV.whole 10) (CV.pair (CV.whole 11) (CV.pure (Ty.pair (Ty.int i64) Ty.unit) p10))),Blk.vec 51 (Ty.int u32) p11,Blk.vec 3 (Ty.int i64) p12] 5)
noncomputable def Sp.S_139_154_0_0{R:Type}(K:Int->(List Int×List Int×Int×Unit)->(Int×Int×Unit)->(Int×Unit)->(Int×Int×Unit)->(Int×Int×Unit)->(List Int×List Int×Int×Unit)->(Int×Unit)->List Int->List Int->(Int×Unit)->List Int->List Int->Option R)(k:E_139_154_0_0->Option R)(p0:Int)(p1:List Int×List Int×Int×Unit)(p2:Int×Int×Unit)(p3:Int×Unit)(p4 p5:Int×Int×Unit)(p6:List Int×List Int×Int×Unit)(p7:Int×Unit)(p8 p9:List Int)(p10:Int×Unit)(p11 p12:List Int):Option R:=
 bif decide (p0<(↑(length (p6.1)):Int))then gd (inB p0 (length (p6.1))) (gd (room (length p11+1) 4) (K (wrap i64 (p0+1)) p1 p2 p3 p4 p5 p6 p7 p8 p9 p10 (p11++[getD (p6.1) (toNat p0) 0]) p12))else k (E_139_154_0_0.e0 p1 p2 p3 p4 p5 p6 p7 p8 p9 p10 p11 p12)
noncomputable def Sp.L_139_154_0_0:Nat->Int->(List Int×List Int×Int×Unit)->(Int×Int×Unit)->(Int×Unit)->(Int×Int×Unit)->(Int×Int×Unit)->(List Int×List Int×Int×Unit)->(Int×Unit)->List Int->List Int->(Int×Unit)->List Int->List Int->Option E_139_154_0_0
 |0,_,_,_,_,_,_,_,_,_,_,_,_,_=>none
 |m+1,p0,p1,p2,p3,p4,p5,p6,p7,p8,p9,p10,p11,p12=>S_139_154_0_0 (L_139_154_0_0 m) some p0 p1 p2 p3 p4 p5 p6 p7 p8 p9 p10 p11 p12
noncomputable def l_139_154_0_0(m:Nat)(a:T_139_154_0_0.E):Option E_139_154_0_0:=L_139_154_0_0 m a.1 a.2.1 a.2.2.1 a.2.2.2.1 a.2.2.2.2.1 a.2.2.2.2.2.1 a.2.2.2.2.2.2.1 a.2.2.2.2.2.2.2.1 a.2.2.2.2.2.2.2.2.1 a.2.2.2.2.2.2.2.2.2.1 a.2.2.2.2.2.2.2.2.2.2.1 a.2.2.2.2.2.2.2.2.2.2.2.1 a.2.2.2.2.2.2.2.2.2.2.2.2.1
noncomputable def O_139_154_0_0{R:Type}:Orc R:=orL T_139_154_0_0 (l_139_154_0_0 FU) Y_139_154_0_0
theorem OK_139_154_0_0{R:Type}:okF (R:=R) sm_139 0 (nf 154 0) O_139_154_0_0:=lp0 T_139_154_0_0 l_139_154_0_0 (fun R K k a=>S_139_154_0_0 (fun p0 p1 p2 p3 p4 p5 p6 p7 p8 p9 p10 p11 p12=>K (p0,p1,p2,p3,p4,p5,p6,p7,p8,p9,p10,p11,p12,())) k a.1 a.2.1 a.2.2.1 a.2.2.2.1 a.2.2.2.2.1 a.2.2.2.2.2.1 a.2.2.2.2.2.2.1 a.2.2.2.2.2.2.2.1 a.2.2.2.2.2.2.2.2.1 a.2.2.2.2.2.2.2.2.2.1 a.2.2.2.2.2.2.2.2.2.2.1 a.2.2.2.2.2.2.2.2.2.2.2.1 a.2.2.2.2.2.2.2.2.2.2.2.2.1) Y_139_154_0_0 (fun _ _ _=>by kernel_rfl) (fun _ _ _=>by
 unfold S_139_154_0_0
 repeat' first|apply gdN|apply condN|rfl) (ok0 _)
noncomputable def T_139_154_1_0:PS:=⟨44,[(1,.kc (.ptr 5 [])),(2,.kc (.ptr 6 [])),(3,.kc (.ptr 9 [])),(5,.hv (.int .i64))],[.mem (.hv Zy139_3),.mem (.hv Zy139_2),.mem (.pr (.kc (.nil 51 (.int .u32))) (.pr (.kc (.nil 3 (.int .i64))) (.hv (.pair (.int .i64) .unit)))),.mem (.hv Zy139_2),.mem (.hv Zy139_2),.mem (.hv Zy139_3),.mem (.pr (.kc (.whole 7)) (.pr (.kc (.whole 8)) (.hv (.pair (.int .i64) .unit)))),.vec 51 (.int .u32),.vec 3 (.int .i64),.mem (.pr (.kc (.whole 10)) (.pr (.kc (.whole 11)) (.hv (.pair (.int .i64) .unit)))),.vec 51 (.int .u32),.vec 3 (.int .i64)],5⟩
inductive Sp.E_139_154_1_0 where
 |e0 (p1:Zt139_1) (p2:Zt139_0) (p3:Int×Unit) (p4 p5:Zt139_0) (p7:Int×Unit) (p8 p9:List Int) (p10:Int×Unit) (p11 p12:List Int)
noncomputable def Sp.B_139_154_1_0{R:Type}(r:Option E_139_154_1_0)(k0:Zt139_1->Zt139_0->(Int×Unit)->Zt139_0->Zt139_0->(Int×Unit)->List Int->List Int->(Int×Unit)->List Int->List Int->Option R):Option R:=match r with
 |none=>none
 |some (.e0 p1 p2 p3 p4 p5 p7 p8 p9 p10 p11 p12)=>k0 p1 p2 p3 p4 p5 p7 p8 p9 p10 p11 p12
noncomputable def Y_139_154_1_0{R:Type}(k:Ex->St->Option R):E_139_154_1_0->Option R
 | .e0 p1 p2 p3 p4 p5 p7 p8 p9 p10 p11 p12=>k (Ex.exit 2) (sx 44 [(2,CV.ptr 5 []),(3,CV.ptr 8 [])] [Blk.mem (CV.pure (Ty.pair (Ty.slice (Ty.int u32)) (Ty.pair (Ty.slice (Ty.int i64)) (Ty.pair (Ty.int i64) Ty.unit))) p1),Blk.mem (CV.pure (Ty.pair (Ty.int i64) (Ty.pair (Ty.int u32) Ty.unit)) p2),Blk.mem (CV.pair (CV.nil 51 (Ty.int u32)) (CV.pair (CV.nil 3 (Ty.int i64)) (CV.pure (Ty.pair (Ty.int i64) Ty.unit) p3))),Blk.mem (CV.pure (Ty.pair (Ty.int i64) (Ty.pair (Ty.int u32) Ty.unit)) p4),Blk.mem (CV.pure (Ty.pair (Ty.int i64) (Ty.pair (Ty.int u32) Ty.unit)) p5),Blk.mem (CV.pair (CV.whole 6) (CV.pair (CV.whole 7) (CV.pure (Ty.pair (Ty.int i64) Ty.unit) p7))),Blk.vec 51 (Ty.int u32) p8,Blk.vec 3 (Ty.int i64) p9,Blk.mem (CV.pair (CV.whole 9) (CV.pair (CV.whole 10) (CV.pure (Ty.pair (Ty.int i64) Ty.unit) p10))),Blk.vec 51 (Ty.int u32) p11,Blk.vec 3 (Ty.int i64) p12] 5)
noncomputable def Sp.S_139_154_1_0{R:Type}(K:Int->(List Int×List Int×Int×Unit)->(Int×Int×Unit)->(Int×Unit)->(Int×Int×Unit)->(Int×Int×Unit)->(List Int×List Int×Int×Unit)->(Int×Unit)->List Int->List Int->(Int×Unit)->List Int->List Int->Option R)(k:E_139_154_1_0->Option R)(p0:Int)(p1:List Int×List Int×Int×Unit)(p2:Int×Int×Unit)(p3:Int×Unit)(p4 p5:Int×Int×Unit)(p6:List Int×List Int×Int×Unit)(p7:Int×Unit)(p8 p9:List Int)(p10:Int×Unit)(p11 p12:List Int):Option R:=
 bif decide (p0<(↑(length (p6.2.1)):Int))then gd (inB p0 (length (p6.2.1))) (gd (room (length p12+1) 8) (K (wrap i64 (p0+1)) p1 p2 p3 p4 p5 p6 p7 p8 p9 p10 p11 (p12++[getD (p6.2.1) (toNat p0) 0])))else k (E_139_154_1_0.e0 p1 p2 p3 p4 p5 p7 p8 p9 p10 p11 p12)
noncomputable def Sp.L_139_154_1_0:Nat->Int->(List Int×List Int×Int×Unit)->(Int×Int×Unit)->(Int×Unit)->(Int×Int×Unit)->(Int×Int×Unit)->(List Int×List Int×Int×Unit)->(Int×Unit)->List Int->List Int->(Int×Unit)->List Int->List Int->Option E_139_154_1_0
 |0,_,_,_,_,_,_,_,_,_,_,_,_,_=>none
 |m+1,p0,p1,p2,p3,p4,p5,p6,p7,p8,p9,p10,p11,p12=>S_139_154_1_0 (L_139_154_1_0 m) some p0 p1 p2 p3 p4 p5 p6 p7 p8 p9 p10 p11 p12
noncomputable def l_139_154_1_0(m:Nat)(a:T_139_154_1_0.E):Option E_139_154_1_0:=L_139_154_1_0 m a.1 a.2.1 a.2.2.1 a.2.2.2.1 a.2.2.2.2.1 a.2.2.2.2.2.1 a.2.2.2.2.2.2.1 a.2.2.2.2.2.2.2.1 a.2.2.2.2.2.2.2.2.1 a.2.2.2.2.2.2.2.2.2.1 a.2.2.2.2.2.2.2.2.2.2.1 a.2.2.2.2.2.2.2.2.2.2.2.1 a.2.2.2.2.2.2.2.2.2.2.2.2.1
noncomputable def O_139_154_1_0{R:Type}:Orc R:=orL T_139_154_1_0 (l_139_154_1_0 FU) Y_139_154_1_0
theorem OK_139_154_1_0{R:Type}:okF (R:=R) sm_139 0 (nf 154 1) O_139_154_1_0:=lp0 T_139_154_1_0 l_139_154_1_0 (fun R K k a=>S_139_154_1_0 (fun p0 p1 p2 p3 p4 p5 p6 p7 p8 p9 p10 p11 p12=>K (p0,p1,p2,p3,p4,p5,p6,p7,p8,p9,p10,p11,p12,())) k a.1 a.2.1 a.2.2.1 a.2.2.2.1 a.2.2.2.2.1 a.2.2.2.2.2.1 a.2.2.2.2.2.2.1 a.2.2.2.2.2.2.2.1 a.2.2.2.2.2.2.2.2.1 a.2.2.2.2.2.2.2.2.2.1 a.2.2.2.2.2.2.2.2.2.2.1 a.2.2.2.2.2.2.2.2.2.2.2.1 a.2.2.2.2.2.2.2.2.2.2.2.2.1) Y_139_154_1_0 (fun _ _ _=>by kernel_rfl) (fun _ _ _=>by
 unfold S_139_154_1_0
 repeat' first|apply gdN|apply condN|rfl) (ok0 _)
noncomputable def g_139_154{R:Type}:List CV->List Blk->(CV->List Blk->Option R)->Option R:=evFnL sm_139 FU (ovr noO (evFn sm_139 fns FU 0)) (mkT (fB fns 154) [O_139_154_0_0,O_139_154_1_0]) (fO fns 154)
theorem g_139_154_ok{R:Type}(args:List CV)(hp:List Blk)(k:CV->List Blk->Option R)(r:R)(h:g_139_154 args hp k=some r):evFn sm_139 fns FU 1 154 args hp k=some r:=runG noO_ok (os:=[O_139_154_0_0,O_139_154_1_0]) ⟨OK_139_154_0_0,OK_139_154_1_0,trivial⟩ h
noncomputable def ov_139_139{R:Type}:Nat->Option (List CV->List Blk->(CV->List Blk->Option R)->Option R):=fun f'=>bif Nat.beq f' 154 then some g_139_154 else none
theorem ov_139_139_ok{R:Type}:OvrOK (R:=R) ov_139_139 (evFn sm_139 fns FU 1):=by
 intro f' g h args hp k r hg
 dsimp only[ov_139_139]at h
 by_cases h154:f'=154
 ·subst h154
  injection h with h
  subst h
  exact evFn_le 0 (g_139_154_ok _ _ _ _ hg)
 rw[nbeq_ne h154,cond_false]at h
 cases h
noncomputable def T_139_0:PS:=⟨87,[(1,.hv (.int .i64)),(6,.kc (.ptr 0 [])),(7,.kc (.ptr 3 [])),(9,.hv (.int .u32)),(10,.kc (.ptr 4 [])),(11,.hv (.int .i64)),(12,.kc (.ptr 5 [])),(13,.hv (.int .i64))],[.mem (.pr (.kc (.whole 1)) (.pr (.kc (.whole 2)) (.hv (.pair (.int .i64) .unit)))),.vec 51 (.int .u32),.vec 3 (.int .i64),.mem (.hv Zy139_2),.mem (.hv Zy139_2),.mem (.pr (.kc (.whole 6)) (.pr (.kc (.whole 7)) (.hv (.pair (.int .i64) .unit)))),.vec 51 (.int .u32),.vec 3 (.int .i64)],0⟩
inductive Sp.E_139_0 where
 |e0 (p2:Int) (p4:Int×Unit) (p5 p6:List Int) (p7 p8:Zt139_0) (p9:Int×Unit) (p10 p11:List Int)
noncomputable def Sp.B_139_0{R:Type}(r:Option E_139_0)(k0:Int->(Int×Unit)->List Int->List Int->Zt139_0->Zt139_0->(Int×Unit)->List Int->List Int->Option R):Option R:=match r with
 |none=>none
 |some (.e0 p2 p4 p5 p6 p7 p8 p9 p10 p11)=>k0 p2 p4 p5 p6 p7 p8 p9 p10 p11
noncomputable def Y_139_0{R:Type}(k:Ex->St->Option R):E_139_0->Option R
 | .e0 p2 p4 p5 p6 p7 p8 p9 p10 p11=>k (Ex.exit 0) (sx 87 [(6,CV.ptr 0 []),(7,CV.ptr 3 []),(10,CV.ptr 4 []),(11,CV.int i64 p2),(12,CV.ptr 5 [])] [Blk.mem (CV.pair (CV.whole 1) (CV.pair (CV.whole 2) (CV.pure (Ty.pair (Ty.int i64) Ty.unit) p4))),Blk.vec 51 (Ty.int u32) p5,Blk.vec 3 (Ty.int i64) p6,Blk.mem (CV.pure (Ty.pair (Ty.int i64) (Ty.pair (Ty.int u32) Ty.unit)) p7),Blk.mem (CV.pure (Ty.pair (Ty.int i64) (Ty.pair (Ty.int u32) Ty.unit)) p8),Blk.mem (CV.pair (CV.whole 6) (CV.pair (CV.whole 7) (CV.pure (Ty.pair (Ty.int i64) Ty.unit) p9))),Blk.vec 51 (Ty.int u32) p10,Blk.vec 3 (Ty.int i64) p11])
noncomputable def Sp.S_139_0{R:Type}(K:Int->Int->Int->Int->(Int×Unit)->List Int->List Int->(Int×Int×Unit)->(Int×Int×Unit)->(Int×Unit)->List Int->List Int->Option R)(k:E_139_0->Option R)(p0 p1 p2 p3:Int)(p4:Int×Unit)(p5 p6:List Int)(p7 p8:Int×Int×Unit)(p9:Int×Unit)(p10 p11:List Int):Option R:=
 bif decide (p3<64)then gd (inB (wrap i64 (wrap i64 (p0*64)+p3)) (length p10)) (gd (decide (toNat (wrap i64 (wrap i64 (p0*64)+p3))<length p10)&&true) (gd (inB (wrap i64 (wrap i64 (p0*64)+p3)) (length p10)) (gd (decide (toNat (wrap i64 (wrap i64 (p0*64)+p3))<length p10)&&true&&true) (K p0 p1 p2 (wrap i64 (p3+1)) p4 p5 p6 p7 p8 p9 (List.set p10 (toNat (wrap i64 (wrap i64 (p0*64)+p3))) (Sp.orI u32 (getD p10 (toNat (wrap i64 (wrap i64 (p0*64)+p3))) 0) p1)) p11))))else k (E_139_0.e0 p2 p4 p5 p6 p7 p8 p9 p10 p11)
noncomputable def Sp.L_139_0:Nat->Int->Int->Int->Int->(Int×Unit)->List Int->List Int->(Int×Int×Unit)->(Int×Int×Unit)->(Int×Unit)->List Int->List Int->Option E_139_0
 |0,_,_,_,_,_,_,_,_,_,_,_,_=>none
 |m+1,p0,p1,p2,p3,p4,p5,p6,p7,p8,p9,p10,p11=>S_139_0 (L_139_0 m) some p0 p1 p2 p3 p4 p5 p6 p7 p8 p9 p10 p11
noncomputable def l_139_0(m:Nat)(a:T_139_0.E):Option E_139_0:=L_139_0 m a.1 a.2.1 a.2.2.1 a.2.2.2.1 a.2.2.2.2.1 a.2.2.2.2.2.1 a.2.2.2.2.2.2.1 a.2.2.2.2.2.2.2.1 a.2.2.2.2.2.2.2.2.1 a.2.2.2.2.2.2.2.2.2.1 a.2.2.2.2.2.2.2.2.2.2.1 a.2.2.2.2.2.2.2.2.2.2.2.1
noncomputable def O_139_0{R:Type}:Orc R:=orL T_139_0 (l_139_0 FU) Y_139_0
theorem OK_139_0{R:Type}:okF (R:=R) sm_139 1 (nf 139 0) O_139_0:=lp ov_139_139_ok (os:=[]) trivial T_139_0 l_139_0 (fun R K k a=>S_139_0 (fun p0 p1 p2 p3 p4 p5 p6 p7 p8 p9 p10 p11=>K (p0,p1,p2,p3,p4,p5,p6,p7,p8,p9,p10,p11,())) k a.1 a.2.1 a.2.2.1 a.2.2.2.1 a.2.2.2.2.1 a.2.2.2.2.2.1 a.2.2.2.2.2.2.1 a.2.2.2.2.2.2.2.1 a.2.2.2.2.2.2.2.2.1 a.2.2.2.2.2.2.2.2.2.1 a.2.2.2.2.2.2.2.2.2.2.1 a.2.2.2.2.2.2.2.2.2.2.2.1) Y_139_0 (fun _=>rfl) (fun _ _=>rfl) (fun k K a=>by kernel_rfl) (fun Y K a=>by
 unfold S_139_0
 repeat' first|apply gdN|apply condN|rfl) (ok0 _)
noncomputable def F_139(a0:((List Int)×((List Int)×(Int×Unit))))(a1:Int)(a2:(Int×(Int×Unit))):Option (((List Int)×((List Int)×(Int×Unit)))×(Int×(Int×Unit))×Int×Unit) :=
 gd (p_27 a0) (bif !(v_27 a0).1 then some (([],[],0,PUnit.unit),(0,0,PUnit.unit),1,PUnit.unit)else gd (p_62 a2) (bif !(v_62 a2).1 then some (([],[],0,PUnit.unit),(0,0,PUnit.unit),1,PUnit.unit)else bif decide (a1<0)then some (([],[],0,PUnit.unit),(0,0,PUnit.unit),2,PUnit.unit)else bif decide (a1>=(↑(length (a0.2.1)):Int))then some (([],[],0,PUnit.unit),(0,0,PUnit.unit),2,PUnit.unit)else gd (inB a1 (length (a0.2.1))) (bif getD (a0.2.1) (toNat a1) 0==a0.2.2.1 then some (([],[],0,PUnit.unit),(0,0,PUnit.unit),19,PUnit.unit)else gd (p_153 a2) (B_139_154_0_0 (L_139_154_0_0 4611686018427387904 0 a0 a2 (0,PUnit.unit) (0,0,PUnit.unit) ((v_153 a2).2.1) a0 (0,PUnit.unit) [] [] (a0.2.2.1,PUnit.unit) [] []) fun y40 y41 y42 y43 y44 y45 y46 y47 y48 y49 y50 y51=>B_139_154_1_0 (L_139_154_1_0 4611686018427387904 0 y40 y41 y42 y43 y44 y45 y46 y47 y48 y49 y50 y51) fun y52 y53 y54 y55 y56 y57 y58 y59 y60 y61 y62=>bif decide (y53.1>0)then gd (inB a1 (length y62)) (gd (decide (toNat a1<length y62)&&true) (gd (inB a1 (length y62)) (gd (decide (toNat a1<length y62)&&true&&true) (B_139_0 (L_139_0 4611686018427387904 a1 ((v_153 a2).1) ((v_153 a2).2.2.1) 0 y54 [] [] y55 y56 y60 y61 (List.set y62 (toNat a1) (wrap i64 (getD y62 (toNat a1) (0:Int)+(1:Int))))) fun y65 y66 y67 y68 y69 y70 y71 y72 y73=>some ((y72,y73,y71),y70,y65,PUnit.unit)))))else some ((y61,y62,y60),y56,(v_153 a2).2.2.1,PUnit.unit)))))
noncomputable def Sp.p_139(a0:((List Int)×((List Int)×(Int×Unit))))(a1:Int)(a2:(Int×(Int×Unit))):Bool:=(F_139 a0 a1 a2).isSome
noncomputable def Sp.v_139(a0:((List Int)×((List Int)×(Int×Unit))))(a1:Int)(a2:(Int×(Int×Unit))):((List Int)×((List Int)×(Int×Unit)))×(Int×(Int×Unit))×Int×Unit:=(F_139 a0 a1 a2).getD (dfH R_139)
noncomputable def s_139:Summ:=shS A_139 R_139 (fun x=>p_139 x.1 x.2.1 x.2.2.1) (fun x=>v_139 x.1 x.2.1 x.2.2.1)
theorem pv_139(a0:((List Int)×((List Int)×(Int×Unit))))(a1:Int)(a2:(Int×(Int×Unit))){y:((List Int)×((List Int)×(Int×Unit)))×(Int×(Int×Unit))×Int×Unit}(h:F_139 a0 a1 a2=some y):p_139 a0 a1 a2=true/\v_139 a0 a1 a2=y:=pvG h
theorem run_139(x:HDen A_139)(y:HDen R_139)(h:F_139 x.1 x.2.1 x.2.2.1=some y):rnF sm_139 2 139 A_139 R_139 x y:=runG ov_139_139_ok (os:=[O_139_0]) ⟨OK_139_0,trivial⟩ (Eq.trans (by kernel_rfl) h)
end
noncomputable section
abbrev A_107:List Ty:=[(.pair (.slice (.int .u32)) (.pair (.slice (.int .i64)) (.pair (.int .i64) .unit))),(.int .i64),(.pair (.int .i64) (.pair (.int .u32) .unit))]
abbrev R_107:List Ty:=[(.pair (.slice (.int .u32)) (.pair (.slice (.int .i64)) (.pair (.int .i64) .unit))),(.pair (.int .i64) (.pair (.int .u32) .unit)),(.int .i64)]
noncomputable def sm_107:Nat->Option Summ:=smL [(139,s_139)]
noncomputable def F_107(a0:((List Int)×((List Int)×(Int×Unit))))(a1:Int)(a2:(Int×(Int×Unit))):Option (((List Int)×((List Int)×(Int×Unit)))×(Int×(Int×Unit))×Int×Unit) :=
 gd (p_139 a0 a1 a2) (some ((v_139 a0 a1 a2).1,(v_139 a0 a1 a2).2.1,(v_139 a0 a1 a2).2.2.1,PUnit.unit))
noncomputable def Sp.p_107(a0:((List Int)×((List Int)×(Int×Unit))))(a1:Int)(a2:(Int×(Int×Unit))):Bool:=(F_107 a0 a1 a2).isSome
noncomputable def Sp.v_107(a0:((List Int)×((List Int)×(Int×Unit))))(a1:Int)(a2:(Int×(Int×Unit))):((List Int)×((List Int)×(Int×Unit)))×(Int×(Int×Unit))×Int×Unit:=(F_107 a0 a1 a2).getD (dfH R_107)
noncomputable def s_107:Summ:=shS A_107 R_107 (fun x=>p_107 x.1 x.2.1 x.2.2.1) (fun x=>v_107 x.1 x.2.1 x.2.2.1)
theorem pv_107(a0:((List Int)×((List Int)×(Int×Unit))))(a1:Int)(a2:(Int×(Int×Unit))){y:((List Int)×((List Int)×(Int×Unit)))×(Int×(Int×Unit))×Int×Unit}(h:F_107 a0 a1 a2=some y):p_107 a0 a1 a2=true/\v_107 a0 a1 a2=y:=pvG h
theorem run_107(x:HDen A_107)(y:HDen R_107)(h:F_107 x.1 x.2.1 x.2.2.1=some y):rnF sm_107 1 107 A_107 R_107 x y:=runG noO_ok (os:=[]) trivial (Eq.trans (by kernel_rfl) h)
end
noncomputable section
abbrev Zt140_0:Type:=List Int×List Int×Int×Unit
abbrev Zt140_1:Type:=Int×Int×Unit
abbrev Zy140_2:Ty:=(.pair (.slice (.int .u32)) (.pair (.slice (.int .i64)) (.pair (.int .i64) .unit)))
abbrev Zy140_3:Ty:=(.pair (.int .i64) (.pair (.int .u32) .unit))
abbrev A_140:List Ty:=[(.pair (.slice (.int .u32)) (.pair (.slice (.int .i64)) (.pair (.int .i64) .unit))),(.int .i64),(.int .u32),(.pair (.int .i64) (.pair (.int .u32) .unit))]
abbrev R_140:List Ty:=[(.pair (.slice (.int .u32)) (.pair (.slice (.int .i64)) (.pair (.int .i64) .unit))),(.pair (.int .i64) (.pair (.int .u32) .unit)),(.int .i64)]
noncomputable def sm_140:Nat->Option Summ:=smL [(27,s_27),(62,s_62),(153,s_153)]
noncomputable def T_140_154_0_0:PS:=⟨44,[(1,.kc (.ptr 5 [])),(2,.kc (.ptr 6 [])),(3,.kc (.ptr 9 [])),(4,.hv (.int .i64))],[.mem (.hv Zy140_2),.mem (.hv Zy140_3),.mem (.pr (.kc (.nil 51 (.int .u32))) (.pr (.kc (.nil 3 (.int .i64))) (.hv (.pair (.int .i64) .unit)))),.mem (.hv Zy140_3),.mem (.hv Zy140_3),.mem (.hv Zy140_2),.mem (.pr (.kc (.whole 7)) (.pr (.kc (.whole 8)) (.hv (.pair (.int .i64) .unit)))),.vec 51 (.int .u32),.vec 3 (.int .i64),.mem (.pr (.kc (.whole 10)) (.pr (.kc (.whole 11)) (.hv (.pair (.int .i64) .unit)))),.vec 51 (.int .u32),.vec 3 (.int .i64)],5⟩
inductive Sp.E_140_154_0_0 where
 |e0 (p1:Zt140_0) (p2:Zt140_1) (p3:Int×Unit) (p4 p5:Zt140_1) (p6:Zt140_0) (p7:Int×Unit) (p8 p9:List Int) (p10:Int×Unit) (p11 p12:List Int)
noncomputable def Sp.B_140_154_0_0{R:Type}(r:Option E_140_154_0_0)(k0:Zt140_0->Zt140_1->(Int×Unit)->Zt140_1->Zt140_1->Zt140_0->(Int×Unit)->List Int->List Int->(Int×Unit)->List Int->List Int->Option R):Option R:=match r with
 |none=>none
 |some (.e0 p1 p2 p3 p4 p5 p6 p7 p8 p9 p10 p11 p12)=>k0 p1 p2 p3 p4 p5 p6 p7 p8 p9 p10 p11 p12
noncomputable def Y_140_154_0_0{R:Type}(k:Ex->St->Option R):E_140_154_0_0->Option R
 | .e0 p1 p2 p3 p4 p5 p6 p7 p8 p9 p10 p11 p12=>k (Ex.exit 0) (sx 44 [(1,CV.ptr 5 []),(2,CV.ptr 6 []),(3,CV.ptr 9 [])] [Blk.mem (CV.pure (Ty.pair (Ty.slice (Ty.int u32)) (Ty.pair (Ty.slice (Ty.int i64)) (Ty.pair (Ty.int i64) Ty.unit))) p1),Blk.mem (CV.pure (Ty.pair (Ty.int i64) (Ty.pair (Ty.int u32) Ty.unit)) p2),Blk.mem (CV.pair (CV.nil 51 (Ty.int u32)) (CV.pair (CV.nil 3 (Ty.int i64)) (CV.pure (Ty.pair (Ty.int i64) Ty.unit) p3))),Blk.mem (CV.pure (Ty.pair (Ty.int i64) (Ty.pair (Ty.int u32) Ty.unit)) p4),Blk.mem (CV.pure (Ty.pair (Ty.int i64) (Ty.pair (Ty.int u32) Ty.unit)) p5),Blk.mem (CV.pure (Ty.pair (Ty.slice (Ty.int u32)) (Ty.pair (Ty.slice (Ty.int i64)) (Ty.pair (Ty.int i64) Ty.unit))) p6),Blk.mem (CV.pair (CV.whole 7) (CV.pair (CV.whole 8) (CV.pure (Ty.pair (Ty.int i64) Ty.unit) p7))),Blk.vec 51 (Ty.int u32) p8,Blk.vec 3 (Ty.int i64) p9,Blk.mem (CV.pair (CV.whole 10) (CV.pair (CV.whole 11) (CV.pure (Ty.pair (Ty.int i64) Ty.unit) p10))),Blk.vec 51 (Ty.int u32) p11,Blk.vec 3 (Ty.int i64) p12] 5)
noncomputable def Sp.S_140_154_0_0{R:Type}(K:Int->(List Int×List Int×Int×Unit)->(Int×Int×Unit)->(Int×Unit)->(Int×Int×Unit)->(Int×Int×Unit)->(List Int×List Int×Int×Unit)->(Int×Unit)->List Int->List Int->(Int×Unit)->List Int->List Int->Option R)(k:E_140_154_0_0->Option R)(p0:Int)(p1:List Int×List Int×Int×Unit)(p2:Int×Int×Unit)(p3:Int×Unit)(p4 p5:Int×Int×Unit)(p6:List Int×List Int×Int×Unit)(p7:Int×Unit)(p8 p9:List Int)(p10:Int×Unit)(p11 p12:List Int):Option R:=
 bif decide (p0<(↑(length (p6.1)):Int))then gd (inB p0 (length (p6.1))) (gd (room (length p11+1) 4) (K (wrap i64 (p0+1)) p1 p2 p3 p4 p5 p6 p7 p8 p9 p10 (p11++[getD (p6.1) (toNat p0) 0]) p12))else k (E_140_154_0_0.e0 p1 p2 p3 p4 p5 p6 p7 p8 p9 p10 p11 p12)
noncomputable def Sp.L_140_154_0_0:Nat->Int->(List Int×List Int×Int×Unit)->(Int×Int×Unit)->(Int×Unit)->(Int×Int×Unit)->(Int×Int×Unit)->(List Int×List Int×Int×Unit)->(Int×Unit)->List Int->List Int->(Int×Unit)->List Int->List Int->Option E_140_154_0_0
 |0,_,_,_,_,_,_,_,_,_,_,_,_,_=>none
 |m+1,p0,p1,p2,p3,p4,p5,p6,p7,p8,p9,p10,p11,p12=>S_140_154_0_0 (L_140_154_0_0 m) some p0 p1 p2 p3 p4 p5 p6 p7 p8 p9 p10 p11 p12
noncomputable def l_140_154_0_0(m:Nat)(a:T_140_154_0_0.E):Option E_140_154_0_0:=L_140_154_0_0 m a.1 a.2.1 a.2.2.1 a.2.2.2.1 a.2.2.2.2.1 a.2.2.2.2.2.1 a.2.2.2.2.2.2.1 a.2.2.2.2.2.2.2.1 a.2.2.2.2.2.2.2.2.1 a.2.2.2.2.2.2.2.2.2.1 a.2.2.2.2.2.2.2.2.2.2.1 a.2.2.2.2.2.2.2.2.2.2.2.1 a.2.2.2.2.2.2.2.2.2.2.2.2.1
noncomputable def O_140_154_0_0{R:Type}:Orc R:=orL T_140_154_0_0 (l_140_154_0_0 FU) Y_140_154_0_0
theorem OK_140_154_0_0{R:Type}:okF (R:=R) sm_140 0 (nf 154 0) O_140_154_0_0:=lp0 T_140_154_0_0 l_140_154_0_0 (fun R K k a=>S_140_154_0_0 (fun p0 p1 p2 p3 p4 p5 p6 p7 p8 p9 p10 p11 p12=>K (p0,p1,p2,p3,p4,p5,p6,p7,p8,p9,p10,p11,p12,())) k a.1 a.2.1 a.2.2.1 a.2.2.2.1 a.2.2.2.2.1 a.2.2.2.2.2.1 a.2.2.2.2.2.2.1 a.2.2.2.2.2.2.2.1 a.2.2.2.2.2.2.2.2.1 a.2.2.2.2.2.2.2.2.2.1 a.2.2.2.2.2.2.2.2.2.2.1 a.2.2.2.2.2.2.2.2.2.2.2.1 a.2.2.2.2.2.2.2.2.2.2.2.2.1) Y_140_154_0_0 (fun _ _ _=>by kernel_rfl) (fun _ _ _=>by
 unfold S_140_154_0_0
 repeat' first|apply gdN|apply condN|rfl) (ok0 _)
noncomputable def T_140_154_1_0:PS:=⟨44,[(1,.kc (.ptr 5 [])),(2,.kc (.ptr 6 [])),(3,.kc (.ptr 9 [])),(5,.hv (.int .i64))],[.mem (.hv Zy140_2),.mem (.hv Zy140_3),.mem (.pr (.kc (.nil 51 (.int .u32))) (.pr (.kc (.nil 3 (.int .i64))) (.hv (.pair (.int .i64) .unit)))),.mem (.hv Zy140_3),.mem (.hv Zy140_3),.mem (.hv Zy140_2),.mem (.pr (.kc (.whole 7)) (.pr (.kc (.whole 8)) (.hv (.pair (.int .i64) .unit)))),.vec 51 (.int .u32),.vec 3 (.int .i64),.mem (.pr (.kc (.whole 10)) (.pr (.kc (.whole 11)) (.hv (.pair (.int .i64) .unit)))),.vec 51 (.int .u32),.vec 3 (.int .i64)],5⟩
inductive Sp.E_140_154_1_0 where
 |e0 (p1:Zt140_0) (p2:Zt140_1) (p3:Int×Unit) (p4 p5:Zt140_1) (p7:Int×Unit) (p8 p9:List Int) (p10:Int×Unit) (p11 p12:List Int)
noncomputable def Sp.B_140_154_1_0{R:Type}(r:Option E_140_154_1_0)(k0:Zt140_0->Zt140_1->(Int×Unit)->Zt140_1->Zt140_1->(Int×Unit)->List Int->List Int->(Int×Unit)->List Int->List Int->Option R):Option R:=match r with
 |none=>none
 |some (.e0 p1 p2 p3 p4 p5 p7 p8 p9 p10 p11 p12)=>k0 p1 p2 p3 p4 p5 p7 p8 p9 p10 p11 p12
noncomputable def Y_140_154_1_0{R:Type}(k:Ex->St->Option R):E_140_154_1_0->Option R
 | .e0 p1 p2 p3 p4 p5 p7 p8 p9 p10 p11 p12=>k (Ex.exit 2) (sx 44 [(2,CV.ptr 5 []),(3,CV.ptr 8 [])] [Blk.mem (CV.pure (Ty.pair (Ty.slice (Ty.int u32)) (Ty.pair (Ty.slice (Ty.int i64)) (Ty.pair (Ty.int i64) Ty.unit))) p1),Blk.mem (CV.pure (Ty.pair (Ty.int i64) (Ty.pair (Ty.int u32) Ty.unit)) p2),Blk.mem (CV.pair (CV.nil 51 (Ty.int u32)) (CV.pair (CV.nil 3 (Ty.int i64)) (CV.pure (Ty.pair (Ty.int i64) Ty.unit) p3))),Blk.mem (CV.pure (Ty.pair (Ty.int i64) (Ty.pair (Ty.int u32) Ty.unit)) p4),Blk.mem (CV.pure (Ty.pair (Ty.int i64) (Ty.pair (Ty.int u32) Ty.unit)) p5),Blk.mem (CV.pair (CV.whole 6) (CV.pair (CV.whole 7) (CV.pure (Ty.pair (Ty.int i64) Ty.unit) p7))),Blk.vec 51 (Ty.int u32) p8,Blk.vec 3 (Ty.int i64) p9,Blk.mem (CV.pair (CV.whole 9) (CV.pair (CV.whole 10) (CV.pure (Ty.pair (Ty.int i64) Ty.unit) p10))),Blk.vec 51 (Ty.int u32) p11,Blk.vec 3 (Ty.int i64) p12] 5)
noncomputable def Sp.S_140_154_1_0{R:Type}(K:Int->(List Int×List Int×Int×Unit)->(Int×Int×Unit)->(Int×Unit)->(Int×Int×Unit)->(Int×Int×Unit)->(List Int×List Int×Int×Unit)->(Int×Unit)->List Int->List Int->(Int×Unit)->List Int->List Int->Option R)(k:E_140_154_1_0->Option R)(p0:Int)(p1:List Int×List Int×Int×Unit)(p2:Int×Int×Unit)(p3:Int×Unit)(p4 p5:Int×Int×Unit)(p6:List Int×List Int×Int×Unit)(p7:Int×Unit)(p8 p9:List Int)(p10:Int×Unit)(p11 p12:List Int):Option R:=
 bif decide (p0<(↑(length (p6.2.1)):Int))then gd (inB p0 (length (p6.2.1))) (gd (room (length p12+1) 8) (K (wrap i64 (p0+1)) p1 p2 p3 p4 p5 p6 p7 p8 p9 p10 p11 (p12++[getD (p6.2.1) (toNat p0) 0])))else k (E_140_154_1_0.e0 p1 p2 p3 p4 p5 p7 p8 p9 p10 p11 p12)
noncomputable def Sp.L_140_154_1_0:Nat->Int->(List Int×List Int×Int×Unit)->(Int×Int×Unit)->(Int×Unit)->(Int×Int×Unit)->(Int×Int×Unit)->(List Int×List Int×Int×Unit)->(Int×Unit)->List Int->List Int->(Int×Unit)->List Int->List Int->Option E_140_154_1_0
 |0,_,_,_,_,_,_,_,_,_,_,_,_,_=>none
 |m+1,p0,p1,p2,p3,p4,p5,p6,p7,p8,p9,p10,p11,p12=>S_140_154_1_0 (L_140_154_1_0 m) some p0 p1 p2 p3 p4 p5 p6 p7 p8 p9 p10 p11 p12
noncomputable def l_140_154_1_0(m:Nat)(a:T_140_154_1_0.E):Option E_140_154_1_0:=L_140_154_1_0 m a.1 a.2.1 a.2.2.1 a.2.2.2.1 a.2.2.2.2.1 a.2.2.2.2.2.1 a.2.2.2.2.2.2.1 a.2.2.2.2.2.2.2.1 a.2.2.2.2.2.2.2.2.1 a.2.2.2.2.2.2.2.2.2.1 a.2.2.2.2.2.2.2.2.2.2.1 a.2.2.2.2.2.2.2.2.2.2.2.1 a.2.2.2.2.2.2.2.2.2.2.2.2.1
noncomputable def O_140_154_1_0{R:Type}:Orc R:=orL T_140_154_1_0 (l_140_154_1_0 FU) Y_140_154_1_0
theorem OK_140_154_1_0{R:Type}:okF (R:=R) sm_140 0 (nf 154 1) O_140_154_1_0:=lp0 T_140_154_1_0 l_140_154_1_0 (fun R K k a=>S_140_154_1_0 (fun p0 p1 p2 p3 p4 p5 p6 p7 p8 p9 p10 p11 p12=>K (p0,p1,p2,p3,p4,p5,p6,p7,p8,p9,p10,p11,p12,())) k a.1 a.2.1 a.2.2.1 a.2.2.2.1 a.2.2.2.2.1 a.2.2.2.2.2.1 a.2.2.2.2.2.2.1 a.2.2.2.2.2.2.2.1 a.2.2.2.2.2.2.2.2.1 a.2.2.2.2.2.2.2.2.2.1 a.2.2.2.2.2.2.2.2.2.2.1 a.2.2.2.2.2.2.2.2.2.2.2.1 a.2.2.2.2.2.2.2.2.2.2.2.2.1) Y_140_154_1_0 (fun _ _ _=>by kernel_rfl) (fun _ _ _=>by
 unfold S_140_154_1_0
 repeat' first|apply gdN|apply condN|rfl) (ok0 _)
noncomputable def g_140_154{R:Type}:List CV->List Blk->(CV->List Blk->Option R)->Option R:=evFnL sm_140 FU (ovr noO (evFn sm_140 fns FU 0)) (mkT (fB fns 154) [O_140_154_0_0,O_140_154_1_0]) (fO fns 154)
theorem g_140_154_ok{R:Type}(args:List CV)(hp:List Blk)(k:CV->List Blk->Option R)(r:R)(h:g_140_154 args hp k=some r):evFn sm_140 fns FU 1 154 args hp k=some r:=runG noO_ok (os:=[O_140_154_0_0,O_140_154_1_0]) ⟨OK_140_154_0_0,OK_140_154_1_0,trivial⟩ h
noncomputable def ov_140_140{R:Type}:Nat->Option (List CV->List Blk->(CV->List Blk->Option R)->Option R):=fun f'=>bif Nat.beq f' 154 then some g_140_154 else none
theorem ov_140_140_ok{R:Type}:OvrOK (R:=R) ov_140_140 (evFn sm_140 fns FU 1):=by
 intro f' g h args hp k r hg
 dsimp only[ov_140_140]at h
 by_cases h154:f'=154
 ·subst h154
  injection h with h
  subst h
  exact evFn_le 0 (g_140_154_ok _ _ _ _ hg)
 rw[nbeq_ne h154,cond_false]at h
 cases h
noncomputable def F_140(a0:((List Int)×((List Int)×(Int×Unit))))(a1 a2:Int)(a3:(Int×(Int×Unit))):Option (((List Int)×((List Int)×(Int×Unit)))×(Int×(Int×Unit))×Int×Unit) :=
 gd (p_27 a0) (bif !(v_27 a0).1 then some (([],[],0,PUnit.unit),(0,0,PUnit.unit),1,PUnit.unit)else gd (p_62 a3) (bif !(v_62 a3).1 then some (([],[],0,PUnit.unit),(0,0,PUnit.unit),1,PUnit.unit)else bif decide (a1<0)then some (([],[],0,PUnit.unit),(0,0,PUnit.unit),2,PUnit.unit)else bif decide (a1>=(↑(length (a0.1)):Int))then some (([],[],0,PUnit.unit),(0,0,PUnit.unit),2,PUnit.unit)else gd (p_153 a3) (B_140_154_0_0 (L_140_154_0_0 4611686018427387904 0 a0 a3 (0,PUnit.unit) (0,0,PUnit.unit) ((v_153 a3).2.1) a0 (0,PUnit.unit) [] [] (a0.2.2.1,PUnit.unit) [] []) fun y31 y32 y33 y34 y35 y36 y37 y38 y39 y40 y41 y42=>B_140_154_1_0 (L_140_154_1_0 4611686018427387904 0 y31 y32 y33 y34 y35 y36 y37 y38 y39 y40 y41 y42) fun y43 y44 y45 y46 y47 y48 y49 y50 y51 y52 y53=>gd (inB a1 (length (y43.1))) (gd (inB a1 (length y52)) (gd (decide (toNat a1<length y52)&&true&&true) (some ((List.set y52 (toNat a1) (Sp.andI u32 (getD (y43.1) (toNat a1) 0) (Sp.orI u32 a2 (Sp.xorI u32 4294967295 ((v_153 a3).1)))),y53,y51),y47,(v_153 a3).2.2.1,PUnit.unit)))))))
noncomputable def Sp.p_140(a0:((List Int)×((List Int)×(Int×Unit))))(a1 a2:Int)(a3:(Int×(Int×Unit))):Bool:=(F_140 a0 a1 a2 a3).isSome
noncomputable def Sp.v_140(a0:((List Int)×((List Int)×(Int×Unit))))(a1 a2:Int)(a3:(Int×(Int×Unit))):((List Int)×((List Int)×(Int×Unit)))×(Int×(Int×Unit))×Int×Unit:=(F_140 a0 a1 a2 a3).getD (dfH R_140)
noncomputable def s_140:Summ:=shS A_140 R_140 (fun x=>p_140 x.1 x.2.1 x.2.2.1 x.2.2.2.1) (fun x=>v_140 x.1 x.2.1 x.2.2.1 x.2.2.2.1)
theorem pv_140(a0:((List Int)×((List Int)×(Int×Unit))))(a1 a2:Int)(a3:(Int×(Int×Unit))){y:((List Int)×((List Int)×(Int×Unit)))×(Int×(Int×Unit))×Int×Unit}(h:F_140 a0 a1 a2 a3=some y):p_140 a0 a1 a2 a3=true/\v_140 a0 a1 a2 a3=y:=pvG h
theorem run_140(x:HDen A_140)(y:HDen R_140)(h:F_140 x.1 x.2.1 x.2.2.1 x.2.2.2.1=some y):rnF sm_140 2 140 A_140 R_140 x y:=runG ov_140_140_ok (os:=[]) trivial (Eq.trans (by kernel_rfl) h)
end
noncomputable section
abbrev A_108:List Ty:=[(.pair (.slice (.int .u32)) (.pair (.slice (.int .i64)) (.pair (.int .i64) .unit))),(.int .i64),(.int .u32),(.pair (.int .i64) (.pair (.int .u32) .unit))]
abbrev R_108:List Ty:=[(.pair (.slice (.int .u32)) (.pair (.slice (.int .i64)) (.pair (.int .i64) .unit))),(.pair (.int .i64) (.pair (.int .u32) .unit)),(.int .i64)]
noncomputable def sm_108:Nat->Option Summ:=smL [(140,s_140)]
noncomputable def F_108(a0:((List Int)×((List Int)×(Int×Unit))))(a1 a2:Int)(a3:(Int×(Int×Unit))):Option (((List Int)×((List Int)×(Int×Unit)))×(Int×(Int×Unit))×Int×Unit) :=
 gd (p_140 a0 a1 a2 a3) (some ((v_140 a0 a1 a2 a3).1,(v_140 a0 a1 a2 a3).2.1,(v_140 a0 a1 a2 a3).2.2.1,PUnit.unit))
noncomputable def Sp.p_108(a0:((List Int)×((List Int)×(Int×Unit))))(a1 a2:Int)(a3:(Int×(Int×Unit))):Bool:=(F_108 a0 a1 a2 a3).isSome
noncomputable def Sp.v_108(a0:((List Int)×((List Int)×(Int×Unit))))(a1 a2:Int)(a3:(Int×(Int×Unit))):((List Int)×((List Int)×(Int×Unit)))×(Int×(Int×Unit))×Int×Unit:=(F_108 a0 a1 a2 a3).getD (dfH R_108)
noncomputable def s_108:Summ:=shS A_108 R_108 (fun x=>p_108 x.1 x.2.1 x.2.2.1 x.2.2.2.1) (fun x=>v_108 x.1 x.2.1 x.2.2.1 x.2.2.2.1)
theorem pv_108(a0:((List Int)×((List Int)×(Int×Unit))))(a1 a2:Int)(a3:(Int×(Int×Unit))){y:((List Int)×((List Int)×(Int×Unit)))×(Int×(Int×Unit))×Int×Unit}(h:F_108 a0 a1 a2 a3=some y):p_108 a0 a1 a2 a3=true/\v_108 a0 a1 a2 a3=y:=pvG h
theorem run_108(x:HDen A_108)(y:HDen R_108)(h:F_108 x.1 x.2.1 x.2.2.1 x.2.2.2.1=some y):rnF sm_108 1 108 A_108 R_108 x y:=runG noO_ok (os:=[]) trivial (Eq.trans (by kernel_rfl) h)
end
noncomputable section
abbrev Zt67_0:Type:=(List Int×List Int×Int×Unit)×Int×Int×Unit
abbrev Zt67_1:Type:=Int×Int×Unit
abbrev Zt67_2:Type:=List (Bool×Int×Int×Unit)
abbrev Zt67_3:Type:=(((List Int)×((List Int)×(Int×Unit)))×(Int×(Int×Unit)))
abbrev A_67:List Ty:=[(.pair (.pair (.slice (.int .u32)) (.pair (.slice (.int .i64)) (.pair (.int .i64) .unit))) (.pair (.int .i64) (.pair (.int .i64) .unit))),(.slice (.pair .bool (.pair (.int .i64) (.pair (.int .u32) .unit)))),(.pair (.int .i64) (.pair (.int .u32) .unit))]
abbrev R_67:List Ty:=[(.pair (.pair (.slice (.int .u32)) (.pair (.slice (.int .i64)) (.pair (.int .i64) .unit))) (.pair (.int .i64) (.pair (.int .i64) .unit))),(.pair (.int .i64) (.pair (.int .u32) .unit)),(.int .i64)]
noncomputable def sm_67:Nat->Option Summ:=smL [(107,s_107),(108,s_108)]
noncomputable def T_67_0:PS:=⟨62,[(1,.hv (.slice (.pair .bool (.pair (.int .i64) (.pair (.int .u32) .unit))))),(3,.kc (.ptr 0 [])),(5,.kc (.ptr 1 [])),(6,.kc (.ptr 2 [])),(7,.kc (.ptr 5 [])),(9,.hv (.int .i64))],[.mem (.hv (.pair (.pair (.slice (.int .u32)) (.pair (.slice (.int .i64)) (.pair (.int .i64) .unit))) (.pair (.int .i64) (.pair (.int .i64) .unit)))),.mem (.hv (.pair (.int .i64) (.pair (.int .u32) .unit))),.mem (.pr (.pr (.kc (.whole 3)) (.pr (.kc (.whole 4)) (.hv (.pair (.int .i64) .unit)))) (.hv (.pair (.int .i64) (.pair (.int .i64) .unit)))),.vec 51 (.int .u32),.vec 3 (.int .i64),.mem (.hv (.pair (.int .i64) (.pair (.int .u32) .unit)))],0⟩
inductive Sp.E_67_0 where
 |e0 (p0:Zt67_2) (p1:Int) (p2:Zt67_0) (p3:Zt67_1)
 |e1 (p0:Zt67_2) (p1:Int) (p2:Zt67_0) (p3:Zt67_1)
 |e2 (p2:Zt67_0) (p3:Zt67_1) (p4:Int×Unit) (p5:Zt67_1) (p6 p7:List Int) (p8:Zt67_1)
noncomputable def Sp.B_67_0{R:Type}(r:Option E_67_0)(k0 k1:Zt67_2->Int->Zt67_0->Zt67_1->Option R)(k2:Zt67_0->Zt67_1->(Int×Unit)->Zt67_1->List Int->List Int->Zt67_1->Option R):Option R:=match r with
 |none=>none
 |some (.e0 p0 p1 p2 p3)=>k0 p0 p1 p2 p3
 |some (.e1 p0 p1 p2 p3)=>k1 p0 p1 p2 p3
 |some (.e2 p2 p3 p4 p5 p6 p7 p8)=>k2 p2 p3 p4 p5 p6 p7 p8
noncomputable def Y_67_0{R:Type}(k:Ex->St->Option R):E_67_0->Option R
 | .e0 p0 p1 p2 p3=>k Ex.ret (sx 62 [(6,CV.ptr 0 []),(7,CV.ptr 1 []),(8,CV.int i64 ((v_107 (p2.1) ((getD p0 (toNat p1) Zd3).2.1) p3).2.2.1))] [Blk.mem (CV.pure (Ty.pair (Ty.pair (Ty.slice (Ty.int u32)) (Ty.pair (Ty.slice (Ty.int i64)) (Ty.pair (Ty.int i64) Ty.unit))) (Ty.pair (Ty.int i64) (Ty.pair (Ty.int i64) Ty.unit))) (((v_107 (p2.1) ((getD p0 (toNat p1) Zd3).2.1) p3).1,p2.2):Zt67_3)),Blk.mem (CV.pure (Ty.pair (Ty.int i64) (Ty.pair (Ty.int u32) Ty.unit)) (((v_107 (p2.1) ((getD p0 (toNat p1) Zd3).2.1) p3).2.1):(Int×(Int×Unit))))])
 | .e1 p0 p1 p2 p3=>k Ex.ret (sx 62 [(6,CV.ptr 0 []),(7,CV.ptr 1 []),(8,CV.int i64 ((v_108 (p2.1) ((getD p0 (toNat p1) Zd3).2.1) ((getD p0 (toNat p1) Zd3).2.2.1) p3).2.2.1))] [Blk.mem (CV.pure (Ty.pair (Ty.pair (Ty.slice (Ty.int u32)) (Ty.pair (Ty.slice (Ty.int i64)) (Ty.pair (Ty.int i64) Ty.unit))) (Ty.pair (Ty.int i64) (Ty.pair (Ty.int i64) Ty.unit))) (((v_108 (p2.1) ((getD p0 (toNat p1) Zd3).2.1) ((getD p0 (toNat p1) Zd3).2.2.1) p3).1,p2.2):Zt67_3)),Blk.mem (CV.pure (Ty.pair (Ty.int i64) (Ty.pair (Ty.int u32) Ty.unit)) (((v_108 (p2.1) ((getD p0 (toNat p1) Zd3).2.1) ((getD p0 (toNat p1) Zd3).2.2.1) p3).2.1):(Int×(Int×Unit))))])
 | .e2 p2 p3 p4 p5 p6 p7 p8=>k (Ex.exit 0) (sx 62 [(3,CV.ptr 0 []),(5,CV.ptr 1 []),(6,CV.ptr 2 []),(7,CV.ptr 5 [])] [Blk.mem (CV.pure (Ty.pair (Ty.pair (Ty.slice (Ty.int u32)) (Ty.pair (Ty.slice (Ty.int i64)) (Ty.pair (Ty.int i64) Ty.unit))) (Ty.pair (Ty.int i64) (Ty.pair (Ty.int i64) Ty.unit))) p2),Blk.mem (CV.pure (Ty.pair (Ty.int i64) (Ty.pair (Ty.int u32) Ty.unit)) p3),Blk.mem (CV.pair (CV.pair (CV.whole 3) (CV.pair (CV.whole 4) (CV.pure (Ty.pair (Ty.int i64) Ty.unit) p4))) (CV.pure (Ty.pair (Ty.int i64) (Ty.pair (Ty.int i64) Ty.unit)) p5)),Blk.vec 51 (Ty.int u32) p6,Blk.vec 3 (Ty.int i64) p7,Blk.mem (CV.pure (Ty.pair (Ty.int i64) (Ty.pair (Ty.int u32) Ty.unit)) p8)])
noncomputable def Sp.S_67_0{R:Type}(K:(List (Bool×Int×Int×Unit))->Int->((List Int×List Int×Int×Unit)×Int×Int×Unit)->(Int×Int×Unit)->(Int×Unit)->(Int×Int×Unit)->List Int->List Int->(Int×Int×Unit)->Option R)(k:E_67_0->Option R)(p0:List (Bool×Int×Int×Unit))(p1:Int)(p2:(List Int×List Int×Int×Unit)×Int×Int×Unit)(p3:Int×Int×Unit)(p4:Int×Unit)(p5:Int×Int×Unit)(p6 p7:List Int)(p8:Int×Int×Unit):Option R:=
 bif decide (p1<(↑(length p0):Int))then gd (inB p1 (length p0)) (bif(getD p0 (toNat p1) Zd3).1 then gd (inB p1 (length p0)) (gd (p_107 (p2.1) ((getD p0 (toNat p1) Zd3).2.1) p3) (bif(v_107 (p2.1) ((getD p0 (toNat p1) Zd3).2.1) p3).2.2.1 !=0 then k (E_67_0.e0 p0 p1 p2 p3)else K p0 (wrap i64 (p1+1)) ((v_107 (p2.1) ((getD p0 (toNat p1) Zd3).2.1) p3).1,p2.2) ((v_107 (p2.1) ((getD p0 (toNat p1) Zd3).2.1) p3).2.1) p4 p5 p6 p7 p8))else gd (inB p1 (length p0)) (gd (inB p1 (length p0)) (gd (p_108 (p2.1) ((getD p0 (toNat p1) Zd3).2.1) ((getD p0 (toNat p1) Zd3).2.2.1) p3) (bif(v_108 (p2.1) ((getD p0 (toNat p1) Zd3).2.1) ((getD p0 (toNat p1) Zd3).2.2.1) p3).2.2.1 !=0 then k (E_67_0.e1 p0 p1 p2 p3)else K p0 (wrap i64 (p1+1)) ((v_108 (p2.1) ((getD p0 (toNat p1) Zd3).2.1) ((getD p0 (toNat p1) Zd3).2.2.1) p3).1,p2.2) ((v_108 (p2.1) ((getD p0 (toNat p1) Zd3).2.1) ((getD p0 (toNat p1) Zd3).2.2.1) p3).2.1) p4 p5 p6 p7 p8))))else k (E_67_0.e2 p2 p3 p4 p5 p6 p7 p8)
noncomputable def Sp.L_67_0:Nat->(List (Bool×Int×Int×Unit))->Int->((List Int×List Int×Int×Unit)×Int×Int×Unit)->(Int×Int×Unit)->(Int×Unit)->(Int×Int×Unit)->List Int->List Int->(Int×Int×Unit)->Option E_67_0
 |0,_,_,_,_,_,_,_,_,_=>none
 |m+1,p0,p1,p2,p3,p4,p5,p6,p7,p8=>S_67_0 (L_67_0 m) some p0 p1 p2 p3 p4 p5 p6 p7 p8
noncomputable def l_67_0(m:Nat)(a:T_67_0.E):Option E_67_0:=L_67_0 m a.1 a.2.1 a.2.2.1 a.2.2.2.1 a.2.2.2.2.1 a.2.2.2.2.2.1 a.2.2.2.2.2.2.1 a.2.2.2.2.2.2.2.1 a.2.2.2.2.2.2.2.2.1
noncomputable def O_67_0{R:Type}:Orc R:=orL T_67_0 (l_67_0 FU) Y_67_0
theorem OK_67_0{R:Type}:okF (R:=R) sm_67 0 (nf 67 0) O_67_0:=lp0 T_67_0 l_67_0 (fun R K k a=>S_67_0 (fun p0 p1 p2 p3 p4 p5 p6 p7 p8=>K (p0,p1,p2,p3,p4,p5,p6,p7,p8,())) k a.1 a.2.1 a.2.2.1 a.2.2.2.1 a.2.2.2.2.1 a.2.2.2.2.2.1 a.2.2.2.2.2.2.1 a.2.2.2.2.2.2.2.1 a.2.2.2.2.2.2.2.2.1) Y_67_0 (fun _ _ _=>by kernel_rfl) (fun _ _ _=>by
 unfold S_67_0
 repeat' first|apply gdN|apply condN|rfl) (ok0 _)
noncomputable def F_67(a0:(((List Int)×((List Int)×(Int×Unit)))×(Int×(Int×Unit))))(a1:(List (Bool×(Int×(Int×Unit)))))(a2:(Int×(Int×Unit))):Option ((((List Int)×((List Int)×(Int×Unit)))×(Int×(Int×Unit)))×(Int×(Int×Unit))×Int×Unit) :=
 B_67_0 (L_67_0 4611686018427387904 a1 0 a0 a2 (0,PUnit.unit) (0,0,PUnit.unit) [] [] (0,0,PUnit.unit)) (fun y15 y16 y17 y18=>some (((v_107 (y17.1) ((getD y15 (toNat y16) Zd3).2.1) y18).1,y17.2),(v_107 (y17.1) ((getD y15 (toNat y16) Zd3).2.1) y18).2.1,(v_107 (y17.1) ((getD y15 (toNat y16) Zd3).2.1) y18).2.2.1,PUnit.unit)) (fun y19 y20 y21 y22=>some (((v_108 (y21.1) ((getD y19 (toNat y20) Zd3).2.1) ((getD y19 (toNat y20) Zd3).2.2.1) y22).1,y21.2),(v_108 (y21.1) ((getD y19 (toNat y20) Zd3).2.1) ((getD y19 (toNat y20) Zd3).2.2.1) y22).2.1,(v_108 (y21.1) ((getD y19 (toNat y20) Zd3).2.1) ((getD y19 (toNat y20) Zd3).2.2.1) y22).2.2.1,PUnit.unit)) fun y23 y24 y25 y26 y27 y28 y29=>some (y23,y24,0,PUnit.unit)
noncomputable def Sp.p_67(a0:(((List Int)×((List Int)×(Int×Unit)))×(Int×(Int×Unit))))(a1:(List (Bool×(Int×(Int×Unit)))))(a2:(Int×(Int×Unit))):Bool:=(F_67 a0 a1 a2).isSome
noncomputable def Sp.v_67(a0:(((List Int)×((List Int)×(Int×Unit)))×(Int×(Int×Unit))))(a1:(List (Bool×(Int×(Int×Unit)))))(a2:(Int×(Int×Unit))):(((List Int)×((List Int)×(Int×Unit)))×(Int×(Int×Unit)))×(Int×(Int×Unit))×Int×Unit:=(F_67 a0 a1 a2).getD (dfH R_67)
noncomputable def s_67:Summ:=shS A_67 R_67 (fun x=>p_67 x.1 x.2.1 x.2.2.1) (fun x=>v_67 x.1 x.2.1 x.2.2.1)
theorem pv_67(a0:(((List Int)×((List Int)×(Int×Unit)))×(Int×(Int×Unit))))(a1:(List (Bool×(Int×(Int×Unit)))))(a2:(Int×(Int×Unit))){y:(((List Int)×((List Int)×(Int×Unit)))×(Int×(Int×Unit)))×(Int×(Int×Unit))×Int×Unit}(h:F_67 a0 a1 a2=some y):p_67 a0 a1 a2=true/\v_67 a0 a1 a2=y:=pvG h
theorem run_67(x:HDen A_67)(y:HDen R_67)(h:F_67 x.1 x.2.1 x.2.2.1=some y):rnF sm_67 1 67 A_67 R_67 x y:=runG noO_ok (os:=[O_67_0]) ⟨OK_67_0,trivial⟩ (Eq.trans (by kernel_rfl) h)
end
noncomputable section
abbrev Zt24_0:Type:=List (Int×Int×Int×Int×Int×Int×Bool×Int×Unit)×List (Int×Int×Int×Int×Int×List Int×Int×Unit)×Int×Bool×Unit
abbrev Zt24_1:Type:=(List Int×List Int×Int×Unit)×Int×Int×Unit
abbrev Zy24_2:Ty:=(.pair (.slice (.pair (.int .i64) (.pair (.int .i64) (.pair (.int .i64) (.pair (.int .i64) (.pair (.int .i64) (.pair (.int .i64) (.pair .bool (.pair (.int .i64) .unit))))))))) (.pair (.slice (.pair (.int .i64) (.pair (.int .i64) (.pair (.int .i64) (.pair (.int .i64) (.pair (.int .i64) (.pair (.slice (.int .i64)) (.pair (.int .i64) .unit)))))))) (.pair (.int .i64) (.pair .bool .unit))))
abbrev Zt24_3:Type:=Int×Int×Unit
abbrev Zy24_4:Ty:=(.pair (.pair (.slice (.int .u32)) (.pair (.slice (.int .i64)) (.pair (.int .i64) .unit))) (.pair (.int .i64) (.pair (.int .i64) .unit)))
abbrev Zy24_5:Ty:=(.pair (.int .i64) (.pair (.int .u32) .unit))
abbrev A_24:List Ty:=[(.pair (.pair (.slice (.int .u32)) (.pair (.slice (.int .i64)) (.pair (.int .i64) .unit))) (.pair (.int .i64) (.pair (.int .i64) .unit))),(.pair (.slice (.pair (.int .i64) (.pair (.int .i64) (.pair (.int .i64) (.pair (.int .i64) (.pair (.int .i64) (.pair (.int .i64) (.pair .bool (.pair (.int .i64) .unit))))))))) (.pair (.slice (.pair (.int .i64) (.pair (.int .i64) (.pair (.int .i64) (.pair (.int .i64) (.pair (.int .i64) (.pair (.slice (.int .i64)) (.pair (.int .i64) .unit)))))))) (.pair (.int .i64) (.pair .bool .unit)))),(.pair (.int .i64) (.pair (.int .u32) .unit))]
abbrev R_24:List Ty:=[(.pair (.pair (.slice (.int .u32)) (.pair (.slice (.int .i64)) (.pair (.int .i64) .unit))) (.pair (.int .i64) (.pair (.int .i64) .unit))),(.pair (.int .i64) (.pair (.int .u32) .unit)),(.int .i64)]
noncomputable def sm_24:Nat->Option Summ:=smL [(64,s_64),(65,s_65),(66,s_66),(67,s_67)]
noncomputable def T_24_0:PS:=⟨74,[(3,.kc (.ptr 0 [])),(4,.kc (.ptr 1 [])),(5,.kc (.ptr 2 [])),(6,.kc (.ptr 3 [])),(7,.kc (.ptr 6 [])),(9,.kc (.whole 7)),(10,.hv (.int .i64))],[.mem (.hv Zy24_4),.mem (.hv Zy24_2),.mem (.hv Zy24_5),.mem (.pr (.pr (.kc (.whole 4)) (.pr (.kc (.whole 5)) (.hv (.pair (.int .i64) .unit)))) (.hv (.pair (.int .i64) (.pair (.int .i64) .unit)))),.vec 51 (.int .u32),.vec 3 (.int .i64),.mem (.hv Zy24_5),.vec 3 (.int .i64)],0⟩
inductive Sp.E_24_0 where
 |e0 (p1:Zt24_1) (p2:Zt24_0) (p3:Zt24_3) (p4:Int×Unit) (p5:Zt24_3) (p6 p7:List Int) (p8:Zt24_3) (p9:List Int)
noncomputable def Sp.B_24_0{R:Type}(r:Option E_24_0)(k0:Zt24_1->Zt24_0->Zt24_3->(Int×Unit)->Zt24_3->List Int->List Int->Zt24_3->List Int->Option R):Option R:=match r with
 |none=>none
 |some (.e0 p1 p2 p3 p4 p5 p6 p7 p8 p9)=>k0 p1 p2 p3 p4 p5 p6 p7 p8 p9
noncomputable def Y_24_0{R:Type}(k:Ex->St->Option R):E_24_0->Option R
 | .e0 p1 p2 p3 p4 p5 p6 p7 p8 p9=>k (Ex.exit 0) (sx 74 [(3,CV.ptr 0 []),(4,CV.ptr 1 []),(5,CV.ptr 2 []),(6,CV.ptr 3 []),(7,CV.ptr 6 []),(9,CV.whole 7)] [Blk.mem (CV.pure (Ty.pair (Ty.pair (Ty.slice (Ty.int u32)) (Ty.pair (Ty.slice (Ty.int i64)) (Ty.pair (Ty.int i64) Ty.unit))) (Ty.pair (Ty.int i64) (Ty.pair (Ty.int i64) Ty.unit))) p1),Blk.mem (CV.pure (Ty.pair (Ty.slice (Ty.pair (Ty.int i64) (Ty.pair (Ty.int i64) (Ty.pair (Ty.int i64) (Ty.pair (Ty.int i64) (Ty.pair (Ty.int i64) (Ty.pair (Ty.int i64) (Ty.pair Ty.bool (Ty.pair (Ty.int i64) Ty.unit))))))))) (Ty.pair (Ty.slice (Ty.pair (Ty.int i64) (Ty.pair (Ty.int i64) (Ty.pair (Ty.int i64) (Ty.pair (Ty.int i64) (Ty.pair (Ty.int i64) (Ty.pair (Ty.slice (Ty.int i64)) (Ty.pair (Ty.int i64) Ty.unit)))))))) (Ty.pair (Ty.int i64) (Ty.pair Ty.bool Ty.unit)))) p2),Blk.mem (CV.pure (Ty.pair (Ty.int i64) (Ty.pair (Ty.int u32) Ty.unit)) p3),Blk.mem (CV.pair (CV.pair (CV.whole 4) (CV.pair (CV.whole 5) (CV.pure (Ty.pair (Ty.int i64) Ty.unit) p4))) (CV.pure (Ty.pair (Ty.int i64) (Ty.pair (Ty.int i64) Ty.unit)) p5)),Blk.vec 51 (Ty.int u32) p6,Blk.vec 3 (Ty.int i64) p7,Blk.mem (CV.pure (Ty.pair (Ty.int i64) (Ty.pair (Ty.int u32) Ty.unit)) p8),Blk.vec 3 (Ty.int i64) p9])
noncomputable def Sp.S_24_0{R:Type}(K:Int->((List Int×List Int×Int×Unit)×Int×Int×Unit)->(List (Int×Int×Int×Int×Int×Int×Bool×Int×Unit)×List (Int×Int×Int×Int×Int×List Int×Int×Unit)×Int×Bool×Unit)->(Int×Int×Unit)->(Int×Unit)->(Int×Int×Unit)->List Int->List Int->(Int×Int×Unit)->List Int->Option R)(k:E_24_0->Option R)(p0:Int)(p1:(List Int×List Int×Int×Unit)×Int×Int×Unit)(p2:List (Int×Int×Int×Int×Int×Int×Bool×Int×Unit)×List (Int×Int×Int×Int×Int×List Int×Int×Unit)×Int×Bool×Unit)(p3:Int×Int×Unit)(p4:Int×Unit)(p5:Int×Int×Unit)(p6 p7:List Int)(p8:Int×Int×Unit)(p9:List Int):Option R:=
 bif decide (p0<(↑(length (p2.2.1)):Int))then gd (room (length p9+1) 8) (K (wrap i64 (p0+1)) p1 p2 p3 p4 p5 p6 p7 p8 (p9++[p0]))else k (E_24_0.e0 p1 p2 p3 p4 p5 p6 p7 p8 p9)
noncomputable def Sp.L_24_0:Nat->Int->((List Int×List Int×Int×Unit)×Int×Int×Unit)->(List (Int×Int×Int×Int×Int×Int×Bool×Int×Unit)×List (Int×Int×Int×Int×Int×List Int×Int×Unit)×Int×Bool×Unit)->(Int×Int×Unit)->(Int×Unit)->(Int×Int×Unit)->List Int->List Int->(Int×Int×Unit)->List Int->Option E_24_0
 |0,_,_,_,_,_,_,_,_,_,_=>none
 |m+1,p0,p1,p2,p3,p4,p5,p6,p7,p8,p9=>S_24_0 (L_24_0 m) some p0 p1 p2 p3 p4 p5 p6 p7 p8 p9
noncomputable def l_24_0(m:Nat)(a:T_24_0.E):Option E_24_0:=L_24_0 m a.1 a.2.1 a.2.2.1 a.2.2.2.1 a.2.2.2.2.1 a.2.2.2.2.2.1 a.2.2.2.2.2.2.1 a.2.2.2.2.2.2.2.1 a.2.2.2.2.2.2.2.2.1 a.2.2.2.2.2.2.2.2.2.1
noncomputable def O_24_0{R:Type}:Orc R:=orL T_24_0 (l_24_0 FU) Y_24_0
theorem OK_24_0{R:Type}:okF (R:=R) sm_24 0 (nf 24 0) O_24_0:=lp0 T_24_0 l_24_0 (fun R K k a=>S_24_0 (fun p0 p1 p2 p3 p4 p5 p6 p7 p8 p9=>K (p0,p1,p2,p3,p4,p5,p6,p7,p8,p9,())) k a.1 a.2.1 a.2.2.1 a.2.2.2.1 a.2.2.2.2.1 a.2.2.2.2.2.1 a.2.2.2.2.2.2.1 a.2.2.2.2.2.2.2.1 a.2.2.2.2.2.2.2.2.1 a.2.2.2.2.2.2.2.2.2.1) Y_24_0 (fun _ _ _=>by kernel_rfl) (fun _ _ _=>by
 unfold S_24_0
 repeat' first|apply gdN|apply condN|rfl) (ok0 _)
noncomputable def T_24_1:PS:=⟨74,[(3,.kc (.ptr 0 [])),(4,.kc (.ptr 1 [])),(5,.kc (.ptr 2 [])),(6,.kc (.ptr 3 [])),(7,.kc (.ptr 6 [])),(9,.kc (.whole 7)),(11,.hv (.int .i64))],[.mem (.hv Zy24_4),.mem (.hv Zy24_2),.mem (.hv Zy24_5),.mem (.pr (.pr (.kc (.whole 4)) (.pr (.kc (.whole 5)) (.hv (.pair (.int .i64) .unit)))) (.hv (.pair (.int .i64) (.pair (.int .i64) .unit)))),.vec 51 (.int .u32),.vec 3 (.int .i64),.mem (.hv Zy24_5),.vec 3 (.int .i64)],0⟩
inductive Sp.E_24_1 where
 |e0 (p0:Int) (p1:Zt24_1) (p2:Zt24_0) (p9:List Int)
 |e1 (p0:Int) (p1:Zt24_1) (p2:Zt24_0) (p3:Zt24_3) (p9:List Int)
 |e2 (p1:Zt24_1) (p3:Zt24_3) (p4:Int×Unit) (p5:Zt24_3) (p6 p7:List Int) (p8:Zt24_3)
noncomputable def Sp.B_24_1{R:Type}(r:Option E_24_1)(k0:Int->Zt24_1->Zt24_0->List Int->Option R)(k1:Int->Zt24_1->Zt24_0->Zt24_3->List Int->Option R)(k2:Zt24_1->Zt24_3->(Int×Unit)->Zt24_3->List Int->List Int->Zt24_3->Option R):Option R:=match r with
 |none=>none
 |some (.e0 p0 p1 p2 p9)=>k0 p0 p1 p2 p9
 |some (.e1 p0 p1 p2 p3 p9)=>k1 p0 p1 p2 p3 p9
 |some (.e2 p1 p3 p4 p5 p6 p7 p8)=>k2 p1 p3 p4 p5 p6 p7 p8
noncomputable def Y_24_1{R:Type}(k:Ex->St->Option R):E_24_1->Option R
 | .e0 p0 p1 p2 p9=>k Ex.ret (sx 74 [(6,CV.ptr 0 []),(7,CV.ptr 3 []),(8,CV.int i64 ((v_65 p1 (getD p9 (toNat p0) 0) ((v_66 p2 (getD p9 (toNat p0) 0)).1)).2.1))] [Blk.mem (CV.pair (CV.pair (CV.whole 1) (CV.pair (CV.whole 2) (CV.pure (Ty.pair (Ty.int i64) Ty.unit) ((0,PUnit.unit):(Int×Unit))))) (CV.pure (Ty.pair (Ty.int i64) (Ty.pair (Ty.int i64) Ty.unit)) ((0,0,PUnit.unit):(Int×(Int×Unit))))),Blk.vec 51 (Ty.int u32) [],Blk.vec 3 (Ty.int i64) [],Blk.mem (CV.pure (Ty.pair (Ty.int i64) (Ty.pair (Ty.int u32) Ty.unit)) ((0,0,PUnit.unit):(Int×(Int×Unit))))])
 | .e1 p0 p1 p2 p3 p9=>k Ex.ret (sx 74 [(6,CV.ptr 0 []),(7,CV.ptr 1 []),(8,CV.int i64 ((v_67 p1 ((v_65 p1 (getD p9 (toNat p0) 0) ((v_66 p2 (getD p9 (toNat p0) 0)).1)).1) p3).2.2.1))] [Blk.mem (CV.pure (Ty.pair (Ty.pair (Ty.slice (Ty.int u32)) (Ty.pair (Ty.slice (Ty.int i64)) (Ty.pair (Ty.int i64) Ty.unit))) (Ty.pair (Ty.int i64) (Ty.pair (Ty.int i64) Ty.unit))) (((v_67 p1 ((v_65 p1 (getD p9 (toNat p0) 0) ((v_66 p2 (getD p9 (toNat p0) 0)).1)).1) p3).1):(((List Int)×((List Int)×(Int×Unit)))×(Int×(Int×Unit))))),Blk.mem (CV.pure (Ty.pair (Ty.int i64) (Ty.pair (Ty.int u32) Ty.unit)) (((v_67 p1 ((v_65 p1 (getD p9 (toNat p0) 0) ((v_66 p2 (getD p9 (toNat p0) 0)).1)).1) p3).2.1):(Int×(Int×Unit))))])
 | .e2 p1 p3 p4 p5 p6 p7 p8=>k (Ex.exit 2) (sx 74 [(3,CV.ptr 0 []),(5,CV.ptr 1 []),(6,CV.ptr 2 []),(7,CV.ptr 5 [])] [Blk.mem (CV.pure (Ty.pair (Ty.pair (Ty.slice (Ty.int u32)) (Ty.pair (Ty.slice (Ty.int i64)) (Ty.pair (Ty.int i64) Ty.unit))) (Ty.pair (Ty.int i64) (Ty.pair (Ty.int i64) Ty.unit))) p1),Blk.mem (CV.pure (Ty.pair (Ty.int i64) (Ty.pair (Ty.int u32) Ty.unit)) p3),Blk.mem (CV.pair (CV.pair (CV.whole 3) (CV.pair (CV.whole 4) (CV.pure (Ty.pair (Ty.int i64) Ty.unit) p4))) (CV.pure (Ty.pair (Ty.int i64) (Ty.pair (Ty.int i64) Ty.unit)) p5)),Blk.vec 51 (Ty.int u32) p6,Blk.vec 3 (Ty.int i64) p7,Blk.mem (CV.pure (Ty.pair (Ty.int i64) (Ty.pair (Ty.int u32) Ty.unit)) p8)])
noncomputable def Sp.S_24_1{R:Type}(K:Int->((List Int×List Int×Int×Unit)×Int×Int×Unit)->(List (Int×Int×Int×Int×Int×Int×Bool×Int×Unit)×List (Int×Int×Int×Int×Int×List Int×Int×Unit)×Int×Bool×Unit)->(Int×Int×Unit)->(Int×Unit)->(Int×Int×Unit)->List Int->List Int->(Int×Int×Unit)->List Int->Option R)(k:E_24_1->Option R)(p0:Int)(p1:(List Int×List Int×Int×Unit)×Int×Int×Unit)(p2:List (Int×Int×Int×Int×Int×Int×Bool×Int×Unit)×List (Int×Int×Int×Int×Int×List Int×Int×Unit)×Int×Bool×Unit)(p3:Int×Int×Unit)(p4:Int×Unit)(p5:Int×Int×Unit)(p6 p7:List Int)(p8:Int×Int×Unit)(p9:List Int):Option R:=
 bif decide (p0<(↑(length p9):Int))then gd (inB p0 (length p9)) (gd (decide (toNat p0<length p9)&&true) (gd (p_64 p1 p2 (getD p9 (toNat p0) 0)) (bif(v_64 p1 p2 (getD p9 (toNat p0) 0)).1 then K (wrap i64 (p0+1)) p1 p2 p3 p4 p5 p6 p7 p8 p9 else gd (inB p0 (length p9)) (gd (decide (toNat p0<length p9)&&true) (gd (inB p0 (length p9)) (gd (decide (toNat p0<length p9)&&true) (gd (p_66 p2 (getD p9 (toNat p0) 0)) (gd (p_65 p1 (getD p9 (toNat p0) 0) ((v_66 p2 (getD p9 (toNat p0) 0)).1)) (bif(v_65 p1 (getD p9 (toNat p0) 0) ((v_66 p2 (getD p9 (toNat p0) 0)).1)).2.1 !=0 then k (E_24_1.e0 p0 p1 p2 p9)else gd (p_67 p1 ((v_65 p1 (getD p9 (toNat p0) 0) ((v_66 p2 (getD p9 (toNat p0) 0)).1)).1) p3) (bif(v_67 p1 ((v_65 p1 (getD p9 (toNat p0) 0) ((v_66 p2 (getD p9 (toNat p0) 0)).1)).1) p3).2.2.1 !=0 then k (E_24_1.e1 p0 p1 p2 p3 p9)else K (wrap i64 (p0+1)) ((v_67 p1 ((v_65 p1 (getD p9 (toNat p0) 0) ((v_66 p2 (getD p9 (toNat p0) 0)).1)).1) p3).1) p2 ((v_67 p1 ((v_65 p1 (getD p9 (toNat p0) 0) ((v_66 p2 (getD p9 (toNat p0) 0)).1)).1) p3).2.1) p4 p5 p6 p7 p8 p9))))))))))else k (E_24_1.e2 p1 p3 p4 p5 p6 p7 p8)
noncomputable def Sp.L_24_1:Nat->Int->((List Int×List Int×Int×Unit)×Int×Int×Unit)->(List (Int×Int×Int×Int×Int×Int×Bool×Int×Unit)×List (Int×Int×Int×Int×Int×List Int×Int×Unit)×Int×Bool×Unit)->(Int×Int×Unit)->(Int×Unit)->(Int×Int×Unit)->List Int->List Int->(Int×Int×Unit)->List Int->Option E_24_1
 |0,_,_,_,_,_,_,_,_,_,_=>none
 |m+1,p0,p1,p2,p3,p4,p5,p6,p7,p8,p9=>S_24_1 (L_24_1 m) some p0 p1 p2 p3 p4 p5 p6 p7 p8 p9
noncomputable def l_24_1(m:Nat)(a:T_24_1.E):Option E_24_1:=L_24_1 m a.1 a.2.1 a.2.2.1 a.2.2.2.1 a.2.2.2.2.1 a.2.2.2.2.2.1 a.2.2.2.2.2.2.1 a.2.2.2.2.2.2.2.1 a.2.2.2.2.2.2.2.2.1 a.2.2.2.2.2.2.2.2.2.1
noncomputable def O_24_1{R:Type}:Orc R:=orL T_24_1 (l_24_1 FU) Y_24_1
theorem OK_24_1{R:Type}:okF (R:=R) sm_24 0 (nf 24 1) O_24_1:=lp0 T_24_1 l_24_1 (fun R K k a=>S_24_1 (fun p0 p1 p2 p3 p4 p5 p6 p7 p8 p9=>K (p0,p1,p2,p3,p4,p5,p6,p7,p8,p9,())) k a.1 a.2.1 a.2.2.1 a.2.2.2.1 a.2.2.2.2.1 a.2.2.2.2.2.1 a.2.2.2.2.2.2.1 a.2.2.2.2.2.2.2.1 a.2.2.2.2.2.2.2.2.1 a.2.2.2.2.2.2.2.2.2.1) Y_24_1 (fun _ _ _=>by kernel_rfl) (fun _ _ _=>by
 unfold S_24_1
 repeat' first|apply gdN|apply condN|rfl) (ok0 _)
noncomputable def F_24(a0:(((List Int)×((List Int)×(Int×Unit)))×(Int×(Int×Unit))))(a1:((List (Int×(Int×(Int×(Int×(Int×(Int×(Bool×(Int×Unit)))))))))×((List (Int×(Int×(Int×(Int×(Int×((List Int)×(Int×Unit))))))))×(Int×(Bool×Unit)))))(a2:(Int×(Int×Unit))):Option ((((List Int)×((List Int)×(Int×Unit)))×(Int×(Int×Unit)))×(Int×(Int×Unit))×Int×Unit) :=
 B_24_0 (L_24_0 4611686018427387904 0 a0 a1 a2 (0,PUnit.unit) (0,0,PUnit.unit) [] [] (0,0,PUnit.unit) [254]) fun y25 y26 y27 y28 y29 y30 y31 y32 y33=>B_24_1 (L_24_1 4611686018427387904 0 y25 y26 y27 y28 y29 y30 y31 y32 y33) (fun y34 y35 y36 y37=>some ((([],[],0,PUnit.unit),0,0,PUnit.unit),(0,0,PUnit.unit),(v_65 y35 (getD y37 (toNat y34) 0) ((v_66 y36 (getD y37 (toNat y34) 0)).1)).2.1,PUnit.unit)) (fun y38 y39 y40 y41 y42=>some ((v_67 y39 ((v_65 y39 (getD y42 (toNat y38) 0) ((v_66 y40 (getD y42 (toNat y38) 0)).1)).1) y41).1,(v_67 y39 ((v_65 y39 (getD y42 (toNat y38) 0) ((v_66 y40 (getD y42 (toNat y38) 0)).1)).1) y41).2.1,(v_67 y39 ((v_65 y39 (getD y42 (toNat y38) 0) ((v_66 y40 (getD y42 (toNat y38) 0)).1)).1) y41).2.2.1,PUnit.unit)) fun y43 y44 y45 y46 y47 y48 y49=>some (y43,y44,0,PUnit.unit)
noncomputable def Sp.p_24(a0:(((List Int)×((List Int)×(Int×Unit)))×(Int×(Int×Unit))))(a1:((List (Int×(Int×(Int×(Int×(Int×(Int×(Bool×(Int×Unit)))))))))×((List (Int×(Int×(Int×(Int×(Int×((List Int)×(Int×Unit))))))))×(Int×(Bool×Unit)))))(a2:(Int×(Int×Unit))):Bool:=(F_24 a0 a1 a2).isSome
noncomputable def Sp.v_24(a0:(((List Int)×((List Int)×(Int×Unit)))×(Int×(Int×Unit))))(a1:((List (Int×(Int×(Int×(Int×(Int×(Int×(Bool×(Int×Unit)))))))))×((List (Int×(Int×(Int×(Int×(Int×((List Int)×(Int×Unit))))))))×(Int×(Bool×Unit)))))(a2:(Int×(Int×Unit))):(((List Int)×((List Int)×(Int×Unit)))×(Int×(Int×Unit)))×(Int×(Int×Unit))×Int×Unit:=(F_24 a0 a1 a2).getD (dfH R_24)
noncomputable def s_24:Summ:=shS A_24 R_24 (fun x=>p_24 x.1 x.2.1 x.2.2.1) (fun x=>v_24 x.1 x.2.1 x.2.2.1)
theorem pv_24(a0:(((List Int)×((List Int)×(Int×Unit)))×(Int×(Int×Unit))))(a1:((List (Int×(Int×(Int×(Int×(Int×(Int×(Bool×(Int×Unit)))))))))×((List (Int×(Int×(Int×(Int×(Int×((List Int)×(Int×Unit))))))))×(Int×(Bool×Unit)))))(a2:(Int×(Int×Unit))){y:(((List Int)×((List Int)×(Int×Unit)))×(Int×(Int×Unit)))×(Int×(Int×Unit))×Int×Unit}(h:F_24 a0 a1 a2=some y):p_24 a0 a1 a2=true/\v_24 a0 a1 a2=y:=pvG h
theorem run_24(x:HDen A_24)(y:HDen R_24)(h:F_24 x.1 x.2.1 x.2.2.1=some y):rnF sm_24 1 24 A_24 R_24 x y:=runG noO_ok (os:=[O_24_0,O_24_1]) ⟨OK_24_0,OK_24_1,trivial⟩ (Eq.trans (by kernel_rfl) h)
end
noncomputable section
abbrev A_4:List Ty:=[(.pair (.pair (.slice (.int .u32)) (.pair (.slice (.int .i64)) (.pair (.int .i64) .unit))) (.pair (.int .i64) (.pair (.int .i64) .unit))),(.pair (.slice (.pair (.int .i64) (.pair (.int .i64) (.pair (.int .i64) (.pair (.int .i64) (.pair (.int .i64) (.pair (.int .i64) (.pair .bool (.pair (.int .i64) .unit))))))))) (.pair (.slice (.pair (.int .i64) (.pair (.int .i64) (.pair (.int .i64) (.pair (.int .i64) (.pair (.int .i64) (.pair (.slice (.int .i64)) (.pair (.int .i64) .unit)))))))) (.pair (.int .i64) (.pair .bool .unit)))),(.pair (.int .i64) (.pair (.int .u32) .unit))]
abbrev R_4:List Ty:=[.bool]
noncomputable def sm_4:Nat->Option Summ:=smL [(7,s_7),(8,s_8),(21,s_21),(22,s_22),(23,s_23),(24,s_24)]
noncomputable def F_4(a0:(((List Int)×((List Int)×(Int×Unit)))×(Int×(Int×Unit))))(a1:((List (Int×(Int×(Int×(Int×(Int×(Int×(Bool×(Int×Unit)))))))))×((List (Int×(Int×(Int×(Int×(Int×((List Int)×(Int×Unit))))))))×(Int×(Bool×Unit)))))(a2:(Int×(Int×Unit))):Option (Bool) :=
 gd p_7 (bif !v_7.1 then gd p_7 (some (v_7.1))else gd (p_8 a0 a1) (bif !(v_8 a0 a1).1 then gd p_7 (some (v_7.1))else gd (p_21 a0 a1 a2) (gd (p_22 a0 a1 a2) (bif !(v_22 a0 a1 a2).1 then gd (p_23 ((v_21 a0 a1 a2).1) (([],[],0,PUnit.unit),0,0,PUnit.unit)) (bif(v_23 ((v_21 a0 a1 a2).1) (([],[],0,PUnit.unit),0,0,PUnit.unit)).1 then bif Ty.beq (Ty.pair (Ty.int i64) (Ty.pair (Ty.int u32) Ty.unit)) ((v_21 a0 a1 a2).2.1) (0,0,PUnit.unit)then some ((v_21 a0 a1 a2).2.2.1==1)else some false else some false)else gd (p_24 a0 a1 a2) (gd (p_23 ((v_21 a0 a1 a2).1) ((v_24 a0 a1 a2).1)) (bif(v_23 ((v_21 a0 a1 a2).1) ((v_24 a0 a1 a2).1)).1 then bif Ty.beq (Ty.pair (Ty.int i64) (Ty.pair (Ty.int u32) Ty.unit)) ((v_21 a0 a1 a2).2.1) ((v_24 a0 a1 a2).2.1)then some ((v_21 a0 a1 a2).2.2.1==(v_24 a0 a1 a2).2.2.1)else some false else some false))))))
theorem run_4(a0:(((List Int)×((List Int)×(Int×Unit)))×(Int×(Int×Unit))))(a1:((List (Int×(Int×(Int×(Int×(Int×(Int×(Bool×(Int×Unit)))))))))×((List (Int×(Int×(Int×(Int×(Int×((List Int)×(Int×Unit))))))))×(Int×(Bool×Unit)))))(a2:(Int×(Int×Unit))){b:Bool}(h:F_4 a0 a1 a2=some b):evFn sm_4 fns FU 1 4 (ofH A_4 (a0,a1,a2,())) [] bk=some b:=runG noO_ok (os:=[]) trivial (Eq.trans (by kernel_rfl) h)
end
end Go.Ev
namespace Go.Proofs
open Go.Shelf
noncomputable def Tryz.clone57_ren:Go.Shelf.Ren:=⟨fun|41=>57|n=>n,fun|22=>22|23=>51|4=>4|n=>n,fun|n=>n⟩
theorem Tryz.clone57:Go.Proofs.SlLaysE0.n41 Tryz.prog Tryz.clone57_ren:= {
 mixed:=by kernel_rfl
 f41:=⟨Tryz.f57.name,by decide,Tryz.func57.trans (congrArg some (by kernel_rfl))⟩
 t4:=Tryz.underlying4
 a4:=Tryz.isAgg4
 z4:=Tryz.sizeOf4
 v4:=Tryz.zeroValue4
 t22:=Tryz.underlying22
 a22:=Tryz.isAgg22
 z22:=Tryz.sizeOf22
 v22:=Tryz.zeroValue22}
noncomputable def Tryz.clone58_ren:Go.Shelf.Ren:=⟨fun|41=>58|n=>n,fun|22=>23|23=>3|4=>4|n=>n,fun|n=>n⟩
theorem Tryz.clone58:Go.Proofs.SlLaysE0.n41 Tryz.prog Tryz.clone58_ren:= {
 mixed:=by kernel_rfl
 f41:=⟨Tryz.f58.name,by decide,Tryz.func58.trans (congrArg some (by kernel_rfl))⟩
 t4:=Tryz.underlying4
 a4:=Tryz.isAgg4
 z4:=Tryz.sizeOf4
 v4:=Tryz.zeroValue4
 t22:=Tryz.underlying23
 a22:=Tryz.isAgg23
 z22:=Tryz.sizeOf23
 v22:=Tryz.zeroValue23}
end Go.Proofs
namespace Go.Ev
open Go Go.Proofs Go.RowKit
set_option maxRecDepth 100000
set_option maxHeartbeats 4000000
theorem info57:∃i,Tryz.prog.info? 51=some i/\i.zero=some (.int .u32 0)/\i.size=1/\i.bytes=4:=⟨_,rfl,by kernel_rfl,by kernel_rfl,by kernel_rfl⟩
theorem sok_57:SummOK Tryz.prog 57 (vecS (.int .u32) 51 4):=by
 obtain⟨i,hi,h0,h1,h2⟩:=info57
 exact clone_vec (by kernel_rfl) (by decide)
  (fun b off n c news w hl hn hb hc h3=>AnyE.slices_Clone Tryz.clone57 i _ 1 4 hi h0 h1 h2 (by kernel_rfl) (by decide) Tryz.sizeOf51 b off n c news w hl hn hb hc h3)
  (fun n c w=>AnyE.slices_Clone_nil Tryz.clone57 n c w)
  (fun a c w=>clone_zero Tryz.clone57 i _ 1 4 hi h0 h1 h2 (by kernel_rfl) (by decide) Tryz.sizeOf51 a c w)
theorem info58:∃i,Tryz.prog.info? 3=some i/\i.zero=some (.int .i64 0)/\i.size=1/\i.bytes=8:=⟨_,rfl,by kernel_rfl,by kernel_rfl,by kernel_rfl⟩
theorem sok_58:SummOK Tryz.prog 58 (vecS (.int .i64) 3 8):=by
 obtain⟨i,hi,h0,h1,h2⟩:=info58
 exact clone_vec (by kernel_rfl) (by decide)
  (fun b off n c news w hl hn hb hc h3=>AnyE.slices_Clone Tryz.clone58 i _ 1 8 hi h0 h1 h2 (by kernel_rfl) (by decide) Tryz.sizeOf3 b off n c news w hl hn hb hc h3)
  (fun n c w=>AnyE.slices_Clone_nil Tryz.clone58 n c w)
  (fun a c w=>clone_zero Tryz.clone58 i _ 1 8 hi h0 h1 h2 (by kernel_rfl) (by decide) Tryz.sizeOf3 a c w)
noncomputable def ins133_ren:Go.Shelf.Ren:=⟨fun|22=>133|29=>151|30=>152|n=>n,fun|9=>71|24=>66|n=>n,fun|n=>n⟩
theorem ins133_lay:InsL Tryz.prog ins133_ren (.agg #[.int .i64 0,.slice none 0 0]) 32:= {
 mixed:=by kernel_rfl
 f22:=⟨Tryz.f133.name,by decide,Tryz.func133.trans (congrArg some (by kernel_rfl))⟩
 f29:=⟨_,Tryz.func151,by decide,by kernel_rfl,by kernel_rfl,by kernel_rfl⟩
 t0:=Tryz.underlying0
 a0:=Tryz.isAgg0
 z0:=Tryz.sizeOf0
 v0:=Tryz.zeroValue0
 t3:=Tryz.underlying3
 a3:=Tryz.isAgg3
 z3:=Tryz.sizeOf3
 v3:=Tryz.zeroValue3
 t4:=Tryz.underlying4
 a4:=Tryz.isAgg4
 z4:=Tryz.sizeOf4
 v4:=Tryz.zeroValue4
 t24:=Tryz.underlying66
 a24:=Tryz.isAgg66
 z24:=Tryz.sizeOf66
 v24:=Tryz.zeroValue66
 z9:=Tryz.sizeOf71
 i9:=by kernel_rfl
 c9:=by kernel_rfl}
theorem sok_133:SummOK Tryz.prog 133 (insS (.pair (.int .i64) (.pair (.slice (.int .u32)) .unit)) 71 32):=ins_sum ins133_lay rfl rfl (by kernel_rfl) (by decide) (by decide)
theorem sok_72:SummOK Tryz.prog 72 s_72:=sokN hm0 run_72 trivial
theorem sok_75:SummOK Tryz.prog 75 s_75:=sokN hm0 run_75 trivial
theorem sok_34:SummOK Tryz.prog 34 s_34:=sokS hm0 run_34 ⟨sok_72,sok_75,trivial⟩
theorem sok_35:SummOK Tryz.prog 35 s_35:=sokN hm0 run_35 trivial
theorem sok_7:SummOK Tryz.prog 7 s_7:=sokN hm0 run_7 ⟨sok_34,sok_35,trivial⟩
theorem sok_9:SummOK Tryz.prog 9 s_9:=sokN hm0 run_9 trivial
theorem sok_8:SummOK Tryz.prog 8 s_8:=sokN hm0 run_8 ⟨sok_9,trivial⟩
theorem sok_96:SummOK Tryz.prog 96 s_96:=sokN hm0 run_96 trivial
theorem sok_129:SummOK Tryz.prog 129 s_129:=sokN hm0 run_129 trivial
theorem sok_110:SummOK Tryz.prog 110 s_110:=sokS hm0 run_110 ⟨sok_96,sok_129,trivial⟩
theorem sok_124:SummOK Tryz.prog 124 s_124:=sokN hm0 run_124 trivial
theorem sok_141:SummOK Tryz.prog 141 s_141:=sokN hm0 run_141 ⟨sok_124,trivial⟩
theorem sok_109:SummOK Tryz.prog 109 s_109:=sokN hm0 run_109 ⟨sok_110,sok_141,trivial⟩
theorem sok_69:SummOK Tryz.prog 69 s_69:=sokN hm0 run_69 ⟨sok_109,trivial⟩
theorem sok_78:SummOK Tryz.prog 78 s_78:=sokN hm0 run_78 trivial
theorem sok_79:SummOK Tryz.prog 79 s_79:=sokN hm0 run_79 trivial
theorem sok_38:SummOK Tryz.prog 38 s_38:=sokN hm0 run_38 ⟨sok_69,sok_78,sok_79,trivial⟩
theorem sok_43:SummOK Tryz.prog 43 s_43:=sokN hm0 run_43 trivial
theorem sok_84:SummOK Tryz.prog 84 s_84:=sokN hm0 run_84 trivial
theorem sok_145:SummOK Tryz.prog 145 s_145:=sokN hm0 run_145 ⟨sok_84,trivial⟩
theorem sok_118:SummOK Tryz.prog 118 s_118:=sokN hm0 run_118 ⟨sok_145,trivial⟩
theorem sok_119:SummOK Tryz.prog 119 s_119:=sokN hm0 run_119 trivial
theorem sok_120:SummOK Tryz.prog 120 s_120:=sokN hm0 run_120 trivial
theorem sok_85:SummOK Tryz.prog 85 s_85:=sokN hm0 run_85 ⟨sok_84,sok_118,sok_119,sok_120,trivial⟩
theorem sok_117:SummOK Tryz.prog 117 s_117:=sokN hm0 run_117 ⟨sok_84,trivial⟩
theorem sok_44:SummOK Tryz.prog 44 s_44:=sokN hm0 run_44 ⟨sok_82,sok_84,sok_85,sok_117,trivial⟩
theorem sok_98:SummOK Tryz.prog 98 s_98:=sokOO hm0 run_98 ⟨sok_57,sok_133,trivial⟩
theorem sok_125:SummOK Tryz.prog 125 s_125:=sokN hm0 run_125 trivial
theorem sok_70:SummOK Tryz.prog 70 s_70:=sokO hm0 run_70 ⟨sok_98,sok_110,sok_125,sok_141,trivial⟩
theorem sok_28:SummOK Tryz.prog 28 s_28:=sokS hm0 run_28 ⟨sok_38,sok_69,sok_70,trivial⟩
theorem sok_41:SummOK Tryz.prog 41 s_41:=sokS hm0 run_41 ⟨sok_28,trivial⟩
theorem sok_60:SummOK Tryz.prog 60 s_60:=sokN hm0 run_60 ⟨sok_35,sok_41,trivial⟩
theorem sok_92:SummOK Tryz.prog 92 s_92:=sokN hm0 run_92 trivial
theorem sok_93:SummOK Tryz.prog 93 s_93:=sokS hm0 run_93 ⟨sok_124,sok_125,trivial⟩
theorem sok_126:SummOK Tryz.prog 126 s_126:=sokS hm0 run_126 ⟨sok_57,sok_58,trivial⟩
theorem sok_146:SummOK Tryz.prog 146 s_146:=sokN hm0 run_146 ⟨sok_78,trivial⟩
theorem sok_127:SummOK Tryz.prog 127 s_127:=sokS hm0 run_127 ⟨sok_57,sok_58,sok_146,trivial⟩
theorem sok_128:SummOK Tryz.prog 128 s_128:=sokS hm0 run_128 ⟨sok_57,sok_58,sok_146,trivial⟩
theorem sok_94:SummOK Tryz.prog 94 s_94:=sokS hm0 run_94 ⟨sok_126,sok_127,sok_128,trivial⟩
theorem sok_95:SummOK Tryz.prog 95 s_95:=sokS hm0 run_95 trivial
theorem sok_130:SummOK Tryz.prog 130 s_130:=sokO hm0 run_130 trivial
theorem sok_97:SummOK Tryz.prog 97 s_97:=sokS hm0 run_97 ⟨sok_69,sok_93,sok_95,sok_96,sok_109,sok_124,sok_129,sok_130,trivial⟩
theorem sok_61:SummOK Tryz.prog 61 s_61:=sokS hm0 run_61 ⟨sok_38,sok_69,sok_70,sok_92,sok_93,sok_94,sok_95,sok_96,sok_97,sok_98,trivial⟩
theorem sok_21:SummOK Tryz.prog 21 s_21:=sokS hm0 run_21 ⟨sok_34,sok_38,sok_43,sok_44,sok_57,sok_58,sok_60,sok_61,trivial⟩
theorem sok_68:SummOK Tryz.prog 68 s_68:=sokN hm0 run_68 trivial
theorem sok_27:SummOK Tryz.prog 27 s_27:=sokN hm0 run_27 ⟨sok_68,trivial⟩
theorem sok_49:SummOK Tryz.prog 49 s_49:=sokN hm0 run_49 trivial
theorem sok_136:SummOK Tryz.prog 136 s_136:=sokN hm0 run_136 trivial
theorem sok_121:SummOK Tryz.prog 121 s_121:=sokN hm0 run_121 ⟨sok_136,trivial⟩
theorem sok_101:SummOK Tryz.prog 101 s_101:=sokN hm0 run_101 trivial
theorem sok_103:SummOK Tryz.prog 103 s_103:=sokN hm0 run_103 ⟨sok_101,trivial⟩
theorem sok_122:SummOK Tryz.prog 122 s_122:=sokN hm0 run_122 ⟨sok_103,trivial⟩
theorem sok_86:SummOK Tryz.prog 86 s_86:=sokN hm0 run_86 ⟨sok_121,sok_122,trivial⟩
theorem sok_50:SummOK Tryz.prog 50 s_50:=sokN hm0 run_50 ⟨sok_86,trivial⟩
theorem sok_13:SummOK Tryz.prog 13 s_13:=sokN hm0 run_13 ⟨sok_27,sok_49,sok_50,trivial⟩
theorem sok_55:SummOK Tryz.prog 55 s_55:=sokN hm0 run_55 trivial
theorem sok_48:SummOK Tryz.prog 48 s_48:=sokN hm0 run_48 ⟨sok_55,trivial⟩
theorem sok_12:SummOK Tryz.prog 12 s_12:=sokN hm0 run_12 ⟨sok_48,trivial⟩
theorem sok_89:SummOK Tryz.prog 89 s_89:=sokN hm0 run_89 ⟨sok_55,trivial⟩
theorem sok_90:SummOK Tryz.prog 90 s_90:=sokN hm0 run_90 trivial
theorem sok_54:SummOK Tryz.prog 54 s_54:=sokN hm0 run_54 ⟨sok_55,sok_89,sok_90,trivial⟩
theorem sok_16:SummOK Tryz.prog 16 s_16:=sokN hm0 run_16 ⟨sok_12,sok_54,sok_55,trivial⟩
theorem sok_62:SummOK Tryz.prog 62 s_62:=sokN hm0 run_62 trivial
theorem sok_22:SummOK Tryz.prog 22 s_22:=sokN hm0 run_22 ⟨sok_13,sok_16,sok_62,trivial⟩
theorem sok_63:SummOK Tryz.prog 63 s_63:=sokN hm0 run_63 trivial
theorem sok_23:SummOK Tryz.prog 23 s_23:=sokN hm0 run_23 ⟨sok_63,trivial⟩
theorem sok_105:SummOK Tryz.prog 105 s_105:=sokS hm0 run_105 trivial
theorem sok_134:SummOK Tryz.prog 134 s_134:=sokN hm0 run_134 trivial
theorem sok_135:SummOK Tryz.prog 135 s_135:=sokN hm0 run_135 trivial
theorem sok_99:SummOK Tryz.prog 99 s_99:=sokS hm0 run_99 ⟨sok_101,sok_103,sok_105,sok_121,sok_122,sok_134,sok_135,trivial⟩
theorem sok_87:SummOK Tryz.prog 87 s_87:=sokS hm0 run_87 ⟨sok_50,sok_99,trivial⟩
theorem sok_51:SummOK Tryz.prog 51 s_51:=sokS hm0 run_51 ⟨sok_87,trivial⟩
theorem sok_53:SummOK Tryz.prog 53 s_53:=sokN hm0 run_53 trivial
theorem sok_106:SummOK Tryz.prog 106 s_106:=sokS hm0 run_106 trivial
theorem sok_66:SummOK Tryz.prog 66 s_66:=sokS hm0 run_66 ⟨sok_53,sok_106,trivial⟩
theorem sok_64:SummOK Tryz.prog 64 s_64:=sokN hm0 run_64 ⟨sok_51,sok_63,sok_66,trivial⟩
theorem sok_100:SummOK Tryz.prog 100 s_100:=sokS hm0 run_100 ⟨sok_135,sok_136,trivial⟩
theorem sok_102:SummOK Tryz.prog 102 s_102:=sokS hm0 run_102 trivial
theorem sok_137:SummOK Tryz.prog 137 s_137:=sokN hm0 run_137 trivial
theorem sok_138:SummOK Tryz.prog 138 s_138:=sokO hm0 run_138 trivial
theorem sok_104:SummOK Tryz.prog 104 s_104:=sokS hm0 run_104 ⟨sok_50,sok_86,sok_100,sok_101,sok_102,sok_103,sok_136,sok_137,sok_138,trivial⟩
theorem sok_65:SummOK Tryz.prog 65 s_65:=sokS hm0 run_65 ⟨sok_50,sok_99,sok_100,sok_101,sok_102,sok_103,sok_104,sok_105,trivial⟩
theorem sok_153:SummOK Tryz.prog 153 s_153:=sokN hm0 run_153 trivial
theorem sok_139:SummOK Tryz.prog 139 s_139:=sokS hm0 run_139 ⟨sok_27,sok_62,sok_153,trivial⟩
theorem sok_107:SummOK Tryz.prog 107 s_107:=sokS hm0 run_107 ⟨sok_139,trivial⟩
theorem sok_140:SummOK Tryz.prog 140 s_140:=sokS hm0 run_140 ⟨sok_27,sok_62,sok_153,trivial⟩
theorem sok_108:SummOK Tryz.prog 108 s_108:=sokS hm0 run_108 ⟨sok_140,trivial⟩
theorem sok_67:SummOK Tryz.prog 67 s_67:=sokS hm0 run_67 ⟨sok_107,sok_108,trivial⟩
theorem sok_24:SummOK Tryz.prog 24 s_24:=sokS hm0 run_24 ⟨sok_64,sok_65,sok_66,sok_67,trivial⟩
theorem call_4{R:Type}(n base:Nat):CallOK Tryz.prog base (rokOf Tryz.prog smB fns) (evFn (R:=R) sm_4 fns FU n):=callG hm0 (l:=[(7,s_7),(8,s_8),(21,s_21),(22,s_22),(23,s_23),(24,s_24)]) ⟨sok_7,sok_8,sok_21,sok_22,sok_23,sok_24,trivial⟩ n base
end Go.Ev
