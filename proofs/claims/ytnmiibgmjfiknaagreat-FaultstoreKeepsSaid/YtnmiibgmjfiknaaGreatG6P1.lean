/- Helpers: functions of the program as Lean functions, and what they compute. No condition. -/
import Derived.Test.YtnmiibgmjfiknaaGreatProg
import Derived.WalkKit
import Derived.Test.YtnmiibgmjfiknaaGreatE6P3
import Derived.Test.YtnmiibgmjfiknaaGreatE6P2
set_option maxRecDepth 10000
set_option linter.unusedVariables false
set_option linter.unusedSimpArgs false
open Go.IntKind (wrap i64 i32 i16 i8 u64 u32 u16 u8)
open List (getD length take drop replicate)
open Int (toNat)
open Go.Ev.Sp
namespace Go.Ev
open Go Go.Proofs Go.RowKit
abbrev Zd0:=(Ty.dflt (.pair (.int .i64) (.pair (.int .i64) (.pair (.int .i64) (.pair (.int .i64) (.pair (.int .i64) (.pair (.slice (.int .i64)) (.pair (.int .i64) .unit))))))))
abbrev Zd1:=(Ty.dflt (.pair (.int .i64) (.pair (.int .i64) (.pair (.int .i64) (.pair (.int .i64) (.pair (.int .i64) (.pair (.int .i64) (.pair .bool (.pair (.int .i64) .unit)))))))))
abbrev Zd2:=(Ty.dflt (.pair (.int .i64) (.pair (.slice (.int .u32)) .unit)))
abbrev Zd3:=(Ty.dflt (.pair .bool (.pair (.int .i64) (.pair (.int .u32) .unit))))
set_option maxRecDepth 100000
noncomputable section
noncomputable def smB:Nat->Bool:=fun f=>[7,8,9,10,11,12,13,14,15,16,17,18,19,20,21,22,23,24,25,26,27,28,31,33,34,35,37,38,39,40,41,42,43,44,45,46,47,48,49,50,51,52,53,54,55,56,57,58,60,61,62,63,64,65,66,67,68,69,70,72,74,75,78,79,81,82,83,84,85,86,87,88,89,90,92,93,94,95,96,97,98,99,100,101,102,103,104,105,106,107,108,109,110,113,117,118,119,120,121,122,123,124,125,126,127,128,129,130,132,133,134,135,136,137,138,139,140,141,144,145,146,152,153,155].contains f
noncomputable def wF:Nat->Nat:=fun f=>0
noncomputable def cF:Nat->Bool:=fun f=>false
noncomputable def dF:Nat->Bool:=fun f=>[3].contains f
noncomputable def fns:Nat->Option IFn:=fnsP Tryz.prog smB wF cF dF
theorem hm0:Tryz.prog.follows .mixedOrders=true:=by kernel_rfl
abbrev s_31:Summ:=vecS (.pair (.int .i64) (.pair (.slice (.int .u32)) .unit)) 71 32
abbrev s_57:Summ:=vecS (.int .u32) 51 4
abbrev s_58:Summ:=vecS (.int .i64) 3 8
abbrev s_82:Summ:=codesS
abbrev s_83:Summ:=vecS (.pair (.int .i64) (.pair (.int .i64) (.pair (.int .i64) (.pair (.int .i64) (.pair (.int .i64) (.pair (.int .i64) (.pair .bool (.pair (.int .i64) .unit)))))))) 63 64
abbrev s_133:Summ:=insS (.pair (.int .i64) (.pair (.slice (.int .u32)) .unit)) 71 32
abbrev okF{R:Type}(sm:Nat->Option Summ)(d:Nat)(c:IC)(o:Orc R):Prop:=okN sm FU (evFn sm fns FU d) c o
abbrev nf(f i:Nat):IC:=nd (fB fns f) i
abbrev nr(f i:Nat):IC:=nd (fR fns f).2.2 i
abbrev ni(c:IC)(i:Nat):IC:=nd (inner c) i
abbrev rnF(sm:Nat->Option Summ)(n f:Nat)(A R:List Ty)(x:HDen A)(y:HDen R):Prop:=evFn sm fns FU n f (ofH A x) [] (pureK R)=some y
end
set_option maxHeartbeats 4000000
set_option linter.unusedVariables false
noncomputable section
abbrev A_72:List Ty:=[(.int .i64),(.int .i64)]
abbrev R_72:List Ty:=[.bool]
noncomputable def sm_72:Nat->Option Summ:=smL []
noncomputable def F_72(a0 a1:Int):Option (Bool×Unit) :=
 bif decide (a0>=0)then some (decide (a0<=a1),PUnit.unit)else some (false,PUnit.unit)
noncomputable def Sp.p_72(a0 a1:Int):Bool:=(F_72 a0 a1).isSome
noncomputable def Sp.v_72(a0 a1:Int):Bool×Unit:=(F_72 a0 a1).getD (dfH R_72)
noncomputable def s_72:Summ:=shN A_72 R_72 (fun x=>p_72 x.1 x.2.1) (fun x=>v_72 x.1 x.2.1)
theorem pv_72(a0 a1:Int){y:Bool×Unit}(h:F_72 a0 a1=some y):p_72 a0 a1=true/\v_72 a0 a1=y:=pvG h
theorem run_72(x:HDen A_72)(y:HDen R_72)(h:F_72 x.1 x.2.1=some y):rnF sm_72 1 72 A_72 R_72 x y:=runG noO_ok (os:=[]) trivial (Eq.trans (by kernel_rfl) h)
end
noncomputable section
abbrev A_75:List Ty:=[(.int .i64)]
abbrev R_75:List Ty:=[.bool]
noncomputable def sm_75:Nat->Option Summ:=smL []
noncomputable def F_75(a0:Int):Option (Bool×Unit) :=
 bif decide (a0>=(-1099511627776:Int))then some (decide (a0<=1099511627776),PUnit.unit)else some (false,PUnit.unit)
noncomputable def Sp.p_75(a0:Int):Bool:=(F_75 a0).isSome
noncomputable def Sp.v_75(a0:Int):Bool×Unit:=(F_75 a0).getD (dfH R_75)
noncomputable def s_75:Summ:=shN A_75 R_75 (fun x=>p_75 x.1) (fun x=>v_75 x.1)
theorem pv_75(a0:Int){y:Bool×Unit}(h:F_75 a0=some y):p_75 a0=true/\v_75 a0=y:=pvG h
theorem run_75(x:HDen A_75)(y:HDen R_75)(h:F_75 x.1=some y):rnF sm_75 1 75 A_75 R_75 x y:=runG noO_ok (os:=[]) trivial (Eq.trans (by kernel_rfl) h)
end
noncomputable section
abbrev Zt34_0:Type:=Int×Int×Int×Int×Int×List Int×Int×Unit
abbrev A_34:List Ty:=[(.pair (.int .i64) (.pair (.int .i64) (.pair (.int .i64) (.pair (.int .i64) (.pair (.int .i64) (.pair (.slice (.int .i64)) (.pair (.int .i64) .unit)))))))]
abbrev R_34:List Ty:=[(.slice (.int .u32)),(.int .i64)]
noncomputable def sm_34:Nat->Option Summ:=smL [(72,s_72),(75,s_75)]
noncomputable def T_34_114_0_0:PS:=⟨19,[(0,.hv (.slice (.int .i64))),(1,.kc (.clo 74 (.pure .unit PUnit.unit))),(7,.hv (.int .i64)),(8,.hv (.int .i64))],[.mem (.hv (.pair (.int .i64) (.pair (.int .i64) (.pair (.int .i64) (.pair (.int .i64) (.pair (.int .i64) (.pair (.slice (.int .i64)) (.pair (.int .i64) .unit))))))))],1⟩
inductive Sp.E_34_114_0_0 where
 |e0 (p2:Int) (p3:Zt34_0)
 |e1 (p3:Zt34_0)
noncomputable def Sp.B_34_114_0_0{R:Type}(r:Option E_34_114_0_0)(k0:Int->Zt34_0->Option R)(k1:Zt34_0->Option R):Option R:=match r with
 |none=>none
 |some (.e0 p2 p3)=>k0 p2 p3
 |some (.e1 p3)=>k1 p3
noncomputable def Y_34_114_0_0{R:Type}(k:Ex->St->Option R):E_34_114_0_0->Option R
 | .e0 p2 p3=>k Ex.ret (sx 19 [(4,CV.int i64 p2)] [Blk.mem (CV.pure (Ty.pair (Ty.int i64) (Ty.pair (Ty.int i64) (Ty.pair (Ty.int i64) (Ty.pair (Ty.int i64) (Ty.pair (Ty.int i64) (Ty.pair (Ty.slice (Ty.int i64)) (Ty.pair (Ty.int i64) Ty.unit))))))) p3)] 1)
 | .e1 p3=>k (Ex.exit 0) (sx 19 [] [Blk.mem (CV.pure (Ty.pair (Ty.int i64) (Ty.pair (Ty.int i64) (Ty.pair (Ty.int i64) (Ty.pair (Ty.int i64) (Ty.pair (Ty.int i64) (Ty.pair (Ty.slice (Ty.int i64)) (Ty.pair (Ty.int i64) Ty.unit))))))) p3)] 1)
noncomputable def Sp.S_34_114_0_0{R:Type}(K:List Int->Int->Int->(Int×Int×Int×Int×Int×List Int×Int×Unit)->Option R)(k:E_34_114_0_0->Option R)(p0:List Int)(p1 p2:Int)(p3:Int×Int×Int×Int×Int×List Int×Int×Unit):Option R:=
 bif decide (p2<p1)then gd (inB p2 (length p0)) (gd (p_75 (getD p0 (toNat p2) 0)) (bif !(v_75 (getD p0 (toNat p2) 0)).1 then k (E_34_114_0_0.e0 p2 p3)else K p0 p1 (wrap i64 (p2+1)) p3))else k (E_34_114_0_0.e1 p3)
noncomputable def Sp.L_34_114_0_0:Nat->List Int->Int->Int->(Int×Int×Int×Int×Int×List Int×Int×Unit)->Option E_34_114_0_0
 |0,_,_,_,_=>none
 |m+1,p0,p1,p2,p3=>S_34_114_0_0 (L_34_114_0_0 m) some p0 p1 p2 p3
noncomputable def l_34_114_0_0(m:Nat)(a:T_34_114_0_0.E):Option E_34_114_0_0:=L_34_114_0_0 m a.1 a.2.1 a.2.2.1 a.2.2.2.1
noncomputable def O_34_114_0_0{R:Type}:Orc R:=orL T_34_114_0_0 (l_34_114_0_0 FU) Y_34_114_0_0
theorem OK_34_114_0_0{R:Type}:okF (R:=R) sm_34 3 (nf 114 0) O_34_114_0_0:=lp0 T_34_114_0_0 l_34_114_0_0 (fun R K k a=>S_34_114_0_0 (fun p0 p1 p2 p3=>K (p0,p1,p2,p3,())) k a.1 a.2.1 a.2.2.1 a.2.2.2.1) Y_34_114_0_0 (fun _ _ _=>by kernel_rfl) (fun _ _ _=>by
 unfold S_34_114_0_0
 repeat' first|apply gdN|apply condN|rfl) (ok0 _)
noncomputable def g_34_114{R:Type}:List CV->List Blk->(CV->List Blk->Option R)->Option R:=evFnL sm_34 FU (ovr noO (evFn sm_34 fns FU 3)) (mkT (fB fns 114) [O_34_114_0_0]) (fO fns 114)
theorem g_34_114_ok{R:Type}(args:List CV)(hp:List Blk)(k:CV->List Blk->Option R)(r:R)(h:g_34_114 args hp k=some r):evFn sm_34 fns FU 4 114 args hp k=some r:=runG noO_ok (os:=[O_34_114_0_0]) ⟨OK_34_114_0_0,trivial⟩ h
noncomputable def ov_34_73{R:Type}:Nat->Option (List CV->List Blk->(CV->List Blk->Option R)->Option R):=fun f'=>bif Nat.beq f' 114 then some g_34_114 else none
theorem ov_34_73_ok{R:Type}:OvrOK (R:=R) ov_34_73 (evFn sm_34 fns FU 4):=by
 intro f' g h args hp k r hg
 dsimp only[ov_34_73]at h
 by_cases h114:f'=114
 ·subst h114
  injection h with h
  subst h
  exact evFn_le 0 (g_34_114_ok _ _ _ _ hg)
 rw[nbeq_ne h114,cond_false]at h
 cases h
noncomputable def g_34_73{R:Type}:List CV->List Blk->(CV->List Blk->Option R)->Option R:=evFnL sm_34 FU (ovr ov_34_73 (evFn sm_34 fns FU 4)) (mkT (fB fns 73) []) (fO fns 73)
theorem g_34_73_ok{R:Type}(args:List CV)(hp:List Blk)(k:CV->List Blk->Option R)(r:R)(h:g_34_73 args hp k=some r):evFn sm_34 fns FU 5 73 args hp k=some r:=runG ov_34_73_ok (os:=[]) trivial h
noncomputable def ov_34_34{R:Type}:Nat->Option (List CV->List Blk->(CV->List Blk->Option R)->Option R):=fun f'=>bif Nat.beq f' 73 then some g_34_73 else none
theorem ov_34_34_ok{R:Type}:OvrOK (R:=R) ov_34_34 (evFn sm_34 fns FU 5):=by
 intro f' g h args hp k r hg
 dsimp only[ov_34_34]at h
 by_cases h73:f'=73
 ·subst h73
  injection h with h
  subst h
  exact evFn_le 0 (g_34_73_ok _ _ _ _ hg)
 rw[nbeq_ne h73,cond_false]at h
 cases h
noncomputable def T_34_0:PS:=⟨94,[(4,.kc (.ptr 0 [])),(5,.kc (.clo 76 (.pair (.ptr 0 []) (.pure .unit PUnit.unit)))),(76,.hv (.slice (.int .i64))),(77,.hv (.int .i64)),(78,.hv (.int .i64))],[.mem (.kc (.whole 1)),.vec 51 (.int .u32)],0⟩
inductive Sp.E_34_0 where
 |e0 (p3:List Int)
noncomputable def Sp.B_34_0{R:Type}(r:Option E_34_0)(k0:List Int->Option R):Option R:=match r with
 |none=>none
 |some (.e0 p3)=>k0 p3
noncomputable def Y_34_0{R:Type}(k:Ex->St->Option R):E_34_0->Option R
 | .e0 p3=>k (Ex.exit 0) (sx 94 [(4,CV.ptr 0 [])] [Blk.mem (CV.whole 1),Blk.vec 51 (Ty.int u32) p3])
noncomputable def Sp.S_34_0{R:Type}(K:List Int->Int->Int->List Int->Option R)(k:E_34_0->Option R)(p0:List Int)(p1 p2:Int)(p3:List Int):Option R:=
 bif decide (p2<p1)then gd (inB p2 (length p0)) (gd (room (length p3+1) 4) (gd (room (length (p3++[wrap u32 (Int.fdiv (wrap i64 (getD p0 (toNat p2) (0:Int)+(1099511627776:Int))) 4294967296)])+1) 4) (K p0 p1 (wrap i64 (p2+1)) (p3++[wrap u32 (Int.fdiv (wrap i64 (getD p0 (toNat p2) (0:Int)+(1099511627776:Int))) 4294967296)]++[wrap u32 (Sp.andI i64 (wrap i64 (getD p0 (toNat p2) (0:Int)+(1099511627776:Int))) 4294967295)]))))else k (E_34_0.e0 p3)
noncomputable def Sp.L_34_0:Nat->List Int->Int->Int->List Int->Option E_34_0
 |0,_,_,_,_=>none
 |m+1,p0,p1,p2,p3=>S_34_0 (L_34_0 m) some p0 p1 p2 p3
noncomputable def l_34_0(m:Nat)(a:T_34_0.E):Option E_34_0:=L_34_0 m a.1 a.2.1 a.2.2.1 a.2.2.2.1
noncomputable def O_34_0{R:Type}:Orc R:=orL T_34_0 (l_34_0 FU) Y_34_0
theorem OK_34_0{R:Type}:okF (R:=R) sm_34 5 (nf 34 0) O_34_0:=lp ov_34_34_ok (os:=[]) trivial T_34_0 l_34_0 (fun R K k a=>S_34_0 (fun p0 p1 p2 p3=>K (p0,p1,p2,p3,())) k a.1 a.2.1 a.2.2.1 a.2.2.2.1) Y_34_0 (fun _=>rfl) (fun _ _=>rfl) (fun k K a=>by kernel_rfl) (fun Y K a=>by
 unfold S_34_0
 repeat' first|apply gdN|apply condN|rfl) (ok0 _)
noncomputable def F_34(a0:(Int×(Int×(Int×(Int×(Int×((List Int)×(Int×Unit)))))))):Option ((List Int)×Int×Unit) :=
 gd (p_72 (a0.1) 31) (bif !(v_72 (a0.1) 31).1 then some ([],1,PUnit.unit)else gd (p_72 (a0.2.2.1) 2) (bif !(v_72 (a0.2.2.1) 2).1 then some ([],1,PUnit.unit)else gd (p_72 (a0.2.2.2.1) 254) (bif !(v_72 (a0.2.2.2.1) 254).1 then some ([],1,PUnit.unit)else gd (p_72 (a0.2.2.2.2.1) 255) (bif !(v_72 (a0.2.2.2.2.1) 255).1 then some ([],1,PUnit.unit)else gd (p_72 (a0.2.2.2.2.2.2.1) 1073741824) (bif !(v_72 (a0.2.2.2.2.2.2.1) 1073741824).1 then some ([],1,PUnit.unit)else bif decide ((↑(length (a0.2.2.2.2.2.1)):Int)>8)then some ([],1,PUnit.unit)else B_34_114_0_0 (L_34_114_0_0 4611686018427387904 (a0.2.2.2.2.2.1) (↑(length (a0.2.2.2.2.2.1)):Int) 0 a0) (fun y13 y14=>bif decide (y13>=0)then some ([],1,PUnit.unit)else B_34_0 (L_34_0 4611686018427387904 (y14.2.2.2.2.2.1) (↑(length (y14.2.2.2.2.2.1)):Int) 0 ([wrap u32 (Sp.orI i64 (Sp.orI i64 (Sp.orI i64 (Sp.andI i64 (y14.1) 22) (wrap i64 (y14.2.2.1*256))) (wrap i64 (y14.2.2.2.1*65536))) (wrap i64 (y14.2.2.2.2.1*16777216)))]++[wrap u32 (y14.2.2.2.2.2.2.1)]++[wrap u32 (↑(length (y14.2.2.2.2.2.1)):Int)])) fun y15=>some (y15,0,PUnit.unit)) fun y16=>B_34_0 (L_34_0 4611686018427387904 (y16.2.2.2.2.2.1) (↑(length (y16.2.2.2.2.2.1)):Int) 0 ([wrap u32 (Sp.orI i64 (Sp.orI i64 (Sp.orI i64 (Sp.andI i64 (y16.1) 22) (wrap i64 (y16.2.2.1*256))) (wrap i64 (y16.2.2.2.1*65536))) (wrap i64 (y16.2.2.2.2.1*16777216)))]++[wrap u32 (y16.2.2.2.2.2.2.1)]++[wrap u32 (↑(length (y16.2.2.2.2.2.1)):Int)])) fun y17=>some (y17,0,PUnit.unit))))))
noncomputable def Sp.p_34(a0:(Int×(Int×(Int×(Int×(Int×((List Int)×(Int×Unit)))))))):Bool:=(F_34 a0).isSome
noncomputable def Sp.v_34(a0:(Int×(Int×(Int×(Int×(Int×((List Int)×(Int×Unit)))))))):(List Int)×Int×Unit:=(F_34 a0).getD (dfH R_34)
noncomputable def s_34:Summ:=shS A_34 R_34 (fun x=>p_34 x.1) (fun x=>v_34 x.1)
theorem pv_34(a0:(Int×(Int×(Int×(Int×(Int×((List Int)×(Int×Unit)))))))){y:(List Int)×Int×Unit}(h:F_34 a0=some y):p_34 a0=true/\v_34 a0=y:=pvG h
theorem run_34(x:HDen A_34)(y:HDen R_34)(h:F_34 x.1=some y):rnF sm_34 6 34 A_34 R_34 x y:=runG ov_34_34_ok (os:=[O_34_0]) ⟨OK_34_0,trivial⟩ (Eq.trans (by kernel_rfl) h)
end
noncomputable section
abbrev A_35:List Ty:=[(.slice (.int .u32)),(.slice (.int .u32))]
abbrev R_35:List Ty:=[.bool]
noncomputable def sm_35:Nat->Option Summ:=smL []
noncomputable def T_35_0:PS:=⟨26,[(0,.hv (.slice (.int .u32))),(1,.hv (.slice (.int .u32))),(12,.hv (.int .i64)),(13,.hv (.int .i64))],[],0⟩
inductive Sp.E_35_0 where
 |e0
 |e1
noncomputable def Sp.B_35_0{R:Type}(r:Option E_35_0)(k0 k1:Option R):Option R:=match r with
 |none=>none
 |some (.e0)=>k0
 |some (.e1)=>k1
noncomputable def Y_35_0{R:Type}(k:Ex->St->Option R):E_35_0->Option R
 | .e0=>k Ex.ret (sx 26 [(4,CV.bool false)] [])
 | .e1=>k (Ex.exit 0) (sx 26 [] [])
noncomputable def Sp.S_35_0{R:Type}(K:List Int->List Int->Int->Int->Option R)(k:E_35_0->Option R)(p0 p1:List Int)(p2 p3:Int):Option R:=
 bif decide (p3<p2)then gd (inB p3 (length p0)) (gd (inB p3 (length p1)) (bif getD p0 (toNat p3) 0 !=getD p1 (toNat p3) 0 then k (E_35_0.e0)else K p0 p1 p2 (wrap i64 (p3+1))))else k (E_35_0.e1)
noncomputable def Sp.L_35_0:Nat->List Int->List Int->Int->Int->Option E_35_0
 |0,_,_,_,_=>none
 |m+1,p0,p1,p2,p3=>S_35_0 (L_35_0 m) some p0 p1 p2 p3
noncomputable def l_35_0(m:Nat)(a:T_35_0.E):Option E_35_0:=L_35_0 m a.1 a.2.1 a.2.2.1 a.2.2.2.1
noncomputable def O_35_0{R:Type}:Orc R:=orL T_35_0 (l_35_0 FU) Y_35_0
theorem OK_35_0{R:Type}:okF (R:=R) sm_35 0 (nf 35 0) O_35_0:=lp0 T_35_0 l_35_0 (fun R K k a=>S_35_0 (fun p0 p1 p2 p3=>K (p0,p1,p2,p3,())) k a.1 a.2.1 a.2.2.1 a.2.2.2.1) Y_35_0 (fun _ _ _=>by kernel_rfl) (fun _ _ _=>by
 unfold S_35_0
 repeat' first|apply gdN|apply condN|rfl) (ok0 _)
noncomputable def F_35(a0 a1:(List Int)):Option (Bool×Unit) :=
 bif(↑(length a0):Int)!=(↑(length a1):Int)then some (false,PUnit.unit)else B_35_0 (L_35_0 4611686018427387904 a0 a1 (↑(length a0):Int) 0) (some (false,PUnit.unit)) (some (true,PUnit.unit))
noncomputable def Sp.p_35(a0 a1:(List Int)):Bool:=(F_35 a0 a1).isSome
noncomputable def Sp.v_35(a0 a1:(List Int)):Bool×Unit:=(F_35 a0 a1).getD (dfH R_35)
noncomputable def s_35:Summ:=shN A_35 R_35 (fun x=>p_35 x.1 x.2.1) (fun x=>v_35 x.1 x.2.1)
theorem pv_35(a0 a1:(List Int)){y:Bool×Unit}(h:F_35 a0 a1=some y):p_35 a0 a1=true/\v_35 a0 a1=y:=pvG h
theorem run_35(x:HDen A_35)(y:HDen R_35)(h:F_35 x.1 x.2.1=some y):rnF sm_35 1 35 A_35 R_35 x y:=runG noO_ok (os:=[O_35_0]) ⟨OK_35_0,trivial⟩ (Eq.trans (by kernel_rfl) h)
end
noncomputable section
abbrev A_7:List Ty:=[]
abbrev R_7:List Ty:=[.bool]
noncomputable def sm_7:Nat->Option Summ:=smL [(34,s_34),(35,s_35)]
noncomputable def F_7:Option (Bool×Unit) :=
 gd (p_34 (6,0,2,0,3,[5],9,PUnit.unit)) (bif(v_34 (6,0,2,0,3,[5],9,PUnit.unit)).2.1==0 then gd (p_35 ((v_34 (6,0,2,0,3,[5],9,PUnit.unit)).1) [50332166,9,1,256,5]) (some ((v_35 ((v_34 (6,0,2,0,3,[5],9,PUnit.unit)).1) [50332166,9,1,256,5]).1,PUnit.unit))else some (false,PUnit.unit))
noncomputable def Sp.p_7:Bool:=(F_7).isSome
noncomputable def Sp.v_7:Bool×Unit:=(F_7).getD (dfH R_7)
noncomputable def s_7:Summ:=shN A_7 R_7 (fun x=>p_7) (fun x=>v_7)
theorem pv_7{y:Bool×Unit}(h:F_7=some y):p_7=true/\v_7=y:=pvG h
theorem run_7(x:HDen A_7)(y:HDen R_7)(h:F_7=some y):rnF sm_7 1 7 A_7 R_7 x y:=runG noO_ok (os:=[]) trivial (Eq.trans (by kernel_rfl) h)
end
noncomputable section
abbrev Zt9_0:Type:=List (Int×Int×Int×Int×Int×Int×Bool×Int×Unit)×List (Int×Int×Int×Int×Int×List Int×Int×Unit)×Int×Bool×Unit
abbrev A_9:List Ty:=[(.pair (.slice (.pair (.int .i64) (.pair (.int .i64) (.pair (.int .i64) (.pair (.int .i64) (.pair (.int .i64) (.pair (.int .i64) (.pair .bool (.pair (.int .i64) .unit))))))))) (.pair (.slice (.pair (.int .i64) (.pair (.int .i64) (.pair (.int .i64) (.pair (.int .i64) (.pair (.int .i64) (.pair (.slice (.int .i64)) (.pair (.int .i64) .unit)))))))) (.pair (.int .i64) (.pair .bool .unit))))]
abbrev R_9:List Ty:=[.bool]
noncomputable def sm_9:Nat->Option Summ:=smL []
noncomputable def T_9_77_0_0:PS:=⟨19,[(0,.hv (.slice (.pair (.int .i64) (.pair (.int .i64) (.pair (.int .i64) (.pair (.int .i64) (.pair (.int .i64) (.pair (.slice (.int .i64)) (.pair (.int .i64) .unit))))))))),(1,.kc (.clo 37 (.pure .unit PUnit.unit))),(7,.hv (.int .i64)),(8,.hv (.int .i64))],[.mem (.hv (.pair (.slice (.pair (.int .i64) (.pair (.int .i64) (.pair (.int .i64) (.pair (.int .i64) (.pair (.int .i64) (.pair (.int .i64) (.pair .bool (.pair (.int .i64) .unit))))))))) (.pair (.slice (.pair (.int .i64) (.pair (.int .i64) (.pair (.int .i64) (.pair (.int .i64) (.pair (.int .i64) (.pair (.slice (.int .i64)) (.pair (.int .i64) .unit)))))))) (.pair (.int .i64) (.pair .bool .unit)))))],1⟩
inductive Sp.E_9_77_0_0 where
 |e0 (p2:Int) (p3:Zt9_0)
 |e1 (p3:Zt9_0)
noncomputable def Sp.B_9_77_0_0{R:Type}(r:Option E_9_77_0_0)(k0:Int->Zt9_0->Option R)(k1:Zt9_0->Option R):Option R:=match r with
 |none=>none
 |some (.e0 p2 p3)=>k0 p2 p3
 |some (.e1 p3)=>k1 p3
noncomputable def Y_9_77_0_0{R:Type}(k:Ex->St->Option R):E_9_77_0_0->Option R
 | .e0 p2 p3=>k Ex.ret (sx 19 [(4,CV.int i64 p2)] [Blk.mem (CV.pure (Ty.pair (Ty.slice (Ty.pair (Ty.int i64) (Ty.pair (Ty.int i64) (Ty.pair (Ty.int i64) (Ty.pair (Ty.int i64) (Ty.pair (Ty.int i64) (Ty.pair (Ty.int i64) (Ty.pair Ty.bool (Ty.pair (Ty.int i64) Ty.unit))))))))) (Ty.pair (Ty.slice (Ty.pair (Ty.int i64) (Ty.pair (Ty.int i64) (Ty.pair (Ty.int i64) (Ty.pair (Ty.int i64) (Ty.pair (Ty.int i64) (Ty.pair (Ty.slice (Ty.int i64)) (Ty.pair (Ty.int i64) Ty.unit)))))))) (Ty.pair (Ty.int i64) (Ty.pair Ty.bool Ty.unit)))) p3)] 1)
 | .e1 p3=>k (Ex.exit 0) (sx 19 [] [Blk.mem (CV.pure (Ty.pair (Ty.slice (Ty.pair (Ty.int i64) (Ty.pair (Ty.int i64) (Ty.pair (Ty.int i64) (Ty.pair (Ty.int i64) (Ty.pair (Ty.int i64) (Ty.pair (Ty.int i64) (Ty.pair Ty.bool (Ty.pair (Ty.int i64) Ty.unit))))))))) (Ty.pair (Ty.slice (Ty.pair (Ty.int i64) (Ty.pair (Ty.int i64) (Ty.pair (Ty.int i64) (Ty.pair (Ty.int i64) (Ty.pair (Ty.int i64) (Ty.pair (Ty.slice (Ty.int i64)) (Ty.pair (Ty.int i64) Ty.unit)))))))) (Ty.pair (Ty.int i64) (Ty.pair Ty.bool Ty.unit)))) p3)] 1)
noncomputable def Sp.S_9_77_0_0{R:Type}(K:(List (Int×Int×Int×Int×Int×List Int×Int×Unit))->Int->Int->(List (Int×Int×Int×Int×Int×Int×Bool×Int×Unit)×List (Int×Int×Int×Int×Int×List Int×Int×Unit)×Int×Bool×Unit)->Option R)(k:E_9_77_0_0->Option R)(p0:List (Int×Int×Int×Int×Int×List Int×Int×Unit))(p1 p2:Int)(p3:List (Int×Int×Int×Int×Int×Int×Bool×Int×Unit)×List (Int×Int×Int×Int×Int×List Int×Int×Unit)×Int×Bool×Unit):Option R:=
 bif decide (p2<p1)then gd (inB p2 (length p0)) (bif decide ((↑(length ((getD p0 (toNat p2) Zd0).2.2.2.2.2.1)):Int)>20)then k (E_9_77_0_0.e0 p2 p3)else K p0 p1 (wrap i64 (p2+1)) p3)else k (E_9_77_0_0.e1 p3)
noncomputable def Sp.L_9_77_0_0:Nat->(List (Int×Int×Int×Int×Int×List Int×Int×Unit))->Int->Int->(List (Int×Int×Int×Int×Int×Int×Bool×Int×Unit)×List (Int×Int×Int×Int×Int×List Int×Int×Unit)×Int×Bool×Unit)->Option E_9_77_0_0
 |0,_,_,_,_=>none
 |m+1,p0,p1,p2,p3=>S_9_77_0_0 (L_9_77_0_0 m) some p0 p1 p2 p3
noncomputable def l_9_77_0_0(m:Nat)(a:T_9_77_0_0.E):Option E_9_77_0_0:=L_9_77_0_0 m a.1 a.2.1 a.2.2.1 a.2.2.2.1
noncomputable def O_9_77_0_0{R:Type}:Orc R:=orL T_9_77_0_0 (l_9_77_0_0 FU) Y_9_77_0_0
theorem OK_9_77_0_0{R:Type}:okF (R:=R) sm_9 3 (nf 77 0) O_9_77_0_0:=lp0 T_9_77_0_0 l_9_77_0_0 (fun R K k a=>S_9_77_0_0 (fun p0 p1 p2 p3=>K (p0,p1,p2,p3,())) k a.1 a.2.1 a.2.2.1 a.2.2.2.1) Y_9_77_0_0 (fun _ _ _=>by kernel_rfl) (fun _ _ _=>by
 unfold S_9_77_0_0
 repeat' first|apply gdN|apply condN|rfl) (ok0 _)
noncomputable def g_9_77{R:Type}:List CV->List Blk->(CV->List Blk->Option R)->Option R:=evFnL sm_9 FU (ovr noO (evFn sm_9 fns FU 3)) (mkT (fB fns 77) [O_9_77_0_0]) (fO fns 77)
theorem g_9_77_ok{R:Type}(args:List CV)(hp:List Blk)(k:CV->List Blk->Option R)(r:R)(h:g_9_77 args hp k=some r):evFn sm_9 fns FU 4 77 args hp k=some r:=runG noO_ok (os:=[O_9_77_0_0]) ⟨OK_9_77_0_0,trivial⟩ h
noncomputable def ov_9_36{R:Type}:Nat->Option (List CV->List Blk->(CV->List Blk->Option R)->Option R):=fun f'=>bif Nat.beq f' 77 then some g_9_77 else none
theorem ov_9_36_ok{R:Type}:OvrOK (R:=R) ov_9_36 (evFn sm_9 fns FU 4):=by
 intro f' g h args hp k r hg
 dsimp only[ov_9_36]at h
 by_cases h77:f'=77
 ·subst h77
  injection h with h
  subst h
  exact evFn_le 0 (g_9_77_ok _ _ _ _ hg)
 rw[nbeq_ne h77,cond_false]at h
 cases h
noncomputable def g_9_36{R:Type}:List CV->List Blk->(CV->List Blk->Option R)->Option R:=evFnL sm_9 FU (ovr ov_9_36 (evFn sm_9 fns FU 4)) (mkT (fB fns 36) []) (fO fns 36)
theorem g_9_36_ok{R:Type}(args:List CV)(hp:List Blk)(k:CV->List Blk->Option R)(r:R)(h:g_9_36 args hp k=some r):evFn sm_9 fns FU 5 36 args hp k=some r:=runG ov_9_36_ok (os:=[]) trivial h
noncomputable def ov_9_9{R:Type}:Nat->Option (List CV->List Blk->(CV->List Blk->Option R)->Option R):=fun f'=>bif Nat.beq f' 36 then some g_9_36 else none
theorem ov_9_9_ok{R:Type}:OvrOK (R:=R) ov_9_9 (evFn sm_9 fns FU 5):=by
 intro f' g h args hp k r hg
 dsimp only[ov_9_9]at h
 by_cases h36:f'=36
 ·subst h36
  injection h with h
  subst h
  exact evFn_le 0 (g_9_36_ok _ _ _ _ hg)
 rw[nbeq_ne h36,cond_false]at h
 cases h
noncomputable def F_9(a0:((List (Int×(Int×(Int×(Int×(Int×(Int×(Bool×(Int×Unit)))))))))×((List (Int×(Int×(Int×(Int×(Int×((List Int)×(Int×Unit))))))))×(Int×(Bool×Unit))))):Option (Bool×Unit) :=
 bif decide ((↑(length (a0.1)):Int)<=70)then bif decide ((↑(length (a0.2.1)):Int)<=70)then B_9_77_0_0 (L_9_77_0_0 4611686018427387904 (a0.2.1) (↑(length (a0.2.1)):Int) 0 a0) (fun y19 y20=>some (!decide (y19>=0),PUnit.unit)) fun y21=>some (true,PUnit.unit)else some (false,PUnit.unit)else some (false,PUnit.unit)
noncomputable def Sp.p_9(a0:((List (Int×(Int×(Int×(Int×(Int×(Int×(Bool×(Int×Unit)))))))))×((List (Int×(Int×(Int×(Int×(Int×((List Int)×(Int×Unit))))))))×(Int×(Bool×Unit))))):Bool:=(F_9 a0).isSome
noncomputable def Sp.v_9(a0:((List (Int×(Int×(Int×(Int×(Int×(Int×(Bool×(Int×Unit)))))))))×((List (Int×(Int×(Int×(Int×(Int×((List Int)×(Int×Unit))))))))×(Int×(Bool×Unit))))):Bool×Unit:=(F_9 a0).getD (dfH R_9)
noncomputable def s_9:Summ:=shN A_9 R_9 (fun x=>p_9 x.1) (fun x=>v_9 x.1)
theorem pv_9(a0:((List (Int×(Int×(Int×(Int×(Int×(Int×(Bool×(Int×Unit)))))))))×((List (Int×(Int×(Int×(Int×(Int×((List Int)×(Int×Unit))))))))×(Int×(Bool×Unit))))){y:Bool×Unit}(h:F_9 a0=some y):p_9 a0=true/\v_9 a0=y:=pvG h
theorem run_9(x:HDen A_9)(y:HDen R_9)(h:F_9 x.1=some y):rnF sm_9 6 9 A_9 R_9 x y:=runG ov_9_9_ok (os:=[]) trivial (Eq.trans (by kernel_rfl) h)
end
noncomputable section
abbrev A_8:List Ty:=[(.pair (.pair (.slice (.int .u32)) (.pair (.slice (.int .i64)) (.pair (.int .i64) .unit))) (.pair (.int .i64) (.pair (.int .i64) .unit))),(.pair (.slice (.pair (.int .i64) (.pair (.int .i64) (.pair (.int .i64) (.pair (.int .i64) (.pair (.int .i64) (.pair (.int .i64) (.pair .bool (.pair (.int .i64) .unit))))))))) (.pair (.slice (.pair (.int .i64) (.pair (.int .i64) (.pair (.int .i64) (.pair (.int .i64) (.pair (.int .i64) (.pair (.slice (.int .i64)) (.pair (.int .i64) .unit)))))))) (.pair (.int .i64) (.pair .bool .unit))))]
abbrev R_8:List Ty:=[.bool]
noncomputable def sm_8:Nat->Option Summ:=smL [(9,s_9)]
noncomputable def F_8(a0:(((List Int)×((List Int)×(Int×Unit)))×(Int×(Int×Unit))))(a1:((List (Int×(Int×(Int×(Int×(Int×(Int×(Bool×(Int×Unit)))))))))×((List (Int×(Int×(Int×(Int×(Int×((List Int)×(Int×Unit))))))))×(Int×(Bool×Unit))))):Option (Bool×Unit) :=
 bif decide ((↑(length (a0.1.1)):Int)<=1024)then bif decide ((↑(length (a0.1.2.1)):Int)<=16)then bif decide (a0.2.2.1<=16)then gd (p_9 a1) (some ((v_9 a1).1,PUnit.unit))else some (false,PUnit.unit)else some (false,PUnit.unit)else some (false,PUnit.unit)
noncomputable def Sp.p_8(a0:(((List Int)×((List Int)×(Int×Unit)))×(Int×(Int×Unit))))(a1:((List (Int×(Int×(Int×(Int×(Int×(Int×(Bool×(Int×Unit)))))))))×((List (Int×(Int×(Int×(Int×(Int×((List Int)×(Int×Unit))))))))×(Int×(Bool×Unit))))):Bool:=(F_8 a0 a1).isSome
noncomputable def Sp.v_8(a0:(((List Int)×((List Int)×(Int×Unit)))×(Int×(Int×Unit))))(a1:((List (Int×(Int×(Int×(Int×(Int×(Int×(Bool×(Int×Unit)))))))))×((List (Int×(Int×(Int×(Int×(Int×((List Int)×(Int×Unit))))))))×(Int×(Bool×Unit))))):Bool×Unit:=(F_8 a0 a1).getD (dfH R_8)
noncomputable def s_8:Summ:=shN A_8 R_8 (fun x=>p_8 x.1 x.2.1) (fun x=>v_8 x.1 x.2.1)
theorem pv_8(a0:(((List Int)×((List Int)×(Int×Unit)))×(Int×(Int×Unit))))(a1:((List (Int×(Int×(Int×(Int×(Int×(Int×(Bool×(Int×Unit)))))))))×((List (Int×(Int×(Int×(Int×(Int×((List Int)×(Int×Unit))))))))×(Int×(Bool×Unit))))){y:Bool×Unit}(h:F_8 a0 a1=some y):p_8 a0 a1=true/\v_8 a0 a1=y:=pvG h
theorem run_8(x:HDen A_8)(y:HDen R_8)(h:F_8 x.1 x.2.1=some y):rnF sm_8 1 8 A_8 R_8 x y:=runG noO_ok (os:=[]) trivial (Eq.trans (by kernel_rfl) h)
end
noncomputable section
abbrev A_96:List Ty:=[(.pair (.pair (.slice (.int .u32)) (.pair (.slice (.int .i64)) (.pair (.int .i64) .unit))) (.pair (.int .i64) (.pair (.int .i64) .unit))),(.int .i64),(.int .i64)]
abbrev R_96:List Ty:=[(.int .i64)]
noncomputable def sm_96:Nat->Option Summ:=smL []
noncomputable def F_96(a0:(((List Int)×((List Int)×(Int×Unit)))×(Int×(Int×Unit))))(a1 a2:Int):Option (Int×Unit) :=
 some (wrap i64 (wrap i64 (64*wrap i64 (a0.2.1+wrap i64 (Int.tdiv (wrap i64 (a1*a0.2.2.1)) 2)))+a2),PUnit.unit)
noncomputable def Sp.p_96(a0:(((List Int)×((List Int)×(Int×Unit)))×(Int×(Int×Unit))))(a1 a2:Int):Bool:=(F_96 a0 a1 a2).isSome
noncomputable def Sp.v_96(a0:(((List Int)×((List Int)×(Int×Unit)))×(Int×(Int×Unit))))(a1 a2:Int):Int×Unit:=(F_96 a0 a1 a2).getD (dfH R_96)
noncomputable def s_96:Summ:=shN A_96 R_96 (fun x=>p_96 x.1 x.2.1 x.2.2.1) (fun x=>v_96 x.1 x.2.1 x.2.2.1)
theorem pv_96(a0:(((List Int)×((List Int)×(Int×Unit)))×(Int×(Int×Unit))))(a1 a2:Int){y:Int×Unit}(h:F_96 a0 a1 a2=some y):p_96 a0 a1 a2=true/\v_96 a0 a1 a2=y:=pvG h
theorem run_96(x:HDen A_96)(y:HDen R_96)(h:F_96 x.1 x.2.1 x.2.2.1=some y):rnF sm_96 1 96 A_96 R_96 x y:=runG noO_ok (os:=[]) trivial (Eq.trans (by kernel_rfl) h)
end
noncomputable section
abbrev A_129:List Ty:=[(.pair (.pair (.slice (.int .u32)) (.pair (.slice (.int .i64)) (.pair (.int .i64) .unit))) (.pair (.int .i64) (.pair (.int .i64) .unit)))]
abbrev R_129:List Ty:=[(.int .i64)]
noncomputable def sm_129:Nat->Option Summ:=smL []
noncomputable def F_129(a0:(((List Int)×((List Int)×(Int×Unit)))×(Int×(Int×Unit)))):Option (Int×Unit) :=
 some (wrap i64 (Int.tdiv (wrap i64 (64*a0.2.2.1)) 2),PUnit.unit)
noncomputable def Sp.p_129(a0:(((List Int)×((List Int)×(Int×Unit)))×(Int×(Int×Unit)))):Bool:=(F_129 a0).isSome
noncomputable def Sp.v_129(a0:(((List Int)×((List Int)×(Int×Unit)))×(Int×(Int×Unit)))):Int×Unit:=(F_129 a0).getD (dfH R_129)
noncomputable def s_129:Summ:=shN A_129 R_129 (fun x=>p_129 x.1) (fun x=>v_129 x.1)
theorem pv_129(a0:(((List Int)×((List Int)×(Int×Unit)))×(Int×(Int×Unit)))){y:Int×Unit}(h:F_129 a0=some y):p_129 a0=true/\v_129 a0=y:=pvG h
theorem run_129(x:HDen A_129)(y:HDen R_129)(h:F_129 x.1=some y):rnF sm_129 1 129 A_129 R_129 x y:=runG noO_ok (os:=[]) trivial (Eq.trans (by kernel_rfl) h)
end
noncomputable section
abbrev A_110:List Ty:=[(.pair (.pair (.slice (.int .u32)) (.pair (.slice (.int .i64)) (.pair (.int .i64) .unit))) (.pair (.int .i64) (.pair (.int .i64) .unit))),(.int .i64)]
abbrev R_110:List Ty:=[(.slice (.int .u32))]
noncomputable def sm_110:Nat->Option Summ:=smL [(96,s_96),(129,s_129)]
noncomputable def F_110(a0:(((List Int)×((List Int)×(Int×Unit)))×(Int×(Int×Unit))))(a1:Int):Option ((List Int)×Unit) :=
 gd (p_96 a0 a1 0) (gd (p_129 a0) (gd (p_96 a0 a1 ((v_129 a0).1)) (gd (sl3 ((v_96 a0 a1 0).1) ((v_96 a0 a1 ((v_129 a0).1)).1) (↑(length (a0.1.1)):Int)) (some (take (toNat ((v_96 a0 a1 ((v_129 a0).1)).1)-toNat ((v_96 a0 a1 0).1)) (drop (toNat ((v_96 a0 a1 0).1)) (a0.1.1)),PUnit.unit)))))
noncomputable def Sp.p_110(a0:(((List Int)×((List Int)×(Int×Unit)))×(Int×(Int×Unit))))(a1:Int):Bool:=(F_110 a0 a1).isSome
noncomputable def Sp.v_110(a0:(((List Int)×((List Int)×(Int×Unit)))×(Int×(Int×Unit))))(a1:Int):(List Int)×Unit:=(F_110 a0 a1).getD (dfH R_110)
noncomputable def s_110:Summ:=shS A_110 R_110 (fun x=>p_110 x.1 x.2.1) (fun x=>v_110 x.1 x.2.1)
theorem pv_110(a0:(((List Int)×((List Int)×(Int×Unit)))×(Int×(Int×Unit))))(a1:Int){y:(List Int)×Unit}(h:F_110 a0 a1=some y):p_110 a0 a1=true/\v_110 a0 a1=y:=pvG h
theorem run_110(x:HDen A_110)(y:HDen R_110)(h:F_110 x.1 x.2.1=some y):rnF sm_110 1 110 A_110 R_110 x y:=runG noO_ok (os:=[]) trivial (Eq.trans (by kernel_rfl) h)
end
noncomputable section
abbrev A_124:List Ty:=[(.int .i64)]
abbrev R_124:List Ty:=[(.int .u32)]
noncomputable def sm_124:Nat->Option Summ:=smL []
noncomputable def F_124(a0:Int):Option (Int×Unit) :=
 some (Sp.orI u32 (wrap u32 (wrap u32 a0*65536)) (wrap u32 (Sp.andI i64 (Sp.xorI i64 (-1:Int) a0) 65535)),PUnit.unit)
noncomputable def Sp.p_124(a0:Int):Bool:=(F_124 a0).isSome
noncomputable def Sp.v_124(a0:Int):Int×Unit:=(F_124 a0).getD (dfH R_124)
noncomputable def s_124:Summ:=shN A_124 R_124 (fun x=>p_124 x.1) (fun x=>v_124 x.1)
theorem pv_124(a0:Int){y:Int×Unit}(h:F_124 a0=some y):p_124 a0=true/\v_124 a0=y:=pvG h
theorem run_124(x:HDen A_124)(y:HDen R_124)(h:F_124 x.1=some y):rnF sm_124 1 124 A_124 R_124 x y:=runG noO_ok (os:=[]) trivial (Eq.trans (by kernel_rfl) h)
end
noncomputable section
abbrev A_141:List Ty:=[(.int .u32)]
abbrev R_141:List Ty:=[(.int .i64),.bool]
noncomputable def sm_141:Nat->Option Summ:=smL [(124,s_124)]
noncomputable def F_141(a0:Int):Option (Int×Bool×Unit) :=
 gd (p_124 (wrap i64 (Int.fdiv a0 65536))) (some (wrap i64 (Int.fdiv a0 65536),(v_124 (wrap i64 (Int.fdiv a0 65536))).1==a0,PUnit.unit))
noncomputable def Sp.p_141(a0:Int):Bool:=(F_141 a0).isSome
noncomputable def Sp.v_141(a0:Int):Int×Bool×Unit:=(F_141 a0).getD (dfH R_141)
noncomputable def s_141:Summ:=shN A_141 R_141 (fun x=>p_141 x.1) (fun x=>v_141 x.1)
theorem pv_141(a0:Int){y:Int×Bool×Unit}(h:F_141 a0=some y):p_141 a0=true/\v_141 a0=y:=pvG h
theorem run_141(x:HDen A_141)(y:HDen R_141)(h:F_141 x.1=some y):rnF sm_141 1 141 A_141 R_141 x y:=runG noO_ok (os:=[]) trivial (Eq.trans (by kernel_rfl) h)
end
noncomputable section
abbrev A_109:List Ty:=[(.pair (.pair (.slice (.int .u32)) (.pair (.slice (.int .i64)) (.pair (.int .i64) .unit))) (.pair (.int .i64) (.pair (.int .i64) .unit))),(.int .i64)]
abbrev R_109:List Ty:=[(.int .i64)]
noncomputable def sm_109:Nat->Option Summ:=smL [(110,s_110),(141,s_141)]
noncomputable def F_109(a0:(((List Int)×((List Int)×(Int×Unit)))×(Int×(Int×Unit))))(a1:Int):Option (Int×Unit) :=
 gd (p_110 a0 a1) (gd (inB 0 (length ((v_110 a0 a1).1))) (gd (p_141 (getD ((v_110 a0 a1).1) 0 0)) (bif !(v_141 (getD ((v_110 a0 a1).1) 0 0)).2.1 then some (0,PUnit.unit)else some ((v_141 (getD ((v_110 a0 a1).1) 0 0)).1,PUnit.unit))))
noncomputable def Sp.p_109(a0:(((List Int)×((List Int)×(Int×Unit)))×(Int×(Int×Unit))))(a1:Int):Bool:=(F_109 a0 a1).isSome
noncomputable def Sp.v_109(a0:(((List Int)×((List Int)×(Int×Unit)))×(Int×(Int×Unit))))(a1:Int):Int×Unit:=(F_109 a0 a1).getD (dfH R_109)
noncomputable def s_109:Summ:=shN A_109 R_109 (fun x=>p_109 x.1 x.2.1) (fun x=>v_109 x.1 x.2.1)
theorem pv_109(a0:(((List Int)×((List Int)×(Int×Unit)))×(Int×(Int×Unit))))(a1:Int){y:Int×Unit}(h:F_109 a0 a1=some y):p_109 a0 a1=true/\v_109 a0 a1=y:=pvG h
theorem run_109(x:HDen A_109)(y:HDen R_109)(h:F_109 x.1 x.2.1=some y):rnF sm_109 1 109 A_109 R_109 x y:=runG noO_ok (os:=[]) trivial (Eq.trans (by kernel_rfl) h)
end
noncomputable section
abbrev A_69:List Ty:=[(.pair (.pair (.slice (.int .u32)) (.pair (.slice (.int .i64)) (.pair (.int .i64) .unit))) (.pair (.int .i64) (.pair (.int .i64) .unit)))]
abbrev R_69:List Ty:=[(.int .i64),.bool]
noncomputable def sm_69:Nat->Option Summ:=smL [(109,s_109)]
noncomputable def F_69(a0:(((List Int)×((List Int)×(Int×Unit)))×(Int×(Int×Unit)))):Option (Int×Bool×Unit) :=
 gd (p_109 a0 0) (gd (p_109 a0 1) (bif decide ((v_109 a0 1).1>(v_109 a0 0).1)then some (1,true,PUnit.unit)else some (0,decide ((v_109 a0 0).1>0),PUnit.unit)))
noncomputable def Sp.p_69(a0:(((List Int)×((List Int)×(Int×Unit)))×(Int×(Int×Unit)))):Bool:=(F_69 a0).isSome
noncomputable def Sp.v_69(a0:(((List Int)×((List Int)×(Int×Unit)))×(Int×(Int×Unit)))):Int×Bool×Unit:=(F_69 a0).getD (dfH R_69)
noncomputable def s_69:Summ:=shN A_69 R_69 (fun x=>p_69 x.1) (fun x=>v_69 x.1)
theorem pv_69(a0:(((List Int)×((List Int)×(Int×Unit)))×(Int×(Int×Unit)))){y:Int×Bool×Unit}(h:F_69 a0=some y):p_69 a0=true/\v_69 a0=y:=pvG h
theorem run_69(x:HDen A_69)(y:HDen R_69)(h:F_69 x.1=some y):rnF sm_69 1 69 A_69 R_69 x y:=runG noO_ok (os:=[]) trivial (Eq.trans (by kernel_rfl) h)
end
noncomputable section
abbrev A_78:List Ty:=[(.pair (.slice (.int .u32)) (.pair (.slice (.int .i64)) (.pair (.int .i64) .unit)))]
abbrev R_78:List Ty:=[.bool]
noncomputable def sm_78:Nat->Option Summ:=smL []
noncomputable def T_78_114_0_0:PS:=⟨19,[(0,.hv (.slice (.int .i64))),(1,.kc (.clo 115 (.pair (.ptr 0 []) (.pure .unit PUnit.unit)))),(7,.hv (.int .i64)),(8,.hv (.int .i64))],[.mem (.hv (.pair (.slice (.int .u32)) (.pair (.slice (.int .i64)) (.pair (.int .i64) .unit))))],1⟩
inductive Sp.E_78_114_0_0 where
 |e0 (p2:Int) (p3:List Int×List Int×Int×Unit)
 |e1 (p3:List Int×List Int×Int×Unit)
noncomputable def Sp.B_78_114_0_0{R:Type}(r:Option E_78_114_0_0)(k0:Int->(List Int×List Int×Int×Unit)->Option R)(k1:(List Int×List Int×Int×Unit)->Option R):Option R:=match r with
 |none=>none
 |some (.e0 p2 p3)=>k0 p2 p3
 |some (.e1 p3)=>k1 p3
noncomputable def Y_78_114_0_0{R:Type}(k:Ex->St->Option R):E_78_114_0_0->Option R
 | .e0 p2 p3=>k Ex.ret (sx 19 [(4,CV.int i64 p2)] [Blk.mem (CV.pure (Ty.pair (Ty.slice (Ty.int u32)) (Ty.pair (Ty.slice (Ty.int i64)) (Ty.pair (Ty.int i64) Ty.unit))) p3)] 1)
 | .e1 p3=>k (Ex.exit 0) (sx 19 [] [Blk.mem (CV.pure (Ty.pair (Ty.slice (Ty.int u32)) (Ty.pair (Ty.slice (Ty.int i64)) (Ty.pair (Ty.int i64) Ty.unit))) p3)] 1)
noncomputable def Sp.S_78_114_0_0{R:Type}(K:List Int->Int->Int->(List Int×List Int×Int×Unit)->Option R)(k:E_78_114_0_0->Option R)(p0:List Int)(p1 p2:Int)(p3:List Int×List Int×Int×Unit):Option R:=
 bif decide (p2<p1)then gd (inB p2 (length p0)) (bif decide (getD p0 (toNat p2) (0:Int)<(0:Int))then k (E_78_114_0_0.e0 p2 p3)else bif decide (getD p0 (toNat p2) 0>p3.2.2.1)then k (E_78_114_0_0.e0 p2 p3)else K p0 p1 (wrap i64 (p2+1)) p3)else k (E_78_114_0_0.e1 p3)
noncomputable def Sp.L_78_114_0_0:Nat->List Int->Int->Int->(List Int×List Int×Int×Unit)->Option E_78_114_0_0
 |0,_,_,_,_=>none
 |m+1,p0,p1,p2,p3=>S_78_114_0_0 (L_78_114_0_0 m) some p0 p1 p2 p3
noncomputable def l_78_114_0_0(m:Nat)(a:T_78_114_0_0.E):Option E_78_114_0_0:=L_78_114_0_0 m a.1 a.2.1 a.2.2.1 a.2.2.2.1
noncomputable def O_78_114_0_0{R:Type}:Orc R:=orL T_78_114_0_0 (l_78_114_0_0 FU) Y_78_114_0_0
theorem OK_78_114_0_0{R:Type}:okF (R:=R) sm_78 3 (nf 114 0) O_78_114_0_0:=lp0 T_78_114_0_0 l_78_114_0_0 (fun R K k a=>S_78_114_0_0 (fun p0 p1 p2 p3=>K (p0,p1,p2,p3,())) k a.1 a.2.1 a.2.2.1 a.2.2.2.1) Y_78_114_0_0 (fun _ _ _=>by kernel_rfl) (fun _ _ _=>by
 unfold S_78_114_0_0
 repeat' first|apply gdN|apply condN|rfl) (ok0 _)
noncomputable def g_78_114{R:Type}:List CV->List Blk->(CV->List Blk->Option R)->Option R:=evFnL sm_78 FU (ovr noO (evFn sm_78 fns FU 3)) (mkT (fB fns 114) [O_78_114_0_0]) (fO fns 114)
theorem g_78_114_ok{R:Type}(args:List CV)(hp:List Blk)(k:CV->List Blk->Option R)(r:R)(h:g_78_114 args hp k=some r):evFn sm_78 fns FU 4 114 args hp k=some r:=runG noO_ok (os:=[O_78_114_0_0]) ⟨OK_78_114_0_0,trivial⟩ h
noncomputable def ov_78_73{R:Type}:Nat->Option (List CV->List Blk->(CV->List Blk->Option R)->Option R):=fun f'=>bif Nat.beq f' 114 then some g_78_114 else none
theorem ov_78_73_ok{R:Type}:OvrOK (R:=R) ov_78_73 (evFn sm_78 fns FU 4):=by
 intro f' g h args hp k r hg
 dsimp only[ov_78_73]at h
 by_cases h114:f'=114
 ·subst h114
  injection h with h
  subst h
  exact evFn_le 0 (g_78_114_ok _ _ _ _ hg)
 rw[nbeq_ne h114,cond_false]at h
 cases h
noncomputable def g_78_73{R:Type}:List CV->List Blk->(CV->List Blk->Option R)->Option R:=evFnL sm_78 FU (ovr ov_78_73 (evFn sm_78 fns FU 4)) (mkT (fB fns 73) []) (fO fns 73)
theorem g_78_73_ok{R:Type}(args:List CV)(hp:List Blk)(k:CV->List Blk->Option R)(r:R)(h:g_78_73 args hp k=some r):evFn sm_78 fns FU 5 73 args hp k=some r:=runG ov_78_73_ok (os:=[]) trivial h
noncomputable def ov_78_78{R:Type}:Nat->Option (List CV->List Blk->(CV->List Blk->Option R)->Option R):=fun f'=>bif Nat.beq f' 73 then some g_78_73 else none
theorem ov_78_78_ok{R:Type}:OvrOK (R:=R) ov_78_78 (evFn sm_78 fns FU 5):=by
 intro f' g h args hp k r hg
 dsimp only[ov_78_78]at h
 by_cases h73:f'=73
 ·subst h73
  injection h with h
  subst h
  exact evFn_le 0 (g_78_73_ok _ _ _ _ hg)
 rw[nbeq_ne h73,cond_false]at h
 cases h
noncomputable def F_78(a0:((List Int)×((List Int)×(Int×Unit)))):Option (Bool×Unit) :=
 bif decide ((↑(length (a0.2.1)):Int)<1)then some (false,PUnit.unit)else bif decide ((↑(length (a0.2.1)):Int)>64)then some (false,PUnit.unit)else bif(↑(length (a0.1)):Int)!=wrap i64 ((↑(length (a0.2.1)):Int)*64)then some (false,PUnit.unit)else bif decide (a0.2.2.1<1)then some (false,PUnit.unit)else bif decide (a0.2.2.1>1000000)then some (false,PUnit.unit)else B_78_114_0_0 (L_78_114_0_0 4611686018427387904 (a0.2.1) (↑(length (a0.2.1)):Int) 0 a0) (fun y23 y24=>some (!decide (y23>=0),PUnit.unit)) fun y25=>some (true,PUnit.unit)
noncomputable def Sp.p_78(a0:((List Int)×((List Int)×(Int×Unit)))):Bool:=(F_78 a0).isSome
noncomputable def Sp.v_78(a0:((List Int)×((List Int)×(Int×Unit)))):Bool×Unit:=(F_78 a0).getD (dfH R_78)
noncomputable def s_78:Summ:=shN A_78 R_78 (fun x=>p_78 x.1) (fun x=>v_78 x.1)
theorem pv_78(a0:((List Int)×((List Int)×(Int×Unit)))){y:Bool×Unit}(h:F_78 a0=some y):p_78 a0=true/\v_78 a0=y:=pvG h
theorem run_78(x:HDen A_78)(y:HDen R_78)(h:F_78 x.1=some y):rnF sm_78 6 78 A_78 R_78 x y:=runG ov_78_78_ok (os:=[]) trivial (Eq.trans (by kernel_rfl) h)
end
noncomputable section
abbrev A_79:List Ty:=[(.pair (.pair (.slice (.int .u32)) (.pair (.slice (.int .i64)) (.pair (.int .i64) .unit))) (.pair (.int .i64) (.pair (.int .i64) .unit)))]
abbrev R_79:List Ty:=[.bool]
noncomputable def sm_79:Nat->Option Summ:=smL []
noncomputable def F_79(a0:(((List Int)×((List Int)×(Int×Unit)))×(Int×(Int×Unit)))):Option (Bool×Unit) :=
 bif decide (a0.2.2.1>=2)then bif decide (a0.2.2.1<=16)then bif Int.tmod (a0.2.2.1) (2:Int)==(0:Int)then bif decide (a0.2.1>=0)then some (decide (a0.2.1<=wrap i64 ((↑(length (a0.1.2.1)):Int)-a0.2.2.1)),PUnit.unit)else some (false,PUnit.unit)else some (false,PUnit.unit)else some (false,PUnit.unit)else some (false,PUnit.unit)
noncomputable def Sp.p_79(a0:(((List Int)×((List Int)×(Int×Unit)))×(Int×(Int×Unit)))):Bool:=(F_79 a0).isSome
noncomputable def Sp.v_79(a0:(((List Int)×((List Int)×(Int×Unit)))×(Int×(Int×Unit)))):Bool×Unit:=(F_79 a0).getD (dfH R_79)
noncomputable def s_79:Summ:=shN A_79 R_79 (fun x=>p_79 x.1) (fun x=>v_79 x.1)
theorem pv_79(a0:(((List Int)×((List Int)×(Int×Unit)))×(Int×(Int×Unit)))){y:Bool×Unit}(h:F_79 a0=some y):p_79 a0=true/\v_79 a0=y:=pvG h
theorem run_79(x:HDen A_79)(y:HDen R_79)(h:F_79 x.1=some y):rnF sm_79 1 79 A_79 R_79 x y:=runG noO_ok (os:=[]) trivial (Eq.trans (by kernel_rfl) h)
end
noncomputable section
abbrev A_38:List Ty:=[(.pair (.pair (.slice (.int .u32)) (.pair (.slice (.int .i64)) (.pair (.int .i64) .unit))) (.pair (.int .i64) (.pair (.int .i64) .unit)))]
abbrev R_38:List Ty:=[.bool]
noncomputable def sm_38:Nat->Option Summ:=smL [(69,s_69),(78,s_78),(79,s_79)]
noncomputable def F_38(a0:(((List Int)×((List Int)×(Int×Unit)))×(Int×(Int×Unit)))):Option (Bool×Unit) :=
 gd (p_78 (a0.1)) (bif !(v_78 (a0.1)).1 then some (false,PUnit.unit)else gd (p_79 a0) (bif !(v_79 a0).1 then some (false,PUnit.unit)else gd (p_69 a0) (some ((v_69 a0).2.1,PUnit.unit))))
noncomputable def Sp.p_38(a0:(((List Int)×((List Int)×(Int×Unit)))×(Int×(Int×Unit)))):Bool:=(F_38 a0).isSome
noncomputable def Sp.v_38(a0:(((List Int)×((List Int)×(Int×Unit)))×(Int×(Int×Unit)))):Bool×Unit:=(F_38 a0).getD (dfH R_38)
noncomputable def s_38:Summ:=shN A_38 R_38 (fun x=>p_38 x.1) (fun x=>v_38 x.1)
theorem pv_38(a0:(((List Int)×((List Int)×(Int×Unit)))×(Int×(Int×Unit)))){y:Bool×Unit}(h:F_38 a0=some y):p_38 a0=true/\v_38 a0=y:=pvG h
theorem run_38(x:HDen A_38)(y:HDen R_38)(h:F_38 x.1=some y):rnF sm_38 1 38 A_38 R_38 x y:=runG noO_ok (os:=[]) trivial (Eq.trans (by kernel_rfl) h)
end
noncomputable section
abbrev A_84:List Ty:=[(.int .i64),(.int .i64),(.int .i64)]
abbrev R_84:List Ty:=[.bool]
noncomputable def sm_84:Nat->Option Summ:=smL []
noncomputable def F_84(a0 a1 a2:Int):Option (Bool×Unit) :=
 bif decide (a0>=a1)then some (decide (a0<=a2),PUnit.unit)else some (false,PUnit.unit)
noncomputable def Sp.p_84(a0 a1 a2:Int):Bool:=(F_84 a0 a1 a2).isSome
noncomputable def Sp.v_84(a0 a1 a2:Int):Bool×Unit:=(F_84 a0 a1 a2).getD (dfH R_84)
noncomputable def s_84:Summ:=shN A_84 R_84 (fun x=>p_84 x.1 x.2.1 x.2.2.1) (fun x=>v_84 x.1 x.2.1 x.2.2.1)
theorem pv_84(a0 a1 a2:Int){y:Bool×Unit}(h:F_84 a0 a1 a2=some y):p_84 a0 a1 a2=true/\v_84 a0 a1 a2=y:=pvG h
theorem run_84(x:HDen A_84)(y:HDen R_84)(h:F_84 x.1 x.2.1 x.2.2.1=some y):rnF sm_84 1 84 A_84 R_84 x y:=runG noO_ok (os:=[]) trivial (Eq.trans (by kernel_rfl) h)
end
noncomputable section
abbrev A_117:List Ty:=[(.pair (.int .i64) (.pair (.int .i64) (.pair (.int .i64) (.pair (.int .i64) (.pair (.int .i64) (.pair (.int .i64) (.pair .bool (.pair (.int .i64) .unit))))))))]
abbrev R_117:List Ty:=[.bool]
noncomputable def sm_117:Nat->Option Summ:=smL [(84,s_84)]
noncomputable def F_117(a0:(Int×(Int×(Int×(Int×(Int×(Int×(Bool×(Int×Unit))))))))):Option (Bool×Unit) :=
 gd (p_84 (a0.1) 1 16777215) (bif(v_84 (a0.1) 1 16777215).1 then gd (p_84 (a0.2.1) 1 100) (bif(v_84 (a0.2.1) 1 100).1 then gd (p_84 (a0.2.2.1) 1 100) (bif(v_84 (a0.2.2.1) 1 100).1 then gd (p_84 (a0.2.2.2.1) 1 100) (bif(v_84 (a0.2.2.2.1) 1 100).1 then gd (p_84 (a0.2.2.2.2.1) (a0.2.2.2.1) 255) (bif(v_84 (a0.2.2.2.2.1) (a0.2.2.2.1) 255).1 then gd (p_84 (a0.2.2.2.2.2.1) 0 255) (bif(v_84 (a0.2.2.2.2.2.1) 0 255).1 then gd (p_84 (a0.2.2.2.2.2.2.2.1) 0 8) (some ((v_84 (a0.2.2.2.2.2.2.2.1) 0 8).1,PUnit.unit))else some (false,PUnit.unit))else some (false,PUnit.unit))else some (false,PUnit.unit))else some (false,PUnit.unit))else some (false,PUnit.unit))else some (false,PUnit.unit))
noncomputable def Sp.p_117(a0:(Int×(Int×(Int×(Int×(Int×(Int×(Bool×(Int×Unit))))))))):Bool:=(F_117 a0).isSome
noncomputable def Sp.v_117(a0:(Int×(Int×(Int×(Int×(Int×(Int×(Bool×(Int×Unit))))))))):Bool×Unit:=(F_117 a0).getD (dfH R_117)
noncomputable def s_117:Summ:=shN A_117 R_117 (fun x=>p_117 x.1) (fun x=>v_117 x.1)
theorem pv_117(a0:(Int×(Int×(Int×(Int×(Int×(Int×(Bool×(Int×Unit))))))))){y:Bool×Unit}(h:F_117 a0=some y):p_117 a0=true/\v_117 a0=y:=pvG h
theorem run_117(x:HDen A_117)(y:HDen R_117)(h:F_117 x.1=some y):rnF sm_117 1 117 A_117 R_117 x y:=runG noO_ok (os:=[]) trivial (Eq.trans (by kernel_rfl) h)
end
noncomputable section
abbrev Zy39_0:Ty:=(.pair (.slice (.pair (.int .i64) (.pair (.int .i64) (.pair (.int .i64) (.pair (.int .i64) (.pair (.int .i64) (.pair (.int .i64) (.pair .bool (.pair (.int .i64) .unit))))))))) (.pair (.slice (.pair (.int .i64) (.pair (.int .i64) (.pair (.int .i64) (.pair (.int .i64) (.pair (.int .i64) (.pair (.slice (.int .i64)) (.pair (.int .i64) .unit)))))))) (.pair (.int .i64) (.pair .bool .unit))))
abbrev Zt39_1:Type:=Int×Bool×Unit
abbrev A_39:List Ty:=[(.slice (.pair (.int .i64) (.pair (.int .i64) (.pair (.int .i64) (.pair (.int .i64) (.pair (.int .i64) (.pair (.int .i64) (.pair .bool (.pair (.int .i64) .unit)))))))))]
abbrev R_39:List Ty:=[(.pair (.slice (.pair (.int .i64) (.pair (.int .i64) (.pair (.int .i64) (.pair (.int .i64) (.pair (.int .i64) (.pair (.int .i64) (.pair .bool (.pair (.int .i64) .unit))))))))) (.pair (.slice (.pair (.int .i64) (.pair (.int .i64) (.pair (.int .i64) (.pair (.int .i64) (.pair (.int .i64) (.pair (.slice (.int .i64)) (.pair (.int .i64) .unit)))))))) (.pair (.int .i64) (.pair .bool .unit)))),(.int .i64)]
noncomputable def sm_39:Nat->Option Summ:=smL [(82,s_82),(83,s_83),(117,s_117)]
noncomputable def T_39_116_0_0:PS:=⟨19,[(0,.hv (.slice (.pair (.int .i64) (.pair (.int .i64) (.pair (.int .i64) (.pair (.int .i64) (.pair (.int .i64) (.pair (.int .i64) (.pair .bool (.pair (.int .i64) .unit)))))))))),(1,.kc (.clo 81 (.pure .unit PUnit.unit))),(7,.hv (.int .i64)),(8,.hv (.int .i64))],[.mem (.pr (.kc (.nil 63 (.pair (.int .i64) (.pair (.int .i64) (.pair (.int .i64) (.pair (.int .i64) (.pair (.int .i64) (.pair (.int .i64) (.pair .bool (.pair (.int .i64) .unit)))))))))) (.pr (.kc (.nil 47 (.pair (.int .i64) (.pair (.int .i64) (.pair (.int .i64) (.pair (.int .i64) (.pair (.int .i64) (.pair (.slice (.int .i64)) (.pair (.int .i64) .unit))))))))) (.hv (.pair (.int .i64) (.pair .bool .unit)))))],1⟩
inductive Sp.E_39_116_0_0 where
 |e0 (p2:Int) (p3:Zt39_1)
 |e1 (p3:Int×Bool×Unit)
noncomputable def Sp.B_39_116_0_0{R:Type}(r:Option E_39_116_0_0)(k0:Int->Zt39_1->Option R)(k1:Zt39_1->Option R):Option R:=match r with
 |none=>none
 |some (.e0 p2 p3)=>k0 p2 p3
 |some (.e1 p3)=>k1 p3
noncomputable def Y_39_116_0_0{R:Type}(k:Ex->St->Option R):E_39_116_0_0->Option R
 | .e0 p2 p3=>k Ex.ret (sx 19 [(4,CV.int i64 p2)] [Blk.mem (CV.pair (CV.nil 63 (Ty.pair (Ty.int i64) (Ty.pair (Ty.int i64) (Ty.pair (Ty.int i64) (Ty.pair (Ty.int i64) (Ty.pair (Ty.int i64) (Ty.pair (Ty.int i64) (Ty.pair Ty.bool (Ty.pair (Ty.int i64) Ty.unit))))))))) (CV.pair (CV.nil 47 (Ty.pair (Ty.int i64) (Ty.pair (Ty.int i64) (Ty.pair (Ty.int i64) (Ty.pair (Ty.int i64) (Ty.pair (Ty.int i64) (Ty.pair (Ty.slice (Ty.int i64)) (Ty.pair (Ty.int i64) Ty.unit)))))))) (CV.pure (Ty.pair (Ty.int i64) (Ty.pair Ty.bool Ty.unit)) p3)))] 1)
 | .e1 p3=>k (Ex.exit 0) (sx 19 [] [Blk.mem (CV.pair (CV.nil 63 (Ty.pair (Ty.int i64) (Ty.pair (Ty.int i64) (Ty.pair (Ty.int i64) (Ty.pair (Ty.int i64) (Ty.pair (Ty.int i64) (Ty.pair (Ty.int i64) (Ty.pair Ty.bool (Ty.pair (Ty.int i64) Ty.unit))))))))) (CV.pair (CV.nil 47 (Ty.pair (Ty.int i64) (Ty.pair (Ty.int i64) (Ty.pair (Ty.int i64) (Ty.pair (Ty.int i64) (Ty.pair (Ty.int i64) (Ty.pair (Ty.slice (Ty.int i64)) (Ty.pair (Ty.int i64) Ty.unit)))))))) (CV.pure (Ty.pair (Ty.int i64) (Ty.pair Ty.bool Ty.unit)) p3)))] 1)
noncomputable def Sp.S_39_116_0_0{R:Type}(K:(List (Int×Int×Int×Int×Int×Int×Bool×Int×Unit))->Int->Int->(Int×Bool×Unit)->Option R)(k:E_39_116_0_0->Option R)(p0:List (Int×Int×Int×Int×Int×Int×Bool×Int×Unit))(p1 p2:Int)(p3:Int×Bool×Unit):Option R:=
 bif decide (p2<p1)then gd (inB p2 (length p0)) (gd (p_117 (getD p0 (toNat p2) Zd1)) (bif !(v_117 (getD p0 (toNat p2) Zd1)).1 then k (E_39_116_0_0.e0 p2 p3)else K p0 p1 (wrap i64 (p2+1)) p3))else k (E_39_116_0_0.e1 p3)
noncomputable def Sp.L_39_116_0_0:Nat->(List (Int×Int×Int×Int×Int×Int×Bool×Int×Unit))->Int->Int->(Int×Bool×Unit)->Option E_39_116_0_0
 |0,_,_,_,_=>none
 |m+1,p0,p1,p2,p3=>S_39_116_0_0 (L_39_116_0_0 m) some p0 p1 p2 p3
noncomputable def l_39_116_0_0(m:Nat)(a:T_39_116_0_0.E):Option E_39_116_0_0:=L_39_116_0_0 m a.1 a.2.1 a.2.2.1 a.2.2.2.1
noncomputable def O_39_116_0_0{R:Type}:Orc R:=orL T_39_116_0_0 (l_39_116_0_0 FU) Y_39_116_0_0
theorem OK_39_116_0_0{R:Type}:okF (R:=R) sm_39 3 (nf 116 0) O_39_116_0_0:=lp0 T_39_116_0_0 l_39_116_0_0 (fun R K k a=>S_39_116_0_0 (fun p0 p1 p2 p3=>K (p0,p1,p2,p3,())) k a.1 a.2.1 a.2.2.1 a.2.2.2.1) Y_39_116_0_0 (fun _ _ _=>by kernel_rfl) (fun _ _ _=>by
 unfold S_39_116_0_0
 repeat' first|apply gdN|apply condN|rfl) (ok0 _)
noncomputable def g_39_116{R:Type}:List CV->List Blk->(CV->List Blk->Option R)->Option R:=evFnL sm_39 FU (ovr noO (evFn sm_39 fns FU 3)) (mkT (fB fns 116) [O_39_116_0_0]) (fO fns 116)
theorem g_39_116_ok{R:Type}(args:List CV)(hp:List Blk)(k:CV->List Blk->Option R)(r:R)(h:g_39_116 args hp k=some r):evFn sm_39 fns FU 4 116 args hp k=some r:=runG noO_ok (os:=[O_39_116_0_0]) ⟨OK_39_116_0_0,trivial⟩ h
noncomputable def ov_39_80{R:Type}:Nat->Option (List CV->List Blk->(CV->List Blk->Option R)->Option R):=fun f'=>bif Nat.beq f' 116 then some g_39_116 else none
theorem ov_39_80_ok{R:Type}:OvrOK (R:=R) ov_39_80 (evFn sm_39 fns FU 4):=by
 intro f' g h args hp k r hg
 dsimp only[ov_39_80]at h
 by_cases h116:f'=116
 ·subst h116
  injection h with h
  subst h
  exact evFn_le 0 (g_39_116_ok _ _ _ _ hg)
 rw[nbeq_ne h116,cond_false]at h
 cases h
noncomputable def g_39_80{R:Type}:List CV->List Blk->(CV->List Blk->Option R)->Option R:=evFnL sm_39 FU (ovr ov_39_80 (evFn sm_39 fns FU 4)) (mkT (fB fns 80) []) (fO fns 80)
theorem g_39_80_ok{R:Type}(args:List CV)(hp:List Blk)(k:CV->List Blk->Option R)(r:R)(h:g_39_80 args hp k=some r):evFn sm_39 fns FU 5 80 args hp k=some r:=runG ov_39_80_ok (os:=[]) trivial h
noncomputable def ov_39_39{R:Type}:Nat->Option (List CV->List Blk->(CV->List Blk->Option R)->Option R):=fun f'=>bif Nat.beq f' 80 then some g_39_80 else none
theorem ov_39_39_ok{R:Type}:OvrOK (R:=R) ov_39_39 (evFn sm_39 fns FU 5):=by
 intro f' g h args hp k r hg
 dsimp only[ov_39_39]at h
 by_cases h80:f'=80
 ·subst h80
  injection h with h
  subst h
  exact evFn_le 0 (g_39_80_ok _ _ _ _ hg)
 rw[nbeq_ne h80,cond_false]at h
 cases h
noncomputable def F_39(a0:(List (Int×(Int×(Int×(Int×(Int×(Int×(Bool×(Int×Unit)))))))))):Option (((List (Int×(Int×(Int×(Int×(Int×(Int×(Bool×(Int×Unit)))))))))×((List (Int×(Int×(Int×(Int×(Int×((List Int)×(Int×Unit))))))))×(Int×(Bool×Unit))))×Int×Unit) :=
 bif decide ((↑(length a0):Int)>64)then some (([],[],0,false,PUnit.unit),5,PUnit.unit)else B_39_116_0_0 (L_39_116_0_0 4611686018427387904 a0 (↑(length a0):Int) 0 (0,false,PUnit.unit)) (fun y7 y8=>bif decide (y7>=0)then some (([],[],0,false,PUnit.unit),1,PUnit.unit)else bif !Sp.dst (List.map (fun y9=>y9.1) a0)then some (([],[],0,false,PUnit.unit),8,PUnit.unit)else gd (room (length a0) 64) (gd ((↑(length a0):Int)==(↑(length a0):Int)&&room (toNat (↑(length a0):Int)) 72) (some ((a0,replicate (toNat (↑(length a0):Int)) Zd0,0,false,PUnit.unit),0,PUnit.unit)))) fun y10=>bif !Sp.dst (List.map (fun y11=>y11.1) a0)then some (([],[],0,false,PUnit.unit),8,PUnit.unit)else gd (room (length a0) 64) (gd ((↑(length a0):Int)==(↑(length a0):Int)&&room (toNat (↑(length a0):Int)) 72) (some ((a0,replicate (toNat (↑(length a0):Int)) Zd0,0,false,PUnit.unit),0,PUnit.unit)))
noncomputable def Sp.p_39(a0:(List (Int×(Int×(Int×(Int×(Int×(Int×(Bool×(Int×Unit)))))))))):Bool:=(F_39 a0).isSome
noncomputable def Sp.v_39(a0:(List (Int×(Int×(Int×(Int×(Int×(Int×(Bool×(Int×Unit)))))))))):((List (Int×(Int×(Int×(Int×(Int×(Int×(Bool×(Int×Unit)))))))))×((List (Int×(Int×(Int×(Int×(Int×((List Int)×(Int×Unit))))))))×(Int×(Bool×Unit))))×Int×Unit:=(F_39 a0).getD (dfH R_39)
noncomputable def s_39:Summ:=ownS A_39 47 [true] Zy39_0 [(.int .i64)] (fun x=>p_39 x.1) (fun x=>v_39 x.1)
theorem pv_39(a0:(List (Int×(Int×(Int×(Int×(Int×(Int×(Bool×(Int×Unit)))))))))){y:((List (Int×(Int×(Int×(Int×(Int×(Int×(Bool×(Int×Unit)))))))))×((List (Int×(Int×(Int×(Int×(Int×((List Int)×(Int×Unit))))))))×(Int×(Bool×Unit))))×Int×Unit}(h:F_39 a0=some y):p_39 a0=true/\v_39 a0=y:=pvG h
theorem run_39(x:HDen A_39)(y:HDen R_39)(h:F_39 x.1=some y):evFn sm_39 fns FU 6 39 (ofH A_39 x) [] (ownK 47 [true] Zy39_0 [(.int .i64)])=some y:=runG ov_39_39_ok (os:=[]) trivial (Eq.trans (by kernel_rfl) h)
end
noncomputable section
abbrev A_98:List Ty:=[(.slice (.pair (.int .i64) (.pair (.slice (.int .u32)) .unit))),(.int .i64),(.slice (.int .u32))]
abbrev R_98:List Ty:=[(.slice (.pair (.int .i64) (.pair (.slice (.int .u32)) .unit)))]
noncomputable def sm_98:Nat->Option Summ:=smL [(57,s_57),(133,s_133)]
noncomputable def T_98_131_0_0:PS:=⟨49,[(0,.kc (.whole 0)),(1,.hv (.int .i64)),(2,.kc (.clo 132 (.pure .unit PUnit.unit))),(8,.hv (.int .i64)),(9,.hv (.int .i64)),(10,.hv (.int .i64))],[.vec 71 (.pair (.int .i64) (.pair (.slice (.int .u32)) .unit))],1⟩
inductive Sp.E_98_131_0_0 where
 |e0 (p0 p1 p2:Int) (p4:List (Int×List Int×Unit))
noncomputable def Sp.B_98_131_0_0{R:Type}(r:Option E_98_131_0_0)(k0:Int->Int->Int->(List (Int×List Int×Unit))->Option R):Option R:=match r with
 |none=>none
 |some (.e0 p0 p1 p2 p4)=>k0 p0 p1 p2 p4
noncomputable def Y_98_131_0_0{R:Type}(k:Ex->St->Option R):E_98_131_0_0->Option R
 | .e0 p0 p1 p2 p4=>k (Ex.exit 0) (sx 49 [(0,CV.whole 0),(1,CV.int i64 p0),(2,CV.clo 132 (CV.pure Ty.unit PUnit.unit)),(8,CV.int i64 p1),(9,CV.int i64 p2)] [Blk.vec 71 (Ty.pair (Ty.int i64) (Ty.pair (Ty.slice (Ty.int u32)) Ty.unit)) p4] 1)
noncomputable def Sp.S_98_131_0_0{R:Type}(K:Int->Int->Int->Int->(List (Int×List Int×Unit))->Option R)(k:E_98_131_0_0->Option R)(p0 p1 p2 p3:Int)(p4:List (Int×List Int×Unit)):Option R:=
 bif decide (p2<p3)then gd (inB (wrap i64 (Int.fdiv (wrap u64 (wrap i64 (p2+p3))) 2)) (length p4)) (gd (decide (toNat (wrap i64 (Int.fdiv (wrap u64 (wrap i64 (p2+p3))) 2))<length p4)&&true) (bif decide (wrap i64 ((getD p4 (toNat (wrap i64 (Int.fdiv (wrap u64 (wrap i64 (p2+p3))) 2))) Zd2).1-p0)<0)then K p0 p1 (wrap i64 (wrap i64 (Int.fdiv (wrap u64 (wrap i64 (p2+p3))) 2)+1)) p3 p4 else K p0 p1 p2 (wrap i64 (Int.fdiv (wrap u64 (wrap i64 (p2+p3))) 2)) p4))else k (E_98_131_0_0.e0 p0 p1 p2 p4)
noncomputable def Sp.L_98_131_0_0:Nat->Int->Int->Int->Int->(List (Int×List Int×Unit))->Option E_98_131_0_0
 |0,_,_,_,_,_=>none
 |m+1,p0,p1,p2,p3,p4=>S_98_131_0_0 (L_98_131_0_0 m) some p0 p1 p2 p3 p4
noncomputable def l_98_131_0_0(m:Nat)(a:T_98_131_0_0.E):Option E_98_131_0_0:=L_98_131_0_0 m a.1 a.2.1 a.2.2.1 a.2.2.2.1 a.2.2.2.2.1
noncomputable def O_98_131_0_0{R:Type}:Orc R:=orL T_98_131_0_0 (l_98_131_0_0 FU) Y_98_131_0_0
theorem OK_98_131_0_0{R:Type}:okF (R:=R) sm_98 3 (nf 131 0) O_98_131_0_0:=lp0 T_98_131_0_0 l_98_131_0_0 (fun R K k a=>S_98_131_0_0 (fun p0 p1 p2 p3 p4=>K (p0,p1,p2,p3,p4,())) k a.1 a.2.1 a.2.2.1 a.2.2.2.1 a.2.2.2.2.1) Y_98_131_0_0 (fun _ _ _=>by kernel_rfl) (fun _ _ _=>by
 unfold S_98_131_0_0
 repeat' first|apply gdN|apply condN|rfl) (ok0 _)
noncomputable def g_98_131{R:Type}:List CV->List Blk->(CV->List Blk->Option R)->Option R:=evFnL sm_98 FU (ovr noO (evFn sm_98 fns FU 3)) (mkT (fB fns 131) [O_98_131_0_0]) (fO fns 131)
theorem g_98_131_ok{R:Type}(args:List CV)(hp:List Blk)(k:CV->List Blk->Option R)(r:R)(h:g_98_131 args hp k=some r):evFn sm_98 fns FU 4 131 args hp k=some r:=runG noO_ok (os:=[O_98_131_0_0]) ⟨OK_98_131_0_0,trivial⟩ h
noncomputable def ov_98_98{R:Type}:Nat->Option (List CV->List Blk->(CV->List Blk->Option R)->Option R):=fun f'=>bif Nat.beq f' 131 then some g_98_131 else none
theorem ov_98_98_ok{R:Type}:OvrOK (R:=R) ov_98_98 (evFn sm_98 fns FU 4):=by
 intro f' g h args hp k r hg
 dsimp only[ov_98_98]at h
 by_cases h131:f'=131
 ·subst h131
  injection h with h
  subst h
  exact evFn_le 0 (g_98_131_ok _ _ _ _ hg)
 rw[nbeq_ne h131,cond_false]at h
 cases h
noncomputable def F_98(a0:(List (Int×((List Int)×Unit))))(a1:Int)(a2:(List Int)):Option ((List (Int×((List Int)×Unit)))×Unit) :=
 B_98_131_0_0 (L_98_131_0_0 4611686018427387904 a1 (↑(length a0):Int) 0 (↑(length a0):Int) a0) fun y4 y5 y6 y7=>bif decide (y6<y5)then gd (inB y6 (length y7)) (gd (decide (toNat y6<length y7)&&true) (gd (room (length a2) 4) (bif wrap i64 ((getD y7 (toNat y6) Zd2).1-y4)==0 then gd (inB y6 (length y7)) (gd (decide (toNat y6<length y7)&&true&&true) (some (List.set y7 (toNat y6) (a1,a2,PUnit.unit),PUnit.unit)))else gd (decide (0<=y6)&&decide (y6<=(↑(length y7):Int))&&room (length y7+1) 32) (some (take (toNat y6) y7++([(a1,a2,PUnit.unit)]++drop (toNat y6) y7),PUnit.unit)))))else gd (room (length a2) 4) (gd (decide (0<=y6)&&decide (y6<=(↑(length y7):Int))&&room (length y7+1) 32) (some (take (toNat y6) y7++([(a1,a2,PUnit.unit)]++drop (toNat y6) y7),PUnit.unit)))
noncomputable def Sp.p_98(a0:(List (Int×((List Int)×Unit))))(a1:Int)(a2:(List Int)):Bool:=(F_98 a0 a1 a2).isSome
noncomputable def Sp.v_98(a0:(List (Int×((List Int)×Unit))))(a1:Int)(a2:(List Int)):(List (Int×((List Int)×Unit)))×Unit:=(F_98 a0 a1 a2).getD (dfH R_98)
noncomputable def s_98:Summ:=ooS 71 (.pair (.int .i64) (.pair (.slice (.int .u32)) .unit)) [(.int .i64),(.slice (.int .u32))] (fun xs x=>p_98 xs x.1 x.2.1) (fun xs x=>(v_98 xs x.1 x.2.1).1)
theorem pv_98(a0:(List (Int×((List Int)×Unit))))(a1:Int)(a2:(List Int)){y:(List (Int×((List Int)×Unit)))×Unit}(h:F_98 a0 a1 a2=some y):p_98 a0 a1 a2=true/\v_98 a0 a1 a2=y:=pvG h
theorem run_98(xs:List (Ty.den (.pair (.int .i64) (.pair (.slice (.int .u32)) .unit))))(x:HDen [(.int .i64),(.slice (.int .u32))])(y:HDen R_98)(h:F_98 xs x.1 x.2.1=some y):evFn sm_98 fns FU 5 98 (.whole 0::ofH [(.int .i64),(.slice (.int .u32))] x) [.vec 71 (.pair (.int .i64) (.pair (.slice (.int .u32)) .unit)) xs] (ownK 71 [] (.slice (.pair (.int .i64) (.pair (.slice (.int .u32)) .unit))) [])=some y:=runG ov_98_98_ok (os:=[]) trivial (Eq.trans (by kernel_rfl) h)
end
noncomputable section
abbrev A_125:List Ty:=[(.slice (.int .u32))]
abbrev R_125:List Ty:=[(.int .i64)]
noncomputable def sm_125:Nat->Option Summ:=smL []
noncomputable def T_125_0:PS:=⟨26,[(3,.hv (.int .i64)),(6,.hv (.slice (.int .u32))),(7,.hv (.int .i64)),(8,.hv (.int .i64))],[],0⟩
inductive Sp.E_125_0 where
 |e0 (p0:Int)
noncomputable def Sp.B_125_0{R:Type}(r:Option E_125_0)(k0:Int->Option R):Option R:=match r with
 |none=>none
 |some (.e0 p0)=>k0 p0
noncomputable def Y_125_0{R:Type}(k:Ex->St->Option R):E_125_0->Option R
 | .e0 p0=>k (Ex.exit 0) (sx 26 [(3,CV.int i64 p0)] [])
noncomputable def Sp.S_125_0{R:Type}(K:Int->List Int->Int->Int->Option R)(k:E_125_0->Option R)(p0:Int)(p1:List Int)(p2 p3:Int):Option R:=
 bif decide (p3<p2)then gd (inB p3 (length p1)) (K (Int.tmod (wrap i64 (wrap i64 (wrap i64 (31*p0)+wrap i64 (Int.fdiv (getD p1 (toNat p3) 0) 65536))+wrap i64 (7*wrap i64 (Sp.andI u32 (getD p1 (toNat p3) 0) 65535)))) 65536) p1 p2 (wrap i64 (p3+1)))else k (E_125_0.e0 p0)
noncomputable def Sp.L_125_0:Nat->Int->List Int->Int->Int->Option E_125_0
 |0,_,_,_,_=>none
 |m+1,p0,p1,p2,p3=>S_125_0 (L_125_0 m) some p0 p1 p2 p3
noncomputable def l_125_0(m:Nat)(a:T_125_0.E):Option E_125_0:=L_125_0 m a.1 a.2.1 a.2.2.1 a.2.2.2.1
noncomputable def O_125_0{R:Type}:Orc R:=orL T_125_0 (l_125_0 FU) Y_125_0
theorem OK_125_0{R:Type}:okF (R:=R) sm_125 0 (nf 125 0) O_125_0:=lp0 T_125_0 l_125_0 (fun R K k a=>S_125_0 (fun p0 p1 p2 p3=>K (p0,p1,p2,p3,())) k a.1 a.2.1 a.2.2.1 a.2.2.2.1) Y_125_0 (fun _ _ _=>by kernel_rfl) (fun _ _ _=>by
 unfold S_125_0
 repeat' first|apply gdN|apply condN|rfl) (ok0 _)
noncomputable def F_125(a0:(List Int)):Option (Int×Unit) :=
 B_125_0 (L_125_0 4611686018427387904 0 a0 (↑(length a0):Int) 0) fun y1=>some (y1,PUnit.unit)
noncomputable def Sp.p_125(a0:(List Int)):Bool:=(F_125 a0).isSome
noncomputable def Sp.v_125(a0:(List Int)):Int×Unit:=(F_125 a0).getD (dfH R_125)
noncomputable def s_125:Summ:=shN A_125 R_125 (fun x=>p_125 x.1) (fun x=>v_125 x.1)
theorem pv_125(a0:(List Int)){y:Int×Unit}(h:F_125 a0=some y):p_125 a0=true/\v_125 a0=y:=pvG h
theorem run_125(x:HDen A_125)(y:HDen R_125)(h:F_125 x.1=some y):rnF sm_125 1 125 A_125 R_125 x y:=runG noO_ok (os:=[O_125_0]) ⟨OK_125_0,trivial⟩ (Eq.trans (by kernel_rfl) h)
end
noncomputable section
abbrev Zt70_0:Type:=(List Int×List Int×Int×Unit)×Int×Int×Unit
abbrev Zt70_1:Type:=Int×Int×Unit
abbrev Zt70_2:Type:=List (Int×List Int×Unit)
abbrev Zy70_3:Ty:=(.pair (.pair (.slice (.int .u32)) (.pair (.slice (.int .i64)) (.pair (.int .i64) .unit))) (.pair (.int .i64) (.pair (.int .i64) .unit)))
abbrev Zy70_4:Ty:=(.pair (.int .i64) (.pair (.slice (.int .u32)) .unit))
abbrev Zy70_5:Ty:=(.pair (.int .i64) (.pair (.int .i64) .unit))
abbrev Zt70_6:Type:=Int×List Int×Unit
abbrev Zy70_7:Ty:=(.pair (.slice (.pair (.int .i64) (.pair (.slice (.int .u32)) .unit))) (.pair (.int .i64) (.pair (.int .i64) .unit)))
abbrev Zt70_8:Type:=Int×(Int×Unit)
abbrev Zt70_9:Type:=(List (Int×((List Int)×Unit)))
abbrev A_70:List Ty:=[(.pair (.pair (.slice (.int .u32)) (.pair (.slice (.int .i64)) (.pair (.int .i64) .unit))) (.pair (.int .i64) (.pair (.int .i64) .unit))),(.int .i64)]
abbrev R_70:List Ty:=[(.pair (.slice (.pair (.int .i64) (.pair (.slice (.int .u32)) .unit))) (.pair (.int .i64) (.pair (.int .i64) .unit)))]
noncomputable def sm_70:Nat->Option Summ:=smL [(98,s_98),(110,s_110),(125,s_125),(141,s_141)]
noncomputable def T_70_142_1_0:PS:=⟨89,[(0,.yl 4 70 (.kc (.pair .junk (.pair .junk (.pair .junk (.pair .junk (.pair .junk (.pair .junk (.pair (.ptr 2 []) (.pair .junk (.pair .junk (.pair .junk (.pair .junk (.pair .junk (.pair .junk (.pair .junk (.pair .junk (.pair .junk (.pair .junk (.pair .junk (.pair .junk (.pair .junk (.pair .junk (.pair .junk (.pair .junk (.pair .junk (.pair .junk (.pair .junk (.pair .junk (.pair .junk (.pair .junk (.pair .junk (.pair .junk (.pair .junk (.pair .junk (.pair .junk (.pair .junk (.pair .junk (.pair .junk (.pair .junk (.pair .junk (.pair .junk (.pair .junk (.pair .junk (.pair .junk (.pure .unit PUnit.unit)))))))))))))))))))))))))))))))))))))))))))))),(1,.kc (.ptr 3 [])),(3,.hv (.int .i64)),(6,.hv (.int .i64)),(7,.kc (.ptr 5 []))],[.mem (.hv Zy70_3),.mem (.pr (.kc (.nil 71 Zy70_4)) (.hv Zy70_5)),.mem (.pr (.kc (.nil 71 Zy70_4)) (.hv Zy70_5)),.mem (.hv (.slice (.int .u32))),.gh 0,.mem (.hv Zy70_4)],5⟩
inductive Sp.E_70_142_1_0 where
 |e0 (p0 p1:Int) (p2:Zt70_0) (p3 p4:Zt70_1) (p5:List Int) (p6:Zt70_6)
 |e1 (p0 p1:Int) (p2:Zt70_0) (p3 p4:Zt70_1) (p5:List Int) (p6:Zt70_6)
noncomputable def Sp.B_70_142_1_0{R:Type}(r:Option E_70_142_1_0)(k0 k1:Int->Int->Zt70_0->Zt70_1->Zt70_1->List Int->Zt70_6->Option R):Option R:=match r with
 |none=>none
 |some (.e0 p0 p1 p2 p3 p4 p5 p6)=>k0 p0 p1 p2 p3 p4 p5 p6
 |some (.e1 p0 p1 p2 p3 p4 p5 p6)=>k1 p0 p1 p2 p3 p4 p5 p6
theorem Bn_70_142_1_0{A R:Type}{r:Option E_70_142_1_0}{f:A->Option R}{k0:Int->Int->Zt70_0->Zt70_1->Zt70_1->List Int->Zt70_6->Option A}{k1:Int->Int->Zt70_0->Zt70_1->Zt70_1->List Int->Zt70_6->Option A}{l0:Int->Int->Zt70_0->Zt70_1->Zt70_1->List Int->Zt70_6->Option R}{l1:Int->Int->Zt70_0->Zt70_1->Zt70_1->List Int->Zt70_6->Option R}(h0:∀p0 p1 p2 p3 p4 p5 p6,(k0 p0 p1 p2 p3 p4 p5 p6).bind f=l0 p0 p1 p2 p3 p4 p5 p6)(h1:∀p0 p1 p2 p3 p4 p5 p6,(k1 p0 p1 p2 p3 p4 p5 p6).bind f=l1 p0 p1 p2 p3 p4 p5 p6):(B_70_142_1_0 r k0 k1).bind f=B_70_142_1_0 r l0 l1:=by
 cases r with
 |none=>rfl
 |some e=>cases e<;>first|apply h0|apply h1
noncomputable def Y_70_142_1_0{R:Type}(k:Ex->St->Option R):E_70_142_1_0->Option R
 | .e0 p0 p1 p2 p3 p4 p5 p6=>k Ex.normal (sx 89 [(0,CV.yld 4 70 (CV.pair CV.junk (CV.pair CV.junk (CV.pair CV.junk (CV.pair CV.junk (CV.pair CV.junk (CV.pair CV.junk (CV.pair (CV.ptr 2 []) (CV.pair CV.junk (CV.pair CV.junk (CV.pair CV.junk (CV.pair CV.junk (CV.pair CV.junk (CV.pair CV.junk (CV.pair CV.junk (CV.pair CV.junk (CV.pair CV.junk (CV.pair CV.junk (CV.pair CV.junk (CV.pair CV.junk (CV.pair CV.junk (CV.pair CV.junk (CV.pair CV.junk (CV.pair CV.junk (CV.pair CV.junk (CV.pair CV.junk (CV.pair CV.junk (CV.pair CV.junk (CV.pair CV.junk (CV.pair CV.junk (CV.pair CV.junk (CV.pair CV.junk (CV.pair CV.junk (CV.pair CV.junk (CV.pair CV.junk (CV.pair CV.junk (CV.pair CV.junk (CV.pair CV.junk (CV.pair CV.junk (CV.pair CV.junk (CV.pair CV.junk (CV.pair CV.junk (CV.pair CV.junk (CV.pair CV.junk (CV.pure Ty.unit PUnit.unit))))))))))))))))))))))))))))))))))))))))))))),(1,CV.ptr 3 []),(3,CV.int i64 (wrap i64 (p0+wrap i64 (p1+2)))),(6,CV.int i64 p1),(7,CV.ptr 5 []),(80,CV.int i64 p0),(81,CV.int i64 p1),(82,CV.int i64 (wrap i64 (p1+2))),(83,CV.int i64 (wrap i64 (p0+wrap i64 (p1+2)))),(84,CV.yld 4 70 (CV.pair CV.junk (CV.pair CV.junk (CV.pair CV.junk (CV.pair CV.junk (CV.pair CV.junk (CV.pair CV.junk (CV.pair (CV.ptr 2 []) (CV.pair CV.junk (CV.pair CV.junk (CV.pair CV.junk (CV.pair CV.junk (CV.pair CV.junk (CV.pair CV.junk (CV.pair CV.junk (CV.pair CV.junk (CV.pair CV.junk (CV.pair CV.junk (CV.pair CV.junk (CV.pair CV.junk (CV.pair CV.junk (CV.pair CV.junk (CV.pair CV.junk (CV.pair CV.junk (CV.pair CV.junk (CV.pair CV.junk (CV.pair CV.junk (CV.pair CV.junk (CV.pair CV.junk (CV.pair CV.junk (CV.pair CV.junk (CV.pair CV.junk (CV.pair CV.junk (CV.pair CV.junk (CV.pair CV.junk (CV.pair CV.junk (CV.pair CV.junk (CV.pair CV.junk (CV.pair CV.junk (CV.pair CV.junk (CV.pair CV.junk (CV.pair CV.junk (CV.pair CV.junk (CV.pair CV.junk (CV.pure Ty.unit PUnit.unit))))))))))))))))))))))))))))))))))))))))))))),(85,CV.int i64 (wrap i64 (p0+wrap i64 (p1+2)))),(86,CV.pure (Ty.pair (Ty.int i64) (Ty.pair (Ty.slice (Ty.int u32)) Ty.unit)) p6),(87,CV.bool true),(88,CV.bool false)] [Blk.mem (CV.pure (Ty.pair (Ty.pair (Ty.slice (Ty.int u32)) (Ty.pair (Ty.slice (Ty.int i64)) (Ty.pair (Ty.int i64) Ty.unit))) (Ty.pair (Ty.int i64) (Ty.pair (Ty.int i64) Ty.unit))) p2),Blk.mem (CV.pair (CV.nil 71 (Ty.pair (Ty.int i64) (Ty.pair (Ty.slice (Ty.int u32)) Ty.unit))) (CV.pure (Ty.pair (Ty.int i64) (Ty.pair (Ty.int i64) Ty.unit)) p3)),Blk.mem (CV.pair (CV.whole 6) (CV.pure (Ty.pair (Ty.int i64) (Ty.pair (Ty.int i64) Ty.unit)) ((wrap i64 (p0+wrap i64 (p1+2)),p4.2):(Zt70_8)))),Blk.mem (CV.pure (Ty.slice (Ty.int u32)) p5),Blk.ghost 0,Blk.mem (CV.pure (Ty.pair (Ty.int i64) (Ty.pair (Ty.slice (Ty.int u32)) Ty.unit)) p6),Blk.vec 71 (Ty.pair (Ty.int i64) (Ty.pair (Ty.slice (Ty.int u32)) Ty.unit)) (((v_98 [] (p6.1) (p6.2.1)).1):Zt70_9)] 5)
 | .e1 p0 p1 p2 p3 p4 p5 p6=>k Ex.normal (sx 89 [(0,CV.yld 4 70 (CV.pair CV.junk (CV.pair CV.junk (CV.pair CV.junk (CV.pair CV.junk (CV.pair CV.junk (CV.pair CV.junk (CV.pair (CV.ptr 2 []) (CV.pair CV.junk (CV.pair CV.junk (CV.pair CV.junk (CV.pair CV.junk (CV.pair CV.junk (CV.pair CV.junk (CV.pair CV.junk (CV.pair CV.junk (CV.pair CV.junk (CV.pair CV.junk (CV.pair CV.junk (CV.pair CV.junk (CV.pair CV.junk (CV.pair CV.junk (CV.pair CV.junk (CV.pair CV.junk (CV.pair CV.junk (CV.pair CV.junk (CV.pair CV.junk (CV.pair CV.junk (CV.pair CV.junk (CV.pair CV.junk (CV.pair CV.junk (CV.pair CV.junk (CV.pair CV.junk (CV.pair CV.junk (CV.pair CV.junk (CV.pair CV.junk (CV.pair CV.junk (CV.pair CV.junk (CV.pair CV.junk (CV.pair CV.junk (CV.pair CV.junk (CV.pair CV.junk (CV.pair CV.junk (CV.pair CV.junk (CV.pure Ty.unit PUnit.unit))))))))))))))))))))))))))))))))))))))))))))),(1,CV.ptr 3 []),(3,CV.int i64 (wrap i64 (p0+wrap i64 (p1+2)))),(6,CV.int i64 p1),(7,CV.ptr 5 []),(80,CV.int i64 p0),(81,CV.int i64 p1),(82,CV.int i64 (wrap i64 (p1+2))),(83,CV.int i64 (wrap i64 (p0+wrap i64 (p1+2)))),(84,CV.yld 4 70 (CV.pair CV.junk (CV.pair CV.junk (CV.pair CV.junk (CV.pair CV.junk (CV.pair CV.junk (CV.pair CV.junk (CV.pair (CV.ptr 2 []) (CV.pair CV.junk (CV.pair CV.junk (CV.pair CV.junk (CV.pair CV.junk (CV.pair CV.junk (CV.pair CV.junk (CV.pair CV.junk (CV.pair CV.junk (CV.pair CV.junk (CV.pair CV.junk (CV.pair CV.junk (CV.pair CV.junk (CV.pair CV.junk (CV.pair CV.junk (CV.pair CV.junk (CV.pair CV.junk (CV.pair CV.junk (CV.pair CV.junk (CV.pair CV.junk (CV.pair CV.junk (CV.pair CV.junk (CV.pair CV.junk (CV.pair CV.junk (CV.pair CV.junk (CV.pair CV.junk (CV.pair CV.junk (CV.pair CV.junk (CV.pair CV.junk (CV.pair CV.junk (CV.pair CV.junk (CV.pair CV.junk (CV.pair CV.junk (CV.pair CV.junk (CV.pair CV.junk (CV.pair CV.junk (CV.pair CV.junk (CV.pure Ty.unit PUnit.unit))))))))))))))))))))))))))))))))))))))))))))),(85,CV.int i64 (wrap i64 (p0+wrap i64 (p1+2)))),(86,CV.pure (Ty.pair (Ty.int i64) (Ty.pair (Ty.slice (Ty.int u32)) Ty.unit)) p6),(87,CV.bool true),(88,CV.bool false)] [Blk.mem (CV.pure (Ty.pair (Ty.pair (Ty.slice (Ty.int u32)) (Ty.pair (Ty.slice (Ty.int i64)) (Ty.pair (Ty.int i64) Ty.unit))) (Ty.pair (Ty.int i64) (Ty.pair (Ty.int i64) Ty.unit))) p2),Blk.mem (CV.pair (CV.nil 71 (Ty.pair (Ty.int i64) (Ty.pair (Ty.slice (Ty.int u32)) Ty.unit))) (CV.pure (Ty.pair (Ty.int i64) (Ty.pair (Ty.int i64) Ty.unit)) p3)),Blk.mem (CV.pair (CV.nil 71 (Ty.pair (Ty.int i64) (Ty.pair (Ty.slice (Ty.int u32)) Ty.unit))) (CV.pure (Ty.pair (Ty.int i64) (Ty.pair (Ty.int i64) Ty.unit)) ((wrap i64 (p0+wrap i64 (p1+2)),p4.2):(Zt70_8)))),Blk.mem (CV.pure (Ty.slice (Ty.int u32)) p5),Blk.ghost 0,Blk.mem (CV.pure (Ty.pair (Ty.int i64) (Ty.pair (Ty.slice (Ty.int u32)) Ty.unit)) p6)] 5)
noncomputable def Sp.S_70_142_1_0{R:Type}(k:E_70_142_1_0->Option R)(p0 p1:Int)(p2:(List Int×List Int×Int×Unit)×Int×Int×Unit)(p3 p4:Int×Int×Unit)(p5:List Int)(p6:Int×List Int×Unit):Option R:=
 bif decide (p6.1>=0)then gd (p_98 [] (p6.1) (p6.2.1)) (k (E_70_142_1_0.e0 p0 p1 p2 p3 p4 p5 p6))else k (E_70_142_1_0.e1 p0 p1 p2 p3 p4 p5 p6)
noncomputable def Sp.J_70_142_1_0(p0 p1:Int)(p2:(List Int×List Int×Int×Unit)×Int×Int×Unit)(p3 p4:Int×Int×Unit)(p5:List Int)(p6:Int×List Int×Unit):Option E_70_142_1_0:=S_70_142_1_0 some p0 p1 p2 p3 p4 p5 p6
noncomputable def O_70_142_1_0{R:Type}:Orc R:=orL T_70_142_1_0 (fun a=>J_70_142_1_0 a.1 a.2.1 a.2.2.1 a.2.2.2.1 a.2.2.2.2.1 a.2.2.2.2.2.1 a.2.2.2.2.2.2.1) Y_70_142_1_0
theorem OK_70_142_1_0{R:Type}:okF (R:=R) sm_70 3 (ni (nf 142 0) 0) O_70_142_1_0:=jp noO_ok (os:=[]) trivial T_70_142_1_0 (fun R k a=>S_70_142_1_0 k a.1 a.2.1 a.2.2.1 a.2.2.2.1 a.2.2.2.2.1 a.2.2.2.2.2.1 a.2.2.2.2.2.2.1) Y_70_142_1_0 (fun k a=>by kernel_rfl) (fun Y a=>by
 unfold S_70_142_1_0
 repeat' first|apply gdN|apply condN|rfl) (ok0 _)
noncomputable def T_70_142_1_1:PS:=⟨89,[(0,.yl 4 70 (.kc (.pair .junk (.pair .junk (.pair .junk (.pair .junk (.pair .junk (.pair .junk (.pair (.ptr 2 []) (.pair .junk (.pair .junk (.pair .junk (.pair .junk (.pair .junk (.pair .junk (.pair .junk (.pair .junk (.pair .junk (.pair .junk (.pair .junk (.pair .junk (.pair .junk (.pair .junk (.pair .junk (.pair .junk (.pair .junk (.pair .junk (.pair .junk (.pair .junk (.pair .junk (.pair .junk (.pair .junk (.pair .junk (.pair .junk (.pair .junk (.pair .junk (.pair .junk (.pair .junk (.pair .junk (.pair .junk (.pair .junk (.pair .junk (.pair .junk (.pair .junk (.pair .junk (.pure .unit PUnit.unit)))))))))))))))))))))))))))))))))))))))))))))),(1,.kc (.ptr 3 [])),(3,.hv (.int .i64)),(6,.hv (.int .i64)),(7,.kc (.ptr 5 []))],[.mem (.hv Zy70_3),.mem (.pr (.kc (.nil 71 Zy70_4)) (.hv Zy70_5)),.mem (.pr (.kc (.nil 71 Zy70_4)) (.hv Zy70_5)),.mem (.hv (.slice (.int .u32))),.gh 0,.mem (.pr (.hv (.int .i64)) (.kc (.pair (.whole 6) (.pure .unit PUnit.unit)))),.vec 51 (.int .u32)],5⟩
inductive Sp.E_70_142_1_1 where
 |e0 (p0 p1:Int) (p2:Zt70_0) (p3 p4:Zt70_1) (p5:List Int) (p6:Int) (p7:List Int)
 |e1 (p0 p1:Int) (p2:Zt70_0) (p3 p4:Zt70_1) (p5:List Int) (p6:Int) (p7:List Int)
noncomputable def Sp.B_70_142_1_1{R:Type}(r:Option E_70_142_1_1)(k0 k1:Int->Int->Zt70_0->Zt70_1->Zt70_1->List Int->Int->List Int->Option R):Option R:=match r with
 |none=>none
 |some (.e0 p0 p1 p2 p3 p4 p5 p6 p7)=>k0 p0 p1 p2 p3 p4 p5 p6 p7
 |some (.e1 p0 p1 p2 p3 p4 p5 p6 p7)=>k1 p0 p1 p2 p3 p4 p5 p6 p7
theorem Bn_70_142_1_1{A R:Type}{r:Option E_70_142_1_1}{f:A->Option R}{k0:Int->Int->Zt70_0->Zt70_1->Zt70_1->List Int->Int->List Int->Option A}{k1:Int->Int->Zt70_0->Zt70_1->Zt70_1->List Int->Int->List Int->Option A}{l0:Int->Int->Zt70_0->Zt70_1->Zt70_1->List Int->Int->List Int->Option R}{l1:Int->Int->Zt70_0->Zt70_1->Zt70_1->List Int->Int->List Int->Option R}(h0:∀p0 p1 p2 p3 p4 p5 p6 p7,(k0 p0 p1 p2 p3 p4 p5 p6 p7).bind f=l0 p0 p1 p2 p3 p4 p5 p6 p7)(h1:∀p0 p1 p2 p3 p4 p5 p6 p7,(k1 p0 p1 p2 p3 p4 p5 p6 p7).bind f=l1 p0 p1 p2 p3 p4 p5 p6 p7):(B_70_142_1_1 r k0 k1).bind f=B_70_142_1_1 r l0 l1:=by
 cases r with
 |none=>rfl
 |some e=>cases e<;>first|apply h0|apply h1
noncomputable def Y_70_142_1_1{R:Type}(k:Ex->St->Option R):E_70_142_1_1->Option R
 | .e0 p0 p1 p2 p3 p4 p5 p6 p7=>k Ex.normal (sx 89 [(0,CV.yld 4 70 (CV.pair CV.junk (CV.pair CV.junk (CV.pair CV.junk (CV.pair CV.junk (CV.pair CV.junk (CV.pair CV.junk (CV.pair (CV.ptr 2 []) (CV.pair CV.junk (CV.pair CV.junk (CV.pair CV.junk (CV.pair CV.junk (CV.pair CV.junk (CV.pair CV.junk (CV.pair CV.junk (CV.pair CV.junk (CV.pair CV.junk (CV.pair CV.junk (CV.pair CV.junk (CV.pair CV.junk (CV.pair CV.junk (CV.pair CV.junk (CV.pair CV.junk (CV.pair CV.junk (CV.pair CV.junk (CV.pair CV.junk (CV.pair CV.junk (CV.pair CV.junk (CV.pair CV.junk (CV.pair CV.junk (CV.pair CV.junk (CV.pair CV.junk (CV.pair CV.junk (CV.pair CV.junk (CV.pair CV.junk (CV.pair CV.junk (CV.pair CV.junk (CV.pair CV.junk (CV.pair CV.junk (CV.pair CV.junk (CV.pair CV.junk (CV.pair CV.junk (CV.pair CV.junk (CV.pair CV.junk (CV.pure Ty.unit PUnit.unit))))))))))))))))))))))))))))))))))))))))))))),(1,CV.ptr 3 []),(3,CV.int i64 (wrap i64 (p0+wrap i64 (p1+2)))),(6,CV.int i64 p1),(7,CV.ptr 5 []),(80,CV.int i64 p0),(81,CV.int i64 p1),(82,CV.int i64 (wrap i64 (p1+2))),(83,CV.int i64 (wrap i64 (p0+wrap i64 (p1+2)))),(84,CV.yld 4 70 (CV.pair CV.junk (CV.pair CV.junk (CV.pair CV.junk (CV.pair CV.junk (CV.pair CV.junk (CV.pair CV.junk (CV.pair (CV.ptr 2 []) (CV.pair CV.junk (CV.pair CV.junk (CV.pair CV.junk (CV.pair CV.junk (CV.pair CV.junk (CV.pair CV.junk (CV.pair CV.junk (CV.pair CV.junk (CV.pair CV.junk (CV.pair CV.junk (CV.pair CV.junk (CV.pair CV.junk (CV.pair CV.junk (CV.pair CV.junk (CV.pair CV.junk (CV.pair CV.junk (CV.pair CV.junk (CV.pair CV.junk (CV.pair CV.junk (CV.pair CV.junk (CV.pair CV.junk (CV.pair CV.junk (CV.pair CV.junk (CV.pair CV.junk (CV.pair CV.junk (CV.pair CV.junk (CV.pair CV.junk (CV.pair CV.junk (CV.pair CV.junk (CV.pair CV.junk (CV.pair CV.junk (CV.pair CV.junk (CV.pair CV.junk (CV.pair CV.junk (CV.pair CV.junk (CV.pair CV.junk (CV.pure Ty.unit PUnit.unit))))))))))))))))))))))))))))))))))))))))))))),(85,CV.int i64 (wrap i64 (p0+wrap i64 (p1+2)))),(86,CV.pair (CV.int i64 p6) (CV.pair (CV.whole 6) (CV.pure Ty.unit PUnit.unit))),(87,CV.bool true),(88,CV.bool false)] [Blk.mem (CV.pure (Ty.pair (Ty.pair (Ty.slice (Ty.int u32)) (Ty.pair (Ty.slice (Ty.int i64)) (Ty.pair (Ty.int i64) Ty.unit))) (Ty.pair (Ty.int i64) (Ty.pair (Ty.int i64) Ty.unit))) p2),Blk.mem (CV.pair (CV.nil 71 (Ty.pair (Ty.int i64) (Ty.pair (Ty.slice (Ty.int u32)) Ty.unit))) (CV.pure (Ty.pair (Ty.int i64) (Ty.pair (Ty.int i64) Ty.unit)) p3)),Blk.mem (CV.pair (CV.whole 7) (CV.pure (Ty.pair (Ty.int i64) (Ty.pair (Ty.int i64) Ty.unit)) ((wrap i64 (p0+wrap i64 (p1+2)),p4.2):(Zt70_8)))),Blk.mem (CV.pure (Ty.slice (Ty.int u32)) p5),Blk.ghost 0,Blk.mem (CV.pair (CV.int i64 p6) (CV.pair (CV.whole 6) (CV.pure Ty.unit PUnit.unit))),Blk.fvec 51 (Ty.int u32) p7,Blk.vec 71 (Ty.pair (Ty.int i64) (Ty.pair (Ty.slice (Ty.int u32)) Ty.unit)) (((v_98 [] p6 p7).1):Zt70_9)] 5)
 | .e1 p0 p1 p2 p3 p4 p5 p6 p7=>k Ex.normal (sx 89 [(0,CV.yld 4 70 (CV.pair CV.junk (CV.pair CV.junk (CV.pair CV.junk (CV.pair CV.junk (CV.pair CV.junk (CV.pair CV.junk (CV.pair (CV.ptr 2 []) (CV.pair CV.junk (CV.pair CV.junk (CV.pair CV.junk (CV.pair CV.junk (CV.pair CV.junk (CV.pair CV.junk (CV.pair CV.junk (CV.pair CV.junk (CV.pair CV.junk (CV.pair CV.junk (CV.pair CV.junk (CV.pair CV.junk (CV.pair CV.junk (CV.pair CV.junk (CV.pair CV.junk (CV.pair CV.junk (CV.pair CV.junk (CV.pair CV.junk (CV.pair CV.junk (CV.pair CV.junk (CV.pair CV.junk (CV.pair CV.junk (CV.pair CV.junk (CV.pair CV.junk (CV.pair CV.junk (CV.pair CV.junk (CV.pair CV.junk (CV.pair CV.junk (CV.pair CV.junk (CV.pair CV.junk (CV.pair CV.junk (CV.pair CV.junk (CV.pair CV.junk (CV.pair CV.junk (CV.pair CV.junk (CV.pair CV.junk (CV.pure Ty.unit PUnit.unit))))))))))))))))))))))))))))))))))))))))))))),(1,CV.ptr 3 []),(3,CV.int i64 (wrap i64 (p0+wrap i64 (p1+2)))),(6,CV.int i64 p1),(7,CV.ptr 5 []),(80,CV.int i64 p0),(81,CV.int i64 p1),(82,CV.int i64 (wrap i64 (p1+2))),(83,CV.int i64 (wrap i64 (p0+wrap i64 (p1+2)))),(84,CV.yld 4 70 (CV.pair CV.junk (CV.pair CV.junk (CV.pair CV.junk (CV.pair CV.junk (CV.pair CV.junk (CV.pair CV.junk (CV.pair (CV.ptr 2 []) (CV.pair CV.junk (CV.pair CV.junk (CV.pair CV.junk (CV.pair CV.junk (CV.pair CV.junk (CV.pair CV.junk (CV.pair CV.junk (CV.pair CV.junk (CV.pair CV.junk (CV.pair CV.junk (CV.pair CV.junk (CV.pair CV.junk (CV.pair CV.junk (CV.pair CV.junk (CV.pair CV.junk (CV.pair CV.junk (CV.pair CV.junk (CV.pair CV.junk (CV.pair CV.junk (CV.pair CV.junk (CV.pair CV.junk (CV.pair CV.junk (CV.pair CV.junk (CV.pair CV.junk (CV.pair CV.junk (CV.pair CV.junk (CV.pair CV.junk (CV.pair CV.junk (CV.pair CV.junk (CV.pair CV.junk (CV.pair CV.junk (CV.pair CV.junk (CV.pair CV.junk (CV.pair CV.junk (CV.pair CV.junk (CV.pair CV.junk (CV.pure Ty.unit PUnit.unit))))))))))))))))))))))))))))))))))))))))))))),(85,CV.int i64 (wrap i64 (p0+wrap i64 (p1+2)))),(86,CV.pair (CV.int i64 p6) (CV.pair (CV.whole 6) (CV.pure Ty.unit PUnit.unit))),(87,CV.bool true),(88,CV.bool false)] [Blk.mem (CV.pure (Ty.pair (Ty.pair (Ty.slice (Ty.int u32)) (Ty.pair (Ty.slice (Ty.int i64)) (Ty.pair (Ty.int i64) Ty.unit))) (Ty.pair (Ty.int i64) (Ty.pair (Ty.int i64) Ty.unit))) p2),Blk.mem (CV.pair (CV.nil 71 (Ty.pair (Ty.int i64) (Ty.pair (Ty.slice (Ty.int u32)) Ty.unit))) (CV.pure (Ty.pair (Ty.int i64) (Ty.pair (Ty.int i64) Ty.unit)) p3)),Blk.mem (CV.pair (CV.nil 71 (Ty.pair (Ty.int i64) (Ty.pair (Ty.slice (Ty.int u32)) Ty.unit))) (CV.pure (Ty.pair (Ty.int i64) (Ty.pair (Ty.int i64) Ty.unit)) ((wrap i64 (p0+wrap i64 (p1+2)),p4.2):(Zt70_8)))),Blk.mem (CV.pure (Ty.slice (Ty.int u32)) p5),Blk.ghost 0,Blk.mem (CV.pair (CV.int i64 p6) (CV.pair (CV.whole 6) (CV.pure Ty.unit PUnit.unit))),Blk.vec 51 (Ty.int u32) p7] 5)
noncomputable def Sp.S_70_142_1_1{R:Type}(k:E_70_142_1_1->Option R)(p0 p1:Int)(p2:(List Int×List Int×Int×Unit)×Int×Int×Unit)(p3 p4:Int×Int×Unit)(p5:List Int)(p6:Int)(p7:List Int):Option R:=
 bif decide (p6>=0)then gd (p_98 [] p6 p7) (k (E_70_142_1_1.e0 p0 p1 p2 p3 p4 p5 p6 p7))else k (E_70_142_1_1.e1 p0 p1 p2 p3 p4 p5 p6 p7)
noncomputable def Sp.J_70_142_1_1(p0 p1:Int)(p2:(List Int×List Int×Int×Unit)×Int×Int×Unit)(p3 p4:Int×Int×Unit)(p5:List Int)(p6:Int)(p7:List Int):Option E_70_142_1_1:=S_70_142_1_1 some p0 p1 p2 p3 p4 p5 p6 p7
noncomputable def O_70_142_1_1{R:Type}:Orc R:=orL T_70_142_1_1 (fun a=>J_70_142_1_1 a.1 a.2.1 a.2.2.1 a.2.2.2.1 a.2.2.2.2.1 a.2.2.2.2.2.1 a.2.2.2.2.2.2.1 a.2.2.2.2.2.2.2.1) Y_70_142_1_1 O_70_142_1_0
theorem OK_70_142_1_1{R:Type}:okF (R:=R) sm_70 3 (ni (nf 142 0) 0) O_70_142_1_1:=jp noO_ok (os:=[]) trivial T_70_142_1_1 (fun R k a=>S_70_142_1_1 k a.1 a.2.1 a.2.2.1 a.2.2.2.1 a.2.2.2.2.1 a.2.2.2.2.2.1 a.2.2.2.2.2.2.1 a.2.2.2.2.2.2.2.1) Y_70_142_1_1 (fun k a=>by kernel_rfl) (fun Y a=>by
 unfold S_70_142_1_1
 repeat' first|apply gdN|apply condN|rfl) OK_70_142_1_0
noncomputable def T_70_142_1_2:PS:=⟨89,[(0,.yl 4 70 (.kc (.pair .junk (.pair .junk (.pair .junk (.pair .junk (.pair .junk (.pair .junk (.pair (.ptr 2 []) (.pair .junk (.pair .junk (.pair .junk (.pair .junk (.pair .junk (.pair .junk (.pair .junk (.pair .junk (.pair .junk (.pair .junk (.pair .junk (.pair .junk (.pair .junk (.pair .junk (.pair .junk (.pair .junk (.pair .junk (.pair .junk (.pair .junk (.pair .junk (.pair .junk (.pair .junk (.pair .junk (.pair .junk (.pair .junk (.pair .junk (.pair .junk (.pair .junk (.pair .junk (.pair .junk (.pair .junk (.pair .junk (.pair .junk (.pair .junk (.pair .junk (.pair .junk (.pure .unit PUnit.unit)))))))))))))))))))))))))))))))))))))))))))))),(1,.kc (.ptr 3 [])),(3,.hv (.int .i64)),(6,.hv (.int .i64)),(7,.kc (.ptr 5 []))],[.mem (.hv Zy70_3),.mem (.pr (.kc (.nil 71 Zy70_4)) (.hv Zy70_5)),.mem (.pr (.kc (.whole 6)) (.hv Zy70_5)),.mem (.hv (.slice (.int .u32))),.gh 0,.mem (.hv Zy70_4),.vec 71 Zy70_4],5⟩
inductive Sp.E_70_142_1_2 where
 |e0 (p0 p1:Int) (p2:Zt70_0) (p3 p4:Zt70_1) (p5:List Int) (p6:Zt70_6) (p7:Zt70_2)
 |e1 (p0 p1:Int) (p2:Zt70_0) (p3 p4:Zt70_1) (p5:List Int) (p6:Zt70_6) (p7:Zt70_2)
noncomputable def Sp.B_70_142_1_2{R:Type}(r:Option E_70_142_1_2)(k0 k1:Int->Int->Zt70_0->Zt70_1->Zt70_1->List Int->Zt70_6->Zt70_2->Option R):Option R:=match r with
 |none=>none
 |some (.e0 p0 p1 p2 p3 p4 p5 p6 p7)=>k0 p0 p1 p2 p3 p4 p5 p6 p7
 |some (.e1 p0 p1 p2 p3 p4 p5 p6 p7)=>k1 p0 p1 p2 p3 p4 p5 p6 p7
theorem Bn_70_142_1_2{A R:Type}{r:Option E_70_142_1_2}{f:A->Option R}{k0:Int->Int->Zt70_0->Zt70_1->Zt70_1->List Int->Zt70_6->Zt70_2->Option A}{k1:Int->Int->Zt70_0->Zt70_1->Zt70_1->List Int->Zt70_6->Zt70_2->Option A}{l0:Int->Int->Zt70_0->Zt70_1->Zt70_1->List Int->Zt70_6->Zt70_2->Option R}{l1:Int->Int->Zt70_0->Zt70_1->Zt70_1->List Int->Zt70_6->Zt70_2->Option R}(h0:∀p0 p1 p2 p3 p4 p5 p6 p7,(k0 p0 p1 p2 p3 p4 p5 p6 p7).bind f=l0 p0 p1 p2 p3 p4 p5 p6 p7)(h1:∀p0 p1 p2 p3 p4 p5 p6 p7,(k1 p0 p1 p2 p3 p4 p5 p6 p7).bind f=l1 p0 p1 p2 p3 p4 p5 p6 p7):(B_70_142_1_2 r k0 k1).bind f=B_70_142_1_2 r l0 l1:=by
 cases r with
 |none=>rfl
 |some e=>cases e<;>first|apply h0|apply h1
noncomputable def Y_70_142_1_2{R:Type}(k:Ex->St->Option R):E_70_142_1_2->Option R
 | .e0 p0 p1 p2 p3 p4 p5 p6 p7=>k Ex.normal (sx 89 [(0,CV.yld 4 70 (CV.pair CV.junk (CV.pair CV.junk (CV.pair CV.junk (CV.pair CV.junk (CV.pair CV.junk (CV.pair CV.junk (CV.pair (CV.ptr 2 []) (CV.pair CV.junk (CV.pair CV.junk (CV.pair CV.junk (CV.pair CV.junk (CV.pair CV.junk (CV.pair CV.junk (CV.pair CV.junk (CV.pair CV.junk (CV.pair CV.junk (CV.pair CV.junk (CV.pair CV.junk (CV.pair CV.junk (CV.pair CV.junk (CV.pair CV.junk (CV.pair CV.junk (CV.pair CV.junk (CV.pair CV.junk (CV.pair CV.junk (CV.pair CV.junk (CV.pair CV.junk (CV.pair CV.junk (CV.pair CV.junk (CV.pair CV.junk (CV.pair CV.junk (CV.pair CV.junk (CV.pair CV.junk (CV.pair CV.junk (CV.pair CV.junk (CV.pair CV.junk (CV.pair CV.junk (CV.pair CV.junk (CV.pair CV.junk (CV.pair CV.junk (CV.pair CV.junk (CV.pair CV.junk (CV.pair CV.junk (CV.pure Ty.unit PUnit.unit))))))))))))))))))))))))))))))))))))))))))))),(1,CV.ptr 3 []),(3,CV.int i64 (wrap i64 (p0+wrap i64 (p1+2)))),(6,CV.int i64 p1),(7,CV.ptr 5 []),(80,CV.int i64 p0),(81,CV.int i64 p1),(82,CV.int i64 (wrap i64 (p1+2))),(83,CV.int i64 (wrap i64 (p0+wrap i64 (p1+2)))),(84,CV.yld 4 70 (CV.pair CV.junk (CV.pair CV.junk (CV.pair CV.junk (CV.pair CV.junk (CV.pair CV.junk (CV.pair CV.junk (CV.pair (CV.ptr 2 []) (CV.pair CV.junk (CV.pair CV.junk (CV.pair CV.junk (CV.pair CV.junk (CV.pair CV.junk (CV.pair CV.junk (CV.pair CV.junk (CV.pair CV.junk (CV.pair CV.junk (CV.pair CV.junk (CV.pair CV.junk (CV.pair CV.junk (CV.pair CV.junk (CV.pair CV.junk (CV.pair CV.junk (CV.pair CV.junk (CV.pair CV.junk (CV.pair CV.junk (CV.pair CV.junk (CV.pair CV.junk (CV.pair CV.junk (CV.pair CV.junk (CV.pair CV.junk (CV.pair CV.junk (CV.pair CV.junk (CV.pair CV.junk (CV.pair CV.junk (CV.pair CV.junk (CV.pair CV.junk (CV.pair CV.junk (CV.pair CV.junk (CV.pair CV.junk (CV.pair CV.junk (CV.pair CV.junk (CV.pair CV.junk (CV.pair CV.junk (CV.pure Ty.unit PUnit.unit))))))))))))))))))))))))))))))))))))))))))))),(85,CV.int i64 (wrap i64 (p0+wrap i64 (p1+2)))),(86,CV.pure (Ty.pair (Ty.int i64) (Ty.pair (Ty.slice (Ty.int u32)) Ty.unit)) p6),(87,CV.bool true),(88,CV.bool false)] [Blk.mem (CV.pure (Ty.pair (Ty.pair (Ty.slice (Ty.int u32)) (Ty.pair (Ty.slice (Ty.int i64)) (Ty.pair (Ty.int i64) Ty.unit))) (Ty.pair (Ty.int i64) (Ty.pair (Ty.int i64) Ty.unit))) p2),Blk.mem (CV.pair (CV.nil 71 (Ty.pair (Ty.int i64) (Ty.pair (Ty.slice (Ty.int u32)) Ty.unit))) (CV.pure (Ty.pair (Ty.int i64) (Ty.pair (Ty.int i64) Ty.unit)) p3)),Blk.mem (CV.pair (CV.whole 7) (CV.pure (Ty.pair (Ty.int i64) (Ty.pair (Ty.int i64) Ty.unit)) ((wrap i64 (p0+wrap i64 (p1+2)),p4.2):(Zt70_8)))),Blk.mem (CV.pure (Ty.slice (Ty.int u32)) p5),Blk.ghost 0,Blk.mem (CV.pure (Ty.pair (Ty.int i64) (Ty.pair (Ty.slice (Ty.int u32)) Ty.unit)) p6),Blk.dead,Blk.vec 71 (Ty.pair (Ty.int i64) (Ty.pair (Ty.slice (Ty.int u32)) Ty.unit)) (((v_98 p7 (p6.1) (p6.2.1)).1):Zt70_9)] 5)
 | .e1 p0 p1 p2 p3 p4 p5 p6 p7=>k Ex.normal (sx 89 [(0,CV.yld 4 70 (CV.pair CV.junk (CV.pair CV.junk (CV.pair CV.junk (CV.pair CV.junk (CV.pair CV.junk (CV.pair CV.junk (CV.pair (CV.ptr 2 []) (CV.pair CV.junk (CV.pair CV.junk (CV.pair CV.junk (CV.pair CV.junk (CV.pair CV.junk (CV.pair CV.junk (CV.pair CV.junk (CV.pair CV.junk (CV.pair CV.junk (CV.pair CV.junk (CV.pair CV.junk (CV.pair CV.junk (CV.pair CV.junk (CV.pair CV.junk (CV.pair CV.junk (CV.pair CV.junk (CV.pair CV.junk (CV.pair CV.junk (CV.pair CV.junk (CV.pair CV.junk (CV.pair CV.junk (CV.pair CV.junk (CV.pair CV.junk (CV.pair CV.junk (CV.pair CV.junk (CV.pair CV.junk (CV.pair CV.junk (CV.pair CV.junk (CV.pair CV.junk (CV.pair CV.junk (CV.pair CV.junk (CV.pair CV.junk (CV.pair CV.junk (CV.pair CV.junk (CV.pair CV.junk (CV.pair CV.junk (CV.pure Ty.unit PUnit.unit))))))))))))))))))))))))))))))))))))))))))))),(1,CV.ptr 3 []),(3,CV.int i64 (wrap i64 (p0+wrap i64 (p1+2)))),(6,CV.int i64 p1),(7,CV.ptr 5 []),(80,CV.int i64 p0),(81,CV.int i64 p1),(82,CV.int i64 (wrap i64 (p1+2))),(83,CV.int i64 (wrap i64 (p0+wrap i64 (p1+2)))),(84,CV.yld 4 70 (CV.pair CV.junk (CV.pair CV.junk (CV.pair CV.junk (CV.pair CV.junk (CV.pair CV.junk (CV.pair CV.junk (CV.pair (CV.ptr 2 []) (CV.pair CV.junk (CV.pair CV.junk (CV.pair CV.junk (CV.pair CV.junk (CV.pair CV.junk (CV.pair CV.junk (CV.pair CV.junk (CV.pair CV.junk (CV.pair CV.junk (CV.pair CV.junk (CV.pair CV.junk (CV.pair CV.junk (CV.pair CV.junk (CV.pair CV.junk (CV.pair CV.junk (CV.pair CV.junk (CV.pair CV.junk (CV.pair CV.junk (CV.pair CV.junk (CV.pair CV.junk (CV.pair CV.junk (CV.pair CV.junk (CV.pair CV.junk (CV.pair CV.junk (CV.pair CV.junk (CV.pair CV.junk (CV.pair CV.junk (CV.pair CV.junk (CV.pair CV.junk (CV.pair CV.junk (CV.pair CV.junk (CV.pair CV.junk (CV.pair CV.junk (CV.pair CV.junk (CV.pair CV.junk (CV.pair CV.junk (CV.pure Ty.unit PUnit.unit))))))))))))))))))))))))))))))))))))))))))))),(85,CV.int i64 (wrap i64 (p0+wrap i64 (p1+2)))),(86,CV.pure (Ty.pair (Ty.int i64) (Ty.pair (Ty.slice (Ty.int u32)) Ty.unit)) p6),(87,CV.bool true),(88,CV.bool false)] [Blk.mem (CV.pure (Ty.pair (Ty.pair (Ty.slice (Ty.int u32)) (Ty.pair (Ty.slice (Ty.int i64)) (Ty.pair (Ty.int i64) Ty.unit))) (Ty.pair (Ty.int i64) (Ty.pair (Ty.int i64) Ty.unit))) p2),Blk.mem (CV.pair (CV.nil 71 (Ty.pair (Ty.int i64) (Ty.pair (Ty.slice (Ty.int u32)) Ty.unit))) (CV.pure (Ty.pair (Ty.int i64) (Ty.pair (Ty.int i64) Ty.unit)) p3)),Blk.mem (CV.pair (CV.whole 6) (CV.pure (Ty.pair (Ty.int i64) (Ty.pair (Ty.int i64) Ty.unit)) ((wrap i64 (p0+wrap i64 (p1+2)),p4.2):(Zt70_8)))),Blk.mem (CV.pure (Ty.slice (Ty.int u32)) p5),Blk.ghost 0,Blk.mem (CV.pure (Ty.pair (Ty.int i64) (Ty.pair (Ty.slice (Ty.int u32)) Ty.unit)) p6),Blk.vec 71 (Ty.pair (Ty.int i64) (Ty.pair (Ty.slice (Ty.int u32)) Ty.unit)) p7] 5)
noncomputable def Sp.S_70_142_1_2{R:Type}(k:E_70_142_1_2->Option R)(p0 p1:Int)(p2:(List Int×List Int×Int×Unit)×Int×Int×Unit)(p3 p4:Int×Int×Unit)(p5:List Int)(p6:Int×List Int×Unit)(p7:List (Int×List Int×Unit)):Option R:=
 bif decide (p6.1>=0)then gd (p_98 p7 (p6.1) (p6.2.1)) (k (E_70_142_1_2.e0 p0 p1 p2 p3 p4 p5 p6 p7))else k (E_70_142_1_2.e1 p0 p1 p2 p3 p4 p5 p6 p7)
noncomputable def Sp.J_70_142_1_2(p0 p1:Int)(p2:(List Int×List Int×Int×Unit)×Int×Int×Unit)(p3 p4:Int×Int×Unit)(p5:List Int)(p6:Int×List Int×Unit)(p7:List (Int×List Int×Unit)):Option E_70_142_1_2:=S_70_142_1_2 some p0 p1 p2 p3 p4 p5 p6 p7
noncomputable def O_70_142_1_2{R:Type}:Orc R:=orL T_70_142_1_2 (fun a=>J_70_142_1_2 a.1 a.2.1 a.2.2.1 a.2.2.2.1 a.2.2.2.2.1 a.2.2.2.2.2.1 a.2.2.2.2.2.2.1 a.2.2.2.2.2.2.2.1) Y_70_142_1_2 O_70_142_1_1
theorem OK_70_142_1_2{R:Type}:okF (R:=R) sm_70 3 (ni (nf 142 0) 0) O_70_142_1_2:=jp noO_ok (os:=[]) trivial T_70_142_1_2 (fun R k a=>S_70_142_1_2 k a.1 a.2.1 a.2.2.1 a.2.2.2.1 a.2.2.2.2.1 a.2.2.2.2.2.1 a.2.2.2.2.2.2.1 a.2.2.2.2.2.2.2.1) Y_70_142_1_2 (fun k a=>by kernel_rfl) (fun Y a=>by
 unfold S_70_142_1_2
 repeat' first|apply gdN|apply condN|rfl) OK_70_142_1_1
noncomputable def T_70_142_1_3:PS:=⟨89,[(0,.yl 4 70 (.kc (.pair .junk (.pair .junk (.pair .junk (.pair .junk (.pair .junk (.pair .junk (.pair (.ptr 2 []) (.pair .junk (.pair .junk (.pair .junk (.pair .junk (.pair .junk (.pair .junk (.pair .junk (.pair .junk (.pair .junk (.pair .junk (.pair .junk (.pair .junk (.pair .junk (.pair .junk (.pair .junk (.pair .junk (.pair .junk (.pair .junk (.pair .junk (.pair .junk (.pair .junk (.pair .junk (.pair .junk (.pair .junk (.pair .junk (.pair .junk (.pair .junk (.pair .junk (.pair .junk (.pair .junk (.pair .junk (.pair .junk (.pair .junk (.pair .junk (.pair .junk (.pair .junk (.pure .unit PUnit.unit)))))))))))))))))))))))))))))))))))))))))))))),(1,.kc (.ptr 3 [])),(3,.hv (.int .i64)),(6,.hv (.int .i64)),(7,.kc (.ptr 5 []))],[.mem (.hv Zy70_3),.mem (.pr (.kc (.nil 71 Zy70_4)) (.hv Zy70_5)),.mem (.pr (.kc (.whole 7)) (.hv Zy70_5)),.mem (.hv (.slice (.int .u32))),.gh 0,.mem (.pr (.hv (.int .i64)) (.kc (.pair (.whole 6) (.pure .unit PUnit.unit)))),.vec 51 (.int .u32),.vec 71 Zy70_4],5⟩
inductive Sp.E_70_142_1_3 where
 |e0 (p0 p1:Int) (p2:Zt70_0) (p3 p4:Zt70_1) (p5:List Int) (p6:Int) (p7:List Int) (p8:Zt70_2)
 |e1 (p0 p1:Int) (p2:Zt70_0) (p3 p4:Zt70_1) (p5:List Int) (p6:Int) (p7:List Int) (p8:Zt70_2)
noncomputable def Sp.B_70_142_1_3{R:Type}(r:Option E_70_142_1_3)(k0 k1:Int->Int->Zt70_0->Zt70_1->Zt70_1->List Int->Int->List Int->Zt70_2->Option R):Option R:=match r with
 |none=>none
 |some (.e0 p0 p1 p2 p3 p4 p5 p6 p7 p8)=>k0 p0 p1 p2 p3 p4 p5 p6 p7 p8
 |some (.e1 p0 p1 p2 p3 p4 p5 p6 p7 p8)=>k1 p0 p1 p2 p3 p4 p5 p6 p7 p8
theorem Bn_70_142_1_3{A R:Type}{r:Option E_70_142_1_3}{f:A->Option R}{k0:Int->Int->Zt70_0->Zt70_1->Zt70_1->List Int->Int->List Int->Zt70_2->Option A}{k1:Int->Int->Zt70_0->Zt70_1->Zt70_1->List Int->Int->List Int->Zt70_2->Option A}{l0:Int->Int->Zt70_0->Zt70_1->Zt70_1->List Int->Int->List Int->Zt70_2->Option R}{l1:Int->Int->Zt70_0->Zt70_1->Zt70_1->List Int->Int->List Int->Zt70_2->Option R}(h0:∀p0 p1 p2 p3 p4 p5 p6 p7 p8,(k0 p0 p1 p2 p3 p4 p5 p6 p7 p8).bind f=l0 p0 p1 p2 p3 p4 p5 p6 p7 p8)(h1:∀p0 p1 p2 p3 p4 p5 p6 p7 p8,(k1 p0 p1 p2 p3 p4 p5 p6 p7 p8).bind f=l1 p0 p1 p2 p3 p4 p5 p6 p7 p8):(B_70_142_1_3 r k0 k1).bind f=B_70_142_1_3 r l0 l1:=by
 cases r with
 |none=>rfl
 |some e=>cases e<;>first|apply h0|apply h1
noncomputable def Y_70_142_1_3{R:Type}(k:Ex->St->Option R):E_70_142_1_3->Option R
 | .e0 p0 p1 p2 p3 p4 p5 p6 p7 p8=>k Ex.normal (sx 89 [(0,CV.yld 4 70 (CV.pair CV.junk (CV.pair CV.junk (CV.pair CV.junk (CV.pair CV.junk (CV.pair CV.junk (CV.pair CV.junk (CV.pair (CV.ptr 2 []) (CV.pair CV.junk (CV.pair CV.junk (CV.pair CV.junk (CV.pair CV.junk (CV.pair CV.junk (CV.pair CV.junk (CV.pair CV.junk (CV.pair CV.junk (CV.pair CV.junk (CV.pair CV.junk (CV.pair CV.junk (CV.pair CV.junk (CV.pair CV.junk (CV.pair CV.junk (CV.pair CV.junk (CV.pair CV.junk (CV.pair CV.junk (CV.pair CV.junk (CV.pair CV.junk (CV.pair CV.junk (CV.pair CV.junk (CV.pair CV.junk (CV.pair CV.junk (CV.pair CV.junk (CV.pair CV.junk (CV.pair CV.junk (CV.pair CV.junk (CV.pair CV.junk (CV.pair CV.junk (CV.pair CV.junk (CV.pair CV.junk (CV.pair CV.junk (CV.pair CV.junk (CV.pair CV.junk (CV.pair CV.junk (CV.pair CV.junk (CV.pure Ty.unit PUnit.unit))))))))))))))))))))))))))))))))))))))))))))),(1,CV.ptr 3 []),(3,CV.int i64 (wrap i64 (p0+wrap i64 (p1+2)))),(6,CV.int i64 p1),(7,CV.ptr 5 []),(80,CV.int i64 p0),(81,CV.int i64 p1),(82,CV.int i64 (wrap i64 (p1+2))),(83,CV.int i64 (wrap i64 (p0+wrap i64 (p1+2)))),(84,CV.yld 4 70 (CV.pair CV.junk (CV.pair CV.junk (CV.pair CV.junk (CV.pair CV.junk (CV.pair CV.junk (CV.pair CV.junk (CV.pair (CV.ptr 2 []) (CV.pair CV.junk (CV.pair CV.junk (CV.pair CV.junk (CV.pair CV.junk (CV.pair CV.junk (CV.pair CV.junk (CV.pair CV.junk (CV.pair CV.junk (CV.pair CV.junk (CV.pair CV.junk (CV.pair CV.junk (CV.pair CV.junk (CV.pair CV.junk (CV.pair CV.junk (CV.pair CV.junk (CV.pair CV.junk (CV.pair CV.junk (CV.pair CV.junk (CV.pair CV.junk (CV.pair CV.junk (CV.pair CV.junk (CV.pair CV.junk (CV.pair CV.junk (CV.pair CV.junk (CV.pair CV.junk (CV.pair CV.junk (CV.pair CV.junk (CV.pair CV.junk (CV.pair CV.junk (CV.pair CV.junk (CV.pair CV.junk (CV.pair CV.junk (CV.pair CV.junk (CV.pair CV.junk (CV.pair CV.junk (CV.pair CV.junk (CV.pure Ty.unit PUnit.unit))))))))))))))))))))))))))))))))))))))))))))),(85,CV.int i64 (wrap i64 (p0+wrap i64 (p1+2)))),(86,CV.pair (CV.int i64 p6) (CV.pair (CV.whole 6) (CV.pure Ty.unit PUnit.unit))),(87,CV.bool true),(88,CV.bool false)] [Blk.mem (CV.pure (Ty.pair (Ty.pair (Ty.slice (Ty.int u32)) (Ty.pair (Ty.slice (Ty.int i64)) (Ty.pair (Ty.int i64) Ty.unit))) (Ty.pair (Ty.int i64) (Ty.pair (Ty.int i64) Ty.unit))) p2),Blk.mem (CV.pair (CV.nil 71 (Ty.pair (Ty.int i64) (Ty.pair (Ty.slice (Ty.int u32)) Ty.unit))) (CV.pure (Ty.pair (Ty.int i64) (Ty.pair (Ty.int i64) Ty.unit)) p3)),Blk.mem (CV.pair (CV.whole 8) (CV.pure (Ty.pair (Ty.int i64) (Ty.pair (Ty.int i64) Ty.unit)) ((wrap i64 (p0+wrap i64 (p1+2)),p4.2):(Zt70_8)))),Blk.mem (CV.pure (Ty.slice (Ty.int u32)) p5),Blk.ghost 0,Blk.mem (CV.pair (CV.int i64 p6) (CV.pair (CV.whole 6) (CV.pure Ty.unit PUnit.unit))),Blk.fvec 51 (Ty.int u32) p7,Blk.dead,Blk.vec 71 (Ty.pair (Ty.int i64) (Ty.pair (Ty.slice (Ty.int u32)) Ty.unit)) (((v_98 p8 p6 p7).1):Zt70_9)] 5)
 | .e1 p0 p1 p2 p3 p4 p5 p6 p7 p8=>k Ex.normal (sx 89 [(0,CV.yld 4 70 (CV.pair CV.junk (CV.pair CV.junk (CV.pair CV.junk (CV.pair CV.junk (CV.pair CV.junk (CV.pair CV.junk (CV.pair (CV.ptr 2 []) (CV.pair CV.junk (CV.pair CV.junk (CV.pair CV.junk (CV.pair CV.junk (CV.pair CV.junk (CV.pair CV.junk (CV.pair CV.junk (CV.pair CV.junk (CV.pair CV.junk (CV.pair CV.junk (CV.pair CV.junk (CV.pair CV.junk (CV.pair CV.junk (CV.pair CV.junk (CV.pair CV.junk (CV.pair CV.junk (CV.pair CV.junk (CV.pair CV.junk (CV.pair CV.junk (CV.pair CV.junk (CV.pair CV.junk (CV.pair CV.junk (CV.pair CV.junk (CV.pair CV.junk (CV.pair CV.junk (CV.pair CV.junk (CV.pair CV.junk (CV.pair CV.junk (CV.pair CV.junk (CV.pair CV.junk (CV.pair CV.junk (CV.pair CV.junk (CV.pair CV.junk (CV.pair CV.junk (CV.pair CV.junk (CV.pair CV.junk (CV.pure Ty.unit PUnit.unit))))))))))))))))))))))))))))))))))))))))))))),(1,CV.ptr 3 []),(3,CV.int i64 (wrap i64 (p0+wrap i64 (p1+2)))),(6,CV.int i64 p1),(7,CV.ptr 5 []),(80,CV.int i64 p0),(81,CV.int i64 p1),(82,CV.int i64 (wrap i64 (p1+2))),(83,CV.int i64 (wrap i64 (p0+wrap i64 (p1+2)))),(84,CV.yld 4 70 (CV.pair CV.junk (CV.pair CV.junk (CV.pair CV.junk (CV.pair CV.junk (CV.pair CV.junk (CV.pair CV.junk (CV.pair (CV.ptr 2 []) (CV.pair CV.junk (CV.pair CV.junk (CV.pair CV.junk (CV.pair CV.junk (CV.pair CV.junk (CV.pair CV.junk (CV.pair CV.junk (CV.pair CV.junk (CV.pair CV.junk (CV.pair CV.junk (CV.pair CV.junk (CV.pair CV.junk (CV.pair CV.junk (CV.pair CV.junk (CV.pair CV.junk (CV.pair CV.junk (CV.pair CV.junk (CV.pair CV.junk (CV.pair CV.junk (CV.pair CV.junk (CV.pair CV.junk (CV.pair CV.junk (CV.pair CV.junk (CV.pair CV.junk (CV.pair CV.junk (CV.pair CV.junk (CV.pair CV.junk (CV.pair CV.junk (CV.pair CV.junk (CV.pair CV.junk (CV.pair CV.junk (CV.pair CV.junk (CV.pair CV.junk (CV.pair CV.junk (CV.pair CV.junk (CV.pair CV.junk (CV.pure Ty.unit PUnit.unit))))))))))))))))))))))))))))))))))))))))))))),(85,CV.int i64 (wrap i64 (p0+wrap i64 (p1+2)))),(86,CV.pair (CV.int i64 p6) (CV.pair (CV.whole 6) (CV.pure Ty.unit PUnit.unit))),(87,CV.bool true),(88,CV.bool false)] [Blk.mem (CV.pure (Ty.pair (Ty.pair (Ty.slice (Ty.int u32)) (Ty.pair (Ty.slice (Ty.int i64)) (Ty.pair (Ty.int i64) Ty.unit))) (Ty.pair (Ty.int i64) (Ty.pair (Ty.int i64) Ty.unit))) p2),Blk.mem (CV.pair (CV.nil 71 (Ty.pair (Ty.int i64) (Ty.pair (Ty.slice (Ty.int u32)) Ty.unit))) (CV.pure (Ty.pair (Ty.int i64) (Ty.pair (Ty.int i64) Ty.unit)) p3)),Blk.mem (CV.pair (CV.whole 7) (CV.pure (Ty.pair (Ty.int i64) (Ty.pair (Ty.int i64) Ty.unit)) ((wrap i64 (p0+wrap i64 (p1+2)),p4.2):(Zt70_8)))),Blk.mem (CV.pure (Ty.slice (Ty.int u32)) p5),Blk.ghost 0,Blk.mem (CV.pair (CV.int i64 p6) (CV.pair (CV.whole 6) (CV.pure Ty.unit PUnit.unit))),Blk.vec 51 (Ty.int u32) p7,Blk.vec 71 (Ty.pair (Ty.int i64) (Ty.pair (Ty.slice (Ty.int u32)) Ty.unit)) p8] 5)
noncomputable def Sp.S_70_142_1_3{R:Type}(k:E_70_142_1_3->Option R)(p0 p1:Int)(p2:(List Int×List Int×Int×Unit)×Int×Int×Unit)(p3 p4:Int×Int×Unit)(p5:List Int)(p6:Int)(p7:List Int)(p8:List (Int×List Int×Unit)):Option R:=
 bif decide (p6>=0)then gd (p_98 p8 p6 p7) (k (E_70_142_1_3.e0 p0 p1 p2 p3 p4 p5 p6 p7 p8))else k (E_70_142_1_3.e1 p0 p1 p2 p3 p4 p5 p6 p7 p8)
noncomputable def Sp.J_70_142_1_3(p0 p1:Int)(p2:(List Int×List Int×Int×Unit)×Int×Int×Unit)(p3 p4:Int×Int×Unit)(p5:List Int)(p6:Int)(p7:List Int)(p8:List (Int×List Int×Unit)):Option E_70_142_1_3:=S_70_142_1_3 some p0 p1 p2 p3 p4 p5 p6 p7 p8
noncomputable def O_70_142_1_3{R:Type}:Orc R:=orL T_70_142_1_3 (fun a=>J_70_142_1_3 a.1 a.2.1 a.2.2.1 a.2.2.2.1 a.2.2.2.2.1 a.2.2.2.2.2.1 a.2.2.2.2.2.2.1 a.2.2.2.2.2.2.2.1 a.2.2.2.2.2.2.2.2.1) Y_70_142_1_3 O_70_142_1_2
theorem OK_70_142_1_3{R:Type}:okF (R:=R) sm_70 3 (ni (nf 142 0) 0) O_70_142_1_3:=jp noO_ok (os:=[]) trivial T_70_142_1_3 (fun R k a=>S_70_142_1_3 k a.1 a.2.1 a.2.2.1 a.2.2.2.1 a.2.2.2.2.1 a.2.2.2.2.2.1 a.2.2.2.2.2.2.1 a.2.2.2.2.2.2.2.1 a.2.2.2.2.2.2.2.2.1) Y_70_142_1_3 (fun k a=>by kernel_rfl) (fun Y a=>by
 unfold S_70_142_1_3
 repeat' first|apply gdN|apply condN|rfl) OK_70_142_1_2
noncomputable def T_70_142_0_1:PS:=⟨89,[(0,.yl 4 70 (.kc (.pair .junk (.pair .junk (.pair .junk (.pair .junk (.pair .junk (.pair .junk (.pair (.ptr 2 []) (.pair .junk (.pair .junk (.pair .junk (.pair .junk (.pair .junk (.pair .junk (.pair .junk (.pair .junk (.pair .junk (.pair .junk (.pair .junk (.pair .junk (.pair .junk (.pair .junk (.pair .junk (.pair .junk (.pair .junk (.pair .junk (.pair .junk (.pair .junk (.pair .junk (.pair .junk (.pair .junk (.pair .junk (.pair .junk (.pair .junk (.pair .junk (.pair .junk (.pair .junk (.pair .junk (.pair .junk (.pair .junk (.pair .junk (.pair .junk (.pair .junk (.pair .junk (.pure .unit PUnit.unit)))))))))))))))))))))))))))))))))))))))))))))),(1,.kc (.ptr 3 [])),(3,.hv (.int .i64))],[.mem (.hv Zy70_3),.mem (.pr (.kc (.nil 71 Zy70_4)) (.hv Zy70_5)),.mem (.pr (.kc (.whole 5)) (.hv Zy70_5)),.mem (.hv (.slice (.int .u32))),.gh 0,.vec 71 Zy70_4],5⟩
inductive Sp.E_70_142_0_1 where
 |e0 (p1:Zt70_0) (p2 p3:Zt70_1) (p4:List Int) (p5:Zt70_2)
 |e1 (p1:Zt70_0) (p2 p3:Zt70_1) (p4:List Int) (p5:Zt70_2)
noncomputable def Sp.B_70_142_0_1{R:Type}(r:Option E_70_142_0_1)(k0 k1:Zt70_0->Zt70_1->Zt70_1->List Int->Zt70_2->Option R):Option R:=match r with
 |none=>none
 |some (.e0 p1 p2 p3 p4 p5)=>k0 p1 p2 p3 p4 p5
 |some (.e1 p1 p2 p3 p4 p5)=>k1 p1 p2 p3 p4 p5
noncomputable def Y_70_142_0_1{R:Type}(k:Ex->St->Option R):E_70_142_0_1->Option R
 | .e0 p1 p2 p3 p4 p5=>k Ex.ret (sx 89 [] [Blk.mem (CV.pure (Ty.pair (Ty.pair (Ty.slice (Ty.int u32)) (Ty.pair (Ty.slice (Ty.int i64)) (Ty.pair (Ty.int i64) Ty.unit))) (Ty.pair (Ty.int i64) (Ty.pair (Ty.int i64) Ty.unit))) p1),Blk.mem (CV.pair (CV.nil 71 (Ty.pair (Ty.int i64) (Ty.pair (Ty.slice (Ty.int u32)) Ty.unit))) (CV.pure (Ty.pair (Ty.int i64) (Ty.pair (Ty.int i64) Ty.unit)) p2)),Blk.mem (CV.pair (CV.whole 5) (CV.pure (Ty.pair (Ty.int i64) (Ty.pair (Ty.int i64) Ty.unit)) p3)),Blk.mem (CV.pure (Ty.slice (Ty.int u32)) p4),Blk.ghost 0,Blk.vec 71 (Ty.pair (Ty.int i64) (Ty.pair (Ty.slice (Ty.int u32)) Ty.unit)) p5] 5)
 | .e1 p1 p2 p3 p4 p5=>k (Ex.exit 0) (sx 89 [] [Blk.mem (CV.pure (Ty.pair (Ty.pair (Ty.slice (Ty.int u32)) (Ty.pair (Ty.slice (Ty.int i64)) (Ty.pair (Ty.int i64) Ty.unit))) (Ty.pair (Ty.int i64) (Ty.pair (Ty.int i64) Ty.unit))) p1),Blk.mem (CV.pair (CV.nil 71 (Ty.pair (Ty.int i64) (Ty.pair (Ty.slice (Ty.int u32)) Ty.unit))) (CV.pure (Ty.pair (Ty.int i64) (Ty.pair (Ty.int i64) Ty.unit)) p2)),Blk.mem (CV.pair (CV.whole 5) (CV.pure (Ty.pair (Ty.int i64) (Ty.pair (Ty.int i64) Ty.unit)) p3)),Blk.mem (CV.pure (Ty.slice (Ty.int u32)) p4),Blk.ghost 0,Blk.vec 71 (Ty.pair (Ty.int i64) (Ty.pair (Ty.slice (Ty.int u32)) Ty.unit)) p5] 5)
noncomputable def Sp.S_70_142_0_1{R:Type}(K:Int->((List Int×List Int×Int×Unit)×Int×Int×Unit)->(Int×Int×Unit)->(Int×Int×Unit)->List Int->(List (Int×List Int×Unit))->Option R)(k:E_70_142_0_1->Option R)(p0:Int)(p1:(List Int×List Int×Int×Unit)×Int×Int×Unit)(p2 p3:Int×Int×Unit)(p4:List Int)(p5:List (Int×List Int×Unit)):Option R:=
 bif decide (p0<(↑(length p4):Int))then gd (inB p0 (length p4)) (gd (p_141 (getD p4 (toNat p0) 0)) (bif !(v_141 (getD p4 (toNat p0) 0)).2.1 then k (E_70_142_0_1.e0 p1 p2 p3 p4 p5)else bif decide (wrap i64 (Int.tdiv ((v_141 (getD p4 (toNat p0) 0)).1) 256)>254)then k (E_70_142_0_1.e0 p1 p2 p3 p4 p5)else bif decide (Int.tmod ((v_141 (getD p4 (toNat p0) 0)).1) (256:Int)>(24:Int))then k (E_70_142_0_1.e0 p1 p2 p3 p4 p5)else bif decide (wrap i64 (wrap i64 (p0+Int.tmod ((v_141 (getD p4 (toNat p0) 0)).1) 256)+2)>(↑(length p4):Int))then k (E_70_142_0_1.e0 p1 p2 p3 p4 p5)else gd (inB (wrap i64 (wrap i64 (p0+Int.tmod ((v_141 (getD p4 (toNat p0) 0)).1) 256)+1)) (length p4)) (gd (p_141 (getD p4 (toNat (wrap i64 (wrap i64 (p0+Int.tmod ((v_141 (getD p4 (toNat p0) 0)).1) 256)+1))) 0)) (bif(v_141 (getD p4 (toNat (wrap i64 (wrap i64 (p0+Int.tmod ((v_141 (getD p4 (toNat p0) 0)).1) 256)+1))) 0)).2.1 then gd (sl3 p0 (wrap i64 (wrap i64 (p0+Int.tmod ((v_141 (getD p4 (toNat p0) 0)).1) 256)+1)) (↑(length p4):Int)) (gd (p_125 (take (toNat (wrap i64 (wrap i64 (p0+Int.tmod ((v_141 (getD p4 (toNat p0) 0)).1) 256)+1))-toNat p0) (drop (toNat p0) p4))) (bif(v_141 (getD p4 (toNat (wrap i64 (wrap i64 (p0+Int.tmod ((v_141 (getD p4 (toNat p0) 0)).1) 256)+1))) 0)).1==(v_125 (take (toNat (wrap i64 (wrap i64 (p0+Int.tmod ((v_141 (getD p4 (toNat p0) 0)).1) 256)+1))-toNat p0) (drop (toNat p0) p4))).1 then gd (sl3 (wrap i64 (p0+1)) (wrap i64 (wrap i64 (p0+Int.tmod ((v_141 (getD p4 (toNat p0) 0)).1) 256)+1)) (↑(length p4):Int)) (B_70_142_1_2 (J_70_142_1_2 p0 (Int.tmod ((v_141 (getD p4 (toNat p0) 0)).1) 256) p1 p2 p3 p4 (wrap i64 (Int.tdiv ((v_141 (getD p4 (toNat p0) 0)).1) 256),take (toNat (wrap i64 (wrap i64 (p0+Int.tmod ((v_141 (getD p4 (toNat p0) 0)).1) 256)+1))-toNat (wrap i64 (p0+1))) (drop (toNat (wrap i64 (p0+1))) p4),PUnit.unit) p5) (fun y60 y61 y62 y63 y64 y65 y66 y67=>K (wrap i64 (y60+wrap i64 (y61+2))) y62 y63 (wrap i64 (y60+wrap i64 (y61+2)),y64.2) y65 ((v_98 y67 (y66.1) (y66.2.1)).1)) fun y68 y69 y70 y71 y72 y73 y74 y75=>K (wrap i64 (y68+wrap i64 (y69+2))) y70 y71 (wrap i64 (y68+wrap i64 (y69+2)),y72.2) y73 y75)else B_70_142_1_3 (J_70_142_1_3 p0 (Int.tmod ((v_141 (getD p4 (toNat p0) 0)).1) 256) p1 p2 p3 p4 (-1:Int) [] p5) (fun y76 y77 y78 y79 y80 y81 y82 y83 y84=>K (wrap i64 (y76+wrap i64 (y77+2))) y78 y79 (wrap i64 (y76+wrap i64 (y77+2)),y80.2) y81 ((v_98 y84 y82 y83).1)) fun y85 y86 y87 y88 y89 y90 y91 y92 y93=>K (wrap i64 (y85+wrap i64 (y86+2))) y87 y88 (wrap i64 (y85+wrap i64 (y86+2)),y89.2) y90 y93))else B_70_142_1_3 (J_70_142_1_3 p0 (Int.tmod ((v_141 (getD p4 (toNat p0) 0)).1) 256) p1 p2 p3 p4 (-1:Int) [] p5) (fun y94 y95 y96 y97 y98 y99 y100 y101 y102=>K (wrap i64 (y94+wrap i64 (y95+2))) y96 y97 (wrap i64 (y94+wrap i64 (y95+2)),y98.2) y99 ((v_98 y102 y100 y101).1)) fun y103 y104 y105 y106 y107 y108 y109 y110 y111=>K (wrap i64 (y103+wrap i64 (y104+2))) y105 y106 (wrap i64 (y103+wrap i64 (y104+2)),y107.2) y108 y111))))else k (E_70_142_0_1.e1 p1 p2 p3 p4 p5)
noncomputable def Sp.L_70_142_0_1:Nat->Int->((List Int×List Int×Int×Unit)×Int×Int×Unit)->(Int×Int×Unit)->(Int×Int×Unit)->List Int->(List (Int×List Int×Unit))->Option E_70_142_0_1
 |0,_,_,_,_,_,_=>none
 |m+1,p0,p1,p2,p3,p4,p5=>S_70_142_0_1 (L_70_142_0_1 m) some p0 p1 p2 p3 p4 p5
noncomputable def l_70_142_0_1(m:Nat)(a:T_70_142_0_1.E):Option E_70_142_0_1:=L_70_142_0_1 m a.1 a.2.1 a.2.2.1 a.2.2.2.1 a.2.2.2.2.1 a.2.2.2.2.2.1
noncomputable def O_70_142_0_1{R:Type}:Orc R:=orL T_70_142_0_1 (l_70_142_0_1 FU) Y_70_142_0_1
theorem loop_70_142_0_1{R:Type}(k:Ex->St->Option R):∀m a,evLoopN (evCodeL sm_70 FU (ovr noO (evFn sm_70 fns FU 3)) (mkT (inner (nf 142 0)) [O_70_142_1_3]) (inner (nf 142 0))) (St.norm (lv (nf 142 0))) m (T_70_142_0_1.inst a) k=(l_70_142_0_1 m a).bind (Y_70_142_0_1 k):=lpN l_70_142_0_1 (fun R K k a=>S_70_142_0_1 (fun p0 p1 p2 p3 p4 p5=>K (p0,p1,p2,p3,p4,p5,())) k a.1 a.2.1 a.2.2.1 a.2.2.2.1 a.2.2.2.2.1 a.2.2.2.2.2.1) (fun _=>rfl) (fun _ _=>rfl) (fun K a=>by kernel_rfl) (fun K a=>by
 unfold S_70_142_0_1
 repeat' first|apply gdN|apply condN|(apply Bn_70_142_1_2<;>intros)|(apply Bn_70_142_1_3<;>intros)|rfl)
theorem OK_70_142_0_1{R:Type}:okF (R:=R) sm_70 3 (nf 142 0) O_70_142_0_1:=lp noO_ok (os:=[O_70_142_1_3]) ⟨OK_70_142_1_3,trivial⟩ T_70_142_0_1 l_70_142_0_1 (fun R K k a=>S_70_142_0_1 (fun p0 p1 p2 p3 p4 p5=>K (p0,p1,p2,p3,p4,p5,())) k a.1 a.2.1 a.2.2.1 a.2.2.2.1 a.2.2.2.2.1 a.2.2.2.2.2.1) Y_70_142_0_1 (fun _=>rfl) (fun _ _=>rfl) (fun k K a=>by kernel_rfl) (fun Y K a=>by
 unfold S_70_142_0_1
 repeat' first|apply gdN|apply condN|(apply Bn_70_142_1_2<;>intros)|(apply Bn_70_142_1_3<;>intros)|rfl) (ok0 _)
noncomputable def T_70_142_0_0:PS:=⟨89,[(0,.yl 4 70 (.kc (.pair .junk (.pair .junk (.pair .junk (.pair .junk (.pair .junk (.pair .junk (.pair (.ptr 2 []) (.pair .junk (.pair .junk (.pair .junk (.pair .junk (.pair .junk (.pair .junk (.pair .junk (.pair .junk (.pair .junk (.pair .junk (.pair .junk (.pair .junk (.pair .junk (.pair .junk (.pair .junk (.pair .junk (.pair .junk (.pair .junk (.pair .junk (.pair .junk (.pair .junk (.pair .junk (.pair .junk (.pair .junk (.pair .junk (.pair .junk (.pair .junk (.pair .junk (.pair .junk (.pair .junk (.pair .junk (.pair .junk (.pair .junk (.pair .junk (.pair .junk (.pair .junk (.pure .unit PUnit.unit)))))))))))))))))))))))))))))))))))))))))))))),(1,.kc (.ptr 3 [])),(3,.hv (.int .i64))],[.mem (.hv Zy70_3),.mem (.pr (.kc (.nil 71 Zy70_4)) (.hv Zy70_5)),.mem (.pr (.kc (.nil 71 Zy70_4)) (.hv Zy70_5)),.mem (.hv (.slice (.int .u32))),.gh 0],5⟩
inductive Sp.E_70_142_0_0 where
 |e0 (p1:Zt70_0) (p2 p3:Zt70_1) (p4:List Int)
 |e1 (p1:Zt70_0) (p2 p3:Zt70_1) (p4:List Int)
 |e2 (p1:Zt70_0) (p2 p3:Zt70_1) (p4:List Int) (p5:Zt70_2)
 |e3 (p1:Zt70_0) (p2 p3:Zt70_1) (p4:List Int) (p5:Zt70_2)
noncomputable def Sp.B_70_142_0_0{R:Type}(r:Option E_70_142_0_0)(k0 k1:Zt70_0->Zt70_1->Zt70_1->List Int->Option R)(k2 k3:Zt70_0->Zt70_1->Zt70_1->List Int->Zt70_2->Option R):Option R:=match r with
 |none=>none
 |some (.e0 p1 p2 p3 p4)=>k0 p1 p2 p3 p4
 |some (.e1 p1 p2 p3 p4)=>k1 p1 p2 p3 p4
 |some (.e2 p1 p2 p3 p4 p5)=>k2 p1 p2 p3 p4 p5
 |some (.e3 p1 p2 p3 p4 p5)=>k3 p1 p2 p3 p4 p5
noncomputable def Y_70_142_0_0{R:Type}(k:Ex->St->Option R):E_70_142_0_0->Option R
 | .e0 p1 p2 p3 p4=>k Ex.ret (sx 89 [] [Blk.mem (CV.pure (Ty.pair (Ty.pair (Ty.slice (Ty.int u32)) (Ty.pair (Ty.slice (Ty.int i64)) (Ty.pair (Ty.int i64) Ty.unit))) (Ty.pair (Ty.int i64) (Ty.pair (Ty.int i64) Ty.unit))) p1),Blk.mem (CV.pair (CV.nil 71 (Ty.pair (Ty.int i64) (Ty.pair (Ty.slice (Ty.int u32)) Ty.unit))) (CV.pure (Ty.pair (Ty.int i64) (Ty.pair (Ty.int i64) Ty.unit)) p2)),Blk.mem (CV.pair (CV.nil 71 (Ty.pair (Ty.int i64) (Ty.pair (Ty.slice (Ty.int u32)) Ty.unit))) (CV.pure (Ty.pair (Ty.int i64) (Ty.pair (Ty.int i64) Ty.unit)) p3)),Blk.mem (CV.pure (Ty.slice (Ty.int u32)) p4),Blk.ghost 0] 5)
 | .e1 p1 p2 p3 p4=>k (Ex.exit 0) (sx 89 [] [Blk.mem (CV.pure (Ty.pair (Ty.pair (Ty.slice (Ty.int u32)) (Ty.pair (Ty.slice (Ty.int i64)) (Ty.pair (Ty.int i64) Ty.unit))) (Ty.pair (Ty.int i64) (Ty.pair (Ty.int i64) Ty.unit))) p1),Blk.mem (CV.pair (CV.nil 71 (Ty.pair (Ty.int i64) (Ty.pair (Ty.slice (Ty.int u32)) Ty.unit))) (CV.pure (Ty.pair (Ty.int i64) (Ty.pair (Ty.int i64) Ty.unit)) p2)),Blk.mem (CV.pair (CV.nil 71 (Ty.pair (Ty.int i64) (Ty.pair (Ty.slice (Ty.int u32)) Ty.unit))) (CV.pure (Ty.pair (Ty.int i64) (Ty.pair (Ty.int i64) Ty.unit)) p3)),Blk.mem (CV.pure (Ty.slice (Ty.int u32)) p4),Blk.ghost 0] 5)
 | .e2 p1 p2 p3 p4 p5=>k Ex.ret (sx 89 [] [Blk.mem (CV.pure (Ty.pair (Ty.pair (Ty.slice (Ty.int u32)) (Ty.pair (Ty.slice (Ty.int i64)) (Ty.pair (Ty.int i64) Ty.unit))) (Ty.pair (Ty.int i64) (Ty.pair (Ty.int i64) Ty.unit))) p1),Blk.mem (CV.pair (CV.nil 71 (Ty.pair (Ty.int i64) (Ty.pair (Ty.slice (Ty.int u32)) Ty.unit))) (CV.pure (Ty.pair (Ty.int i64) (Ty.pair (Ty.int i64) Ty.unit)) p2)),Blk.mem (CV.pair (CV.whole 5) (CV.pure (Ty.pair (Ty.int i64) (Ty.pair (Ty.int i64) Ty.unit)) p3)),Blk.mem (CV.pure (Ty.slice (Ty.int u32)) p4),Blk.ghost 0,Blk.vec 71 (Ty.pair (Ty.int i64) (Ty.pair (Ty.slice (Ty.int u32)) Ty.unit)) p5] 5)
 | .e3 p1 p2 p3 p4 p5=>k (Ex.exit 0) (sx 89 [] [Blk.mem (CV.pure (Ty.pair (Ty.pair (Ty.slice (Ty.int u32)) (Ty.pair (Ty.slice (Ty.int i64)) (Ty.pair (Ty.int i64) Ty.unit))) (Ty.pair (Ty.int i64) (Ty.pair (Ty.int i64) Ty.unit))) p1),Blk.mem (CV.pair (CV.nil 71 (Ty.pair (Ty.int i64) (Ty.pair (Ty.slice (Ty.int u32)) Ty.unit))) (CV.pure (Ty.pair (Ty.int i64) (Ty.pair (Ty.int i64) Ty.unit)) p2)),Blk.mem (CV.pair (CV.whole 5) (CV.pure (Ty.pair (Ty.int i64) (Ty.pair (Ty.int i64) Ty.unit)) p3)),Blk.mem (CV.pure (Ty.slice (Ty.int u32)) p4),Blk.ghost 0,Blk.vec 71 (Ty.pair (Ty.int i64) (Ty.pair (Ty.slice (Ty.int u32)) Ty.unit)) p5] 5)
noncomputable def Sp.S_70_142_0_0{R:Type}(K:Int->((List Int×List Int×Int×Unit)×Int×Int×Unit)->(Int×Int×Unit)->(Int×Int×Unit)->List Int->Option R)(KB:Int->((List Int×List Int×Int×Unit)×Int×Int×Unit)->(Int×Int×Unit)->(Int×Int×Unit)->List Int->(List (Int×List Int×Unit))->Option R)(k:E_70_142_0_0->Option R)(p0:Int)(p1:(List Int×List Int×Int×Unit)×Int×Int×Unit)(p2 p3:Int×Int×Unit)(p4:List Int):Option R:=
 bif decide (p0<(↑(length p4):Int))then gd (inB p0 (length p4)) (gd (p_141 (getD p4 (toNat p0) 0)) (bif !(v_141 (getD p4 (toNat p0) 0)).2.1 then k (E_70_142_0_0.e0 p1 p2 p3 p4)else bif decide (wrap i64 (Int.tdiv ((v_141 (getD p4 (toNat p0) 0)).1) 256)>254)then k (E_70_142_0_0.e0 p1 p2 p3 p4)else bif decide (Int.tmod ((v_141 (getD p4 (toNat p0) 0)).1) (256:Int)>(24:Int))then k (E_70_142_0_0.e0 p1 p2 p3 p4)else bif decide (wrap i64 (wrap i64 (p0+Int.tmod ((v_141 (getD p4 (toNat p0) 0)).1) 256)+2)>(↑(length p4):Int))then k (E_70_142_0_0.e0 p1 p2 p3 p4)else gd (inB (wrap i64 (wrap i64 (p0+Int.tmod ((v_141 (getD p4 (toNat p0) 0)).1) 256)+1)) (length p4)) (gd (p_141 (getD p4 (toNat (wrap i64 (wrap i64 (p0+Int.tmod ((v_141 (getD p4 (toNat p0) 0)).1) 256)+1))) 0)) (bif(v_141 (getD p4 (toNat (wrap i64 (wrap i64 (p0+Int.tmod ((v_141 (getD p4 (toNat p0) 0)).1) 256)+1))) 0)).2.1 then gd (sl3 p0 (wrap i64 (wrap i64 (p0+Int.tmod ((v_141 (getD p4 (toNat p0) 0)).1) 256)+1)) (↑(length p4):Int)) (gd (p_125 (take (toNat (wrap i64 (wrap i64 (p0+Int.tmod ((v_141 (getD p4 (toNat p0) 0)).1) 256)+1))-toNat p0) (drop (toNat p0) p4))) (bif(v_141 (getD p4 (toNat (wrap i64 (wrap i64 (p0+Int.tmod ((v_141 (getD p4 (toNat p0) 0)).1) 256)+1))) 0)).1==(v_125 (take (toNat (wrap i64 (wrap i64 (p0+Int.tmod ((v_141 (getD p4 (toNat p0) 0)).1) 256)+1))-toNat p0) (drop (toNat p0) p4))).1 then gd (sl3 (wrap i64 (p0+1)) (wrap i64 (wrap i64 (p0+Int.tmod ((v_141 (getD p4 (toNat p0) 0)).1) 256)+1)) (↑(length p4):Int)) (B_70_142_1_0 (J_70_142_1_0 p0 (Int.tmod ((v_141 (getD p4 (toNat p0) 0)).1) 256) p1 p2 p3 p4 (wrap i64 (Int.tdiv ((v_141 (getD p4 (toNat p0) 0)).1) 256),take (toNat (wrap i64 (wrap i64 (p0+Int.tmod ((v_141 (getD p4 (toNat p0) 0)).1) 256)+1))-toNat (wrap i64 (p0+1))) (drop (toNat (wrap i64 (p0+1))) p4),PUnit.unit)) (fun y54 y55 y56 y57 y58 y59 y60=>KB (wrap i64 (y54+wrap i64 (y55+2))) y56 y57 (wrap i64 (y54+wrap i64 (y55+2)),y58.2) y59 ((v_98 [] (y60.1) (y60.2.1)).1)) fun y61 y62 y63 y64 y65 y66 y67=>K (wrap i64 (y61+wrap i64 (y62+2))) y63 y64 (wrap i64 (y61+wrap i64 (y62+2)),y65.2) y66)else B_70_142_1_1 (J_70_142_1_1 p0 (Int.tmod ((v_141 (getD p4 (toNat p0) 0)).1) 256) p1 p2 p3 p4 (-1:Int) []) (fun y68 y69 y70 y71 y72 y73 y74 y75=>KB (wrap i64 (y68+wrap i64 (y69+2))) y70 y71 (wrap i64 (y68+wrap i64 (y69+2)),y72.2) y73 ((v_98 [] y74 y75).1)) fun y76 y77 y78 y79 y80 y81 y82 y83=>K (wrap i64 (y76+wrap i64 (y77+2))) y78 y79 (wrap i64 (y76+wrap i64 (y77+2)),y80.2) y81))else B_70_142_1_1 (J_70_142_1_1 p0 (Int.tmod ((v_141 (getD p4 (toNat p0) 0)).1) 256) p1 p2 p3 p4 (-1:Int) []) (fun y84 y85 y86 y87 y88 y89 y90 y91=>KB (wrap i64 (y84+wrap i64 (y85+2))) y86 y87 (wrap i64 (y84+wrap i64 (y85+2)),y88.2) y89 ((v_98 [] y90 y91).1)) fun y92 y93 y94 y95 y96 y97 y98 y99=>K (wrap i64 (y92+wrap i64 (y93+2))) y94 y95 (wrap i64 (y92+wrap i64 (y93+2)),y96.2) y97))))else k (E_70_142_0_0.e1 p1 p2 p3 p4)
noncomputable def C_70_142_0_0:E_70_142_0_1->E_70_142_0_0
 | .e0 p1 p2 p3 p4 p5=> .e2 p1 p2 p3 p4 p5
 | .e1 p1 p2 p3 p4 p5=> .e3 p1 p2 p3 p4 p5
theorem BC_70_142_0_0(r:Option E_70_142_0_1):B_70_142_0_1 r (fun p1 p2 p3 p4 p5=>some (E_70_142_0_0.e2 p1 p2 p3 p4 p5)) (fun p1 p2 p3 p4 p5=>some (E_70_142_0_0.e3 p1 p2 p3 p4 p5))=r.bind fun e=>some (C_70_142_0_0 e):=by
 cases r with
 |none=>rfl
 |some e=>cases e<;>rfl
noncomputable def Sp.L_70_142_0_0:Nat->Int->((List Int×List Int×Int×Unit)×Int×Int×Unit)->(Int×Int×Unit)->(Int×Int×Unit)->List Int->Option E_70_142_0_0
 |0,_,_,_,_,_=>none
 |m+1,p0,p1,p2,p3,p4=>S_70_142_0_0 (L_70_142_0_0 m) (fun q0 q1 q2 q3 q4 q5=>B_70_142_0_1 (L_70_142_0_1 m q0 q1 q2 q3 q4 q5) (fun p1 p2 p3 p4 p5=>some (E_70_142_0_0.e2 p1 p2 p3 p4 p5)) (fun p1 p2 p3 p4 p5=>some (E_70_142_0_0.e3 p1 p2 p3 p4 p5))) some p0 p1 p2 p3 p4
noncomputable def l_70_142_0_0(m:Nat)(a:T_70_142_0_0.E):Option E_70_142_0_0:=L_70_142_0_0 m a.1 a.2.1 a.2.2.1 a.2.2.2.1 a.2.2.2.2.1
noncomputable def O_70_142_0_0{R:Type}:Orc R:=orL T_70_142_0_0 (l_70_142_0_0 FU) Y_70_142_0_0 O_70_142_0_1
theorem OK_70_142_0_0{R:Type}:okF (R:=R) sm_70 3 (nf 142 0) O_70_142_0_0:=lp2 noO_ok (os:=[O_70_142_1_3]) ⟨OK_70_142_1_3,trivial⟩ T_70_142_0_0 T_70_142_0_1 l_70_142_0_0 l_70_142_0_1 (fun R K KB k a=>S_70_142_0_0 (fun p0 p1 p2 p3 p4=>K (p0,p1,p2,p3,p4,())) (fun q0 q1 q2 q3 q4 q5=>KB (q0,q1,q2,q3,q4,q5,())) k a.1 a.2.1 a.2.2.1 a.2.2.2.1 a.2.2.2.2.1) Y_70_142_0_0 Y_70_142_0_1 C_70_142_0_0 (fun _=>rfl) (fun m a=>by
 unfold l_70_142_0_0
 rw[L_70_142_0_0]
 simp only[BC_70_142_0_0]
 rfl) (fun k e=>by cases e<;>rfl) (fun k=>loop_70_142_0_1 k) (fun k K a=>by kernel_rfl) (fun Y K KB a=>by
 unfold S_70_142_0_0
 repeat' first|apply gdN|apply condN|(apply Bn_70_142_1_0<;>intros)|(apply Bn_70_142_1_1<;>intros)|rfl) OK_70_142_0_1
noncomputable def g_70_142{R:Type}:List CV->List Blk->(CV->List Blk->Option R)->Option R:=evFnL sm_70 FU (ovr noO (evFn sm_70 fns FU 3)) (mkT (fB fns 142) [O_70_142_0_0]) (fO fns 142)
theorem g_70_142_ok{R:Type}(args:List CV)(hp:List Blk)(k:CV->List Blk->Option R)(r:R)(h:g_70_142 args hp k=some r):evFn sm_70 fns FU 4 142 args hp k=some r:=runG noO_ok (os:=[O_70_142_0_0]) ⟨OK_70_142_0_0,trivial⟩ h
noncomputable def ov_70_111{R:Type}:Nat->Option (List CV->List Blk->(CV->List Blk->Option R)->Option R):=fun f'=>bif Nat.beq f' 142 then some g_70_142 else none
theorem ov_70_111_ok{R:Type}:OvrOK (R:=R) ov_70_111 (evFn sm_70 fns FU 4):=by
 intro f' g h args hp k r hg
 dsimp only[ov_70_111]at h
 by_cases h142:f'=142
 ·subst h142
  injection h with h
  subst h
  exact evFn_le 0 (g_70_142_ok _ _ _ _ hg)
 rw[nbeq_ne h142,cond_false]at h
 cases h
noncomputable def g_70_111{R:Type}:List CV->List Blk->(CV->List Blk->Option R)->Option R:=evFnL sm_70 FU (ovr ov_70_111 (evFn sm_70 fns FU 4)) (mkT (fB fns 111) []) (fO fns 111)
theorem g_70_111_ok{R:Type}(args:List CV)(hp:List Blk)(k:CV->List Blk->Option R)(r:R)(h:g_70_111 args hp k=some r):evFn sm_70 fns FU 5 111 args hp k=some r:=runG ov_70_111_ok (os:=[]) trivial h
noncomputable def T_70_143_0_0:PS:=⟨19,[(0,.hv (.slice (.int .u32))),(1,.kc (.clo 113 (.pure .unit PUnit.unit))),(7,.hv (.int .i64)),(8,.hv (.int .i64))],[.mem (.hv Zy70_3),.mem (.pr (.kc (.nil 71 Zy70_4)) (.hv Zy70_5)),.mem (.pr (.kc (.nil 71 Zy70_4)) (.hv Zy70_5)),.mem (.hv (.slice (.int .u32))),.dead],5⟩
inductive Sp.E_70_143_0_0 where
 |e0 (p2:Int) (p3:Zt70_0) (p4 p5:Zt70_1) (p6:List Int)
 |e1 (p3:Zt70_0) (p4 p5:Zt70_1) (p6:List Int)
noncomputable def Sp.B_70_143_0_0{R:Type}(r:Option E_70_143_0_0)(k0:Int->Zt70_0->Zt70_1->Zt70_1->List Int->Option R)(k1:Zt70_0->Zt70_1->Zt70_1->List Int->Option R):Option R:=match r with
 |none=>none
 |some (.e0 p2 p3 p4 p5 p6)=>k0 p2 p3 p4 p5 p6
 |some (.e1 p3 p4 p5 p6)=>k1 p3 p4 p5 p6
noncomputable def Y_70_143_0_0{R:Type}(k:Ex->St->Option R):E_70_143_0_0->Option R
 | .e0 p2 p3 p4 p5 p6=>k Ex.ret (sx 19 [(4,CV.int i64 p2)] [Blk.mem (CV.pure (Ty.pair (Ty.pair (Ty.slice (Ty.int u32)) (Ty.pair (Ty.slice (Ty.int i64)) (Ty.pair (Ty.int i64) Ty.unit))) (Ty.pair (Ty.int i64) (Ty.pair (Ty.int i64) Ty.unit))) p3),Blk.mem (CV.pair (CV.nil 71 (Ty.pair (Ty.int i64) (Ty.pair (Ty.slice (Ty.int u32)) Ty.unit))) (CV.pure (Ty.pair (Ty.int i64) (Ty.pair (Ty.int i64) Ty.unit)) p4)),Blk.mem (CV.pair (CV.nil 71 (Ty.pair (Ty.int i64) (Ty.pair (Ty.slice (Ty.int u32)) Ty.unit))) (CV.pure (Ty.pair (Ty.int i64) (Ty.pair (Ty.int i64) Ty.unit)) p5)),Blk.mem (CV.pure (Ty.slice (Ty.int u32)) p6),Blk.dead] 5)
 | .e1 p3 p4 p5 p6=>k (Ex.exit 0) (sx 19 [] [Blk.mem (CV.pure (Ty.pair (Ty.pair (Ty.slice (Ty.int u32)) (Ty.pair (Ty.slice (Ty.int i64)) (Ty.pair (Ty.int i64) Ty.unit))) (Ty.pair (Ty.int i64) (Ty.pair (Ty.int i64) Ty.unit))) p3),Blk.mem (CV.pair (CV.nil 71 (Ty.pair (Ty.int i64) (Ty.pair (Ty.slice (Ty.int u32)) Ty.unit))) (CV.pure (Ty.pair (Ty.int i64) (Ty.pair (Ty.int i64) Ty.unit)) p4)),Blk.mem (CV.pair (CV.nil 71 (Ty.pair (Ty.int i64) (Ty.pair (Ty.slice (Ty.int u32)) Ty.unit))) (CV.pure (Ty.pair (Ty.int i64) (Ty.pair (Ty.int i64) Ty.unit)) p5)),Blk.mem (CV.pure (Ty.slice (Ty.int u32)) p6),Blk.dead] 5)
noncomputable def Sp.S_70_143_0_0{R:Type}(K:List Int->Int->Int->((List Int×List Int×Int×Unit)×Int×Int×Unit)->(Int×Int×Unit)->(Int×Int×Unit)->List Int->Option R)(k:E_70_143_0_0->Option R)(p0:List Int)(p1 p2:Int)(p3:(List Int×List Int×Int×Unit)×Int×Int×Unit)(p4 p5:Int×Int×Unit)(p6:List Int):Option R:=
 bif decide (p2<p1)then gd (inB p2 (length p0)) (bif getD p0 (toNat p2) (0:Int)!=(4294967295:Int)then k (E_70_143_0_0.e0 p2 p3 p4 p5 p6)else K p0 p1 (wrap i64 (p2+1)) p3 p4 p5 p6)else k (E_70_143_0_0.e1 p3 p4 p5 p6)
noncomputable def Sp.L_70_143_0_0:Nat->List Int->Int->Int->((List Int×List Int×Int×Unit)×Int×Int×Unit)->(Int×Int×Unit)->(Int×Int×Unit)->List Int->Option E_70_143_0_0
 |0,_,_,_,_,_,_,_=>none
 |m+1,p0,p1,p2,p3,p4,p5,p6=>S_70_143_0_0 (L_70_143_0_0 m) some p0 p1 p2 p3 p4 p5 p6
noncomputable def l_70_143_0_0(m:Nat)(a:T_70_143_0_0.E):Option E_70_143_0_0:=L_70_143_0_0 m a.1 a.2.1 a.2.2.1 a.2.2.2.1 a.2.2.2.2.1 a.2.2.2.2.2.1 a.2.2.2.2.2.2.1
noncomputable def O_70_143_0_0{R:Type}:Orc R:=orL T_70_143_0_0 (l_70_143_0_0 FU) Y_70_143_0_0
theorem OK_70_143_0_0{R:Type}:okF (R:=R) sm_70 3 (nf 143 0) O_70_143_0_0:=lp0 T_70_143_0_0 l_70_143_0_0 (fun R K k a=>S_70_143_0_0 (fun p0 p1 p2 p3 p4 p5 p6=>K (p0,p1,p2,p3,p4,p5,p6,())) k a.1 a.2.1 a.2.2.1 a.2.2.2.1 a.2.2.2.2.1 a.2.2.2.2.2.1 a.2.2.2.2.2.2.1) Y_70_143_0_0 (fun _ _ _=>by kernel_rfl) (fun _ _ _=>by
 unfold S_70_143_0_0
 repeat' first|apply gdN|apply condN|rfl) (ok0 _)
noncomputable def T_70_143_0_1:PS:=⟨19,[(0,.hv (.slice (.int .u32))),(1,.kc (.clo 113 (.pure .unit PUnit.unit))),(7,.hv (.int .i64)),(8,.hv (.int .i64))],[.mem (.hv Zy70_3),.mem (.pr (.kc (.nil 71 Zy70_4)) (.hv Zy70_5)),.mem (.pr (.kc (.whole 5)) (.hv Zy70_5)),.mem (.hv (.slice (.int .u32))),.dead,.vec 71 Zy70_4],6⟩
inductive Sp.E_70_143_0_1 where
 |e0 (p2:Int) (p3:Zt70_0) (p4 p5:Zt70_1) (p6:List Int) (p7:Zt70_2)
 |e1 (p3:Zt70_0) (p4 p5:Zt70_1) (p6:List Int) (p7:Zt70_2)
noncomputable def Sp.B_70_143_0_1{R:Type}(r:Option E_70_143_0_1)(k0:Int->Zt70_0->Zt70_1->Zt70_1->List Int->Zt70_2->Option R)(k1:Zt70_0->Zt70_1->Zt70_1->List Int->Zt70_2->Option R):Option R:=match r with
 |none=>none
 |some (.e0 p2 p3 p4 p5 p6 p7)=>k0 p2 p3 p4 p5 p6 p7
 |some (.e1 p3 p4 p5 p6 p7)=>k1 p3 p4 p5 p6 p7
noncomputable def Y_70_143_0_1{R:Type}(k:Ex->St->Option R):E_70_143_0_1->Option R
 | .e0 p2 p3 p4 p5 p6 p7=>k Ex.ret (sx 19 [(4,CV.int i64 p2)] [Blk.mem (CV.pure (Ty.pair (Ty.pair (Ty.slice (Ty.int u32)) (Ty.pair (Ty.slice (Ty.int i64)) (Ty.pair (Ty.int i64) Ty.unit))) (Ty.pair (Ty.int i64) (Ty.pair (Ty.int i64) Ty.unit))) p3),Blk.mem (CV.pair (CV.nil 71 (Ty.pair (Ty.int i64) (Ty.pair (Ty.slice (Ty.int u32)) Ty.unit))) (CV.pure (Ty.pair (Ty.int i64) (Ty.pair (Ty.int i64) Ty.unit)) p4)),Blk.mem (CV.pair (CV.whole 5) (CV.pure (Ty.pair (Ty.int i64) (Ty.pair (Ty.int i64) Ty.unit)) p5)),Blk.mem (CV.pure (Ty.slice (Ty.int u32)) p6),Blk.dead,Blk.vec 71 (Ty.pair (Ty.int i64) (Ty.pair (Ty.slice (Ty.int u32)) Ty.unit)) p7] 6)
 | .e1 p3 p4 p5 p6 p7=>k (Ex.exit 0) (sx 19 [] [Blk.mem (CV.pure (Ty.pair (Ty.pair (Ty.slice (Ty.int u32)) (Ty.pair (Ty.slice (Ty.int i64)) (Ty.pair (Ty.int i64) Ty.unit))) (Ty.pair (Ty.int i64) (Ty.pair (Ty.int i64) Ty.unit))) p3),Blk.mem (CV.pair (CV.nil 71 (Ty.pair (Ty.int i64) (Ty.pair (Ty.slice (Ty.int u32)) Ty.unit))) (CV.pure (Ty.pair (Ty.int i64) (Ty.pair (Ty.int i64) Ty.unit)) p4)),Blk.mem (CV.pair (CV.whole 5) (CV.pure (Ty.pair (Ty.int i64) (Ty.pair (Ty.int i64) Ty.unit)) p5)),Blk.mem (CV.pure (Ty.slice (Ty.int u32)) p6),Blk.dead,Blk.vec 71 (Ty.pair (Ty.int i64) (Ty.pair (Ty.slice (Ty.int u32)) Ty.unit)) p7] 6)
noncomputable def Sp.S_70_143_0_1{R:Type}(K:List Int->Int->Int->((List Int×List Int×Int×Unit)×Int×Int×Unit)->(Int×Int×Unit)->(Int×Int×Unit)->List Int->(List (Int×List Int×Unit))->Option R)(k:E_70_143_0_1->Option R)(p0:List Int)(p1 p2:Int)(p3:(List Int×List Int×Int×Unit)×Int×Int×Unit)(p4 p5:Int×Int×Unit)(p6:List Int)(p7:List (Int×List Int×Unit)):Option R:=
 bif decide (p2<p1)then gd (inB p2 (length p0)) (bif getD p0 (toNat p2) (0:Int)!=(4294967295:Int)then k (E_70_143_0_1.e0 p2 p3 p4 p5 p6 p7)else K p0 p1 (wrap i64 (p2+1)) p3 p4 p5 p6 p7)else k (E_70_143_0_1.e1 p3 p4 p5 p6 p7)
noncomputable def Sp.L_70_143_0_1:Nat->List Int->Int->Int->((List Int×List Int×Int×Unit)×Int×Int×Unit)->(Int×Int×Unit)->(Int×Int×Unit)->List Int->(List (Int×List Int×Unit))->Option E_70_143_0_1
 |0,_,_,_,_,_,_,_,_=>none
 |m+1,p0,p1,p2,p3,p4,p5,p6,p7=>S_70_143_0_1 (L_70_143_0_1 m) some p0 p1 p2 p3 p4 p5 p6 p7
noncomputable def l_70_143_0_1(m:Nat)(a:T_70_143_0_1.E):Option E_70_143_0_1:=L_70_143_0_1 m a.1 a.2.1 a.2.2.1 a.2.2.2.1 a.2.2.2.2.1 a.2.2.2.2.2.1 a.2.2.2.2.2.2.1 a.2.2.2.2.2.2.2.1
noncomputable def O_70_143_0_1{R:Type}:Orc R:=orL T_70_143_0_1 (l_70_143_0_1 FU) Y_70_143_0_1 O_70_143_0_0
theorem OK_70_143_0_1{R:Type}:okF (R:=R) sm_70 3 (nf 143 0) O_70_143_0_1:=lp0 T_70_143_0_1 l_70_143_0_1 (fun R K k a=>S_70_143_0_1 (fun p0 p1 p2 p3 p4 p5 p6 p7=>K (p0,p1,p2,p3,p4,p5,p6,p7,())) k a.1 a.2.1 a.2.2.1 a.2.2.2.1 a.2.2.2.2.1 a.2.2.2.2.2.1 a.2.2.2.2.2.2.1 a.2.2.2.2.2.2.2.1) Y_70_143_0_1 (fun _ _ _=>by kernel_rfl) (fun _ _ _=>by
 unfold S_70_143_0_1
 repeat' first|apply gdN|apply condN|rfl) OK_70_143_0_0
noncomputable def g_70_143{R:Type}:List CV->List Blk->(CV->List Blk->Option R)->Option R:=evFnL sm_70 FU (ovr noO (evFn sm_70 fns FU 3)) (mkT (fB fns 143) [O_70_143_0_1]) (fO fns 143)
theorem g_70_143_ok{R:Type}(args:List CV)(hp:List Blk)(k:CV->List Blk->Option R)(r:R)(h:g_70_143 args hp k=some r):evFn sm_70 fns FU 4 143 args hp k=some r:=runG noO_ok (os:=[O_70_143_0_1]) ⟨OK_70_143_0_1,trivial⟩ h
noncomputable def ov_70_112{R:Type}:Nat->Option (List CV->List Blk->(CV->List Blk->Option R)->Option R):=fun f'=>bif Nat.beq f' 143 then some g_70_143 else none
theorem ov_70_112_ok{R:Type}:OvrOK (R:=R) ov_70_112 (evFn sm_70 fns FU 4):=by
 intro f' g h args hp k r hg
 dsimp only[ov_70_112]at h
 by_cases h143:f'=143
 ·subst h143
  injection h with h
  subst h
  exact evFn_le 0 (g_70_143_ok _ _ _ _ hg)
 rw[nbeq_ne h143,cond_false]at h
 cases h
noncomputable def g_70_112{R:Type}:List CV->List Blk->(CV->List Blk->Option R)->Option R:=evFnL sm_70 FU (ovr ov_70_112 (evFn sm_70 fns FU 4)) (mkT (fB fns 112) []) (fO fns 112)
theorem g_70_112_ok{R:Type}(args:List CV)(hp:List Blk)(k:CV->List Blk->Option R)(r:R)(h:g_70_112 args hp k=some r):evFn sm_70 fns FU 5 112 args hp k=some r:=runG ov_70_112_ok (os:=[]) trivial h
noncomputable def ov_70_70{R:Type}:Nat->Option (List CV->List Blk->(CV->List Blk->Option R)->Option R):=fun f'=>bif Nat.beq f' 111 then some g_70_111 else bif Nat.beq f' 112 then some g_70_112 else bif Nat.beq f' 142 then some g_70_142 else none
theorem ov_70_70_ok{R:Type}:OvrOK (R:=R) ov_70_70 (evFn sm_70 fns FU 5):=by
 intro f' g h args hp k r hg
 dsimp only[ov_70_70]at h
 by_cases h111:f'=111
 ·subst h111
  injection h with h
  subst h
  exact evFn_le 0 (g_70_111_ok _ _ _ _ hg)
 rw[nbeq_ne h111,cond_false]at h
 by_cases h112:f'=112
 ·subst h112
  injection h with h
  subst h
  exact evFn_le 0 (g_70_112_ok _ _ _ _ hg)
 rw[nbeq_ne h112,cond_false]at h
 by_cases h142:f'=142
 ·subst h142
  injection h with h
  subst h
  exact evFn_le 1 (g_70_142_ok _ _ _ _ hg)
 rw[nbeq_ne h142,cond_false]at h
 cases h
noncomputable def F_70(a0:(((List Int)×((List Int)×(Int×Unit)))×(Int×(Int×Unit))))(a1:Int):Option (((List (Int×((List Int)×Unit)))×(Int×(Int×Unit)))×Unit) :=
 gd (p_110 a0 a1) (B_70_142_0_0 (L_70_142_0_0 4611686018427387904 1 a0 (0,0,PUnit.unit) (1,0,PUnit.unit) ((v_110 a0 a1).1)) (fun y58 y59 y60 y61=>gd (sl3 (y60.1) (↑(length ((v_110 a0 a1).1)):Int) (↑(length ((v_110 a0 a1).1)):Int)) (B_70_143_0_0 (L_70_143_0_0 4611686018427387904 (drop (toNat (y60.1)) ((v_110 a0 a1).1)) (↑(length (drop (toNat (y60.1)) ((v_110 a0 a1).1))):Int) 0 y58 y59 y60 y61) (fun y62 y63 y64 y65 y66=>bif !decide (y62>=0)then some (([],y65.1,wrap i64 ((↑(length ((v_110 a0 a1).1)):Int)-y65.1),y65.2.2),PUnit.unit)else some (([],y65),PUnit.unit)) fun y67 y68 y69 y70=>some (([],y69.1,wrap i64 ((↑(length ((v_110 a0 a1).1)):Int)-y69.1),y69.2.2),PUnit.unit))) (fun y71 y72 y73 y74=>gd (sl3 (y73.1) (↑(length ((v_110 a0 a1).1)):Int) (↑(length ((v_110 a0 a1).1)):Int)) (B_70_143_0_0 (L_70_143_0_0 4611686018427387904 (drop (toNat (y73.1)) ((v_110 a0 a1).1)) (↑(length (drop (toNat (y73.1)) ((v_110 a0 a1).1))):Int) 0 y71 y72 y73 y74) (fun y75 y76 y77 y78 y79=>bif !decide (y75>=0)then some (([],y78.1,wrap i64 ((↑(length ((v_110 a0 a1).1)):Int)-y78.1),y78.2.2),PUnit.unit)else some (([],y78),PUnit.unit)) fun y80 y81 y82 y83=>some (([],y82.1,wrap i64 ((↑(length ((v_110 a0 a1).1)):Int)-y82.1),y82.2.2),PUnit.unit))) (fun y84 y85 y86 y87 y88=>gd (sl3 (y86.1) (↑(length ((v_110 a0 a1).1)):Int) (↑(length ((v_110 a0 a1).1)):Int)) (B_70_143_0_1 (L_70_143_0_1 4611686018427387904 (drop (toNat (y86.1)) ((v_110 a0 a1).1)) (↑(length (drop (toNat (y86.1)) ((v_110 a0 a1).1))):Int) 0 y84 y85 y86 y87 y88) (fun y89 y90 y91 y92 y93 y94=>bif !decide (y89>=0)then some ((y94,y92.1,wrap i64 ((↑(length ((v_110 a0 a1).1)):Int)-y92.1),y92.2.2),PUnit.unit)else some ((y94,y92),PUnit.unit)) fun y95 y96 y97 y98 y99=>some ((y99,y97.1,wrap i64 ((↑(length ((v_110 a0 a1).1)):Int)-y97.1),y97.2.2),PUnit.unit))) fun y100 y101 y102 y103 y104=>gd (sl3 (y102.1) (↑(length ((v_110 a0 a1).1)):Int) (↑(length ((v_110 a0 a1).1)):Int)) (B_70_143_0_1 (L_70_143_0_1 4611686018427387904 (drop (toNat (y102.1)) ((v_110 a0 a1).1)) (↑(length (drop (toNat (y102.1)) ((v_110 a0 a1).1))):Int) 0 y100 y101 y102 y103 y104) (fun y105 y106 y107 y108 y109 y110=>bif !decide (y105>=0)then some ((y110,y108.1,wrap i64 ((↑(length ((v_110 a0 a1).1)):Int)-y108.1),y108.2.2),PUnit.unit)else some ((y110,y108),PUnit.unit)) fun y111 y112 y113 y114 y115=>some ((y115,y113.1,wrap i64 ((↑(length ((v_110 a0 a1).1)):Int)-y113.1),y113.2.2),PUnit.unit)))
noncomputable def Sp.p_70(a0:(((List Int)×((List Int)×(Int×Unit)))×(Int×(Int×Unit))))(a1:Int):Bool:=(F_70 a0 a1).isSome
noncomputable def Sp.v_70(a0:(((List Int)×((List Int)×(Int×Unit)))×(Int×(Int×Unit))))(a1:Int):((List (Int×((List Int)×Unit)))×(Int×(Int×Unit)))×Unit:=(F_70 a0 a1).getD (dfH R_70)
noncomputable def s_70:Summ:=ownS A_70 71 [] Zy70_7 [] (fun x=>p_70 x.1 x.2.1) (fun x=>v_70 x.1 x.2.1)
theorem pv_70(a0:(((List Int)×((List Int)×(Int×Unit)))×(Int×(Int×Unit))))(a1:Int){y:((List (Int×((List Int)×Unit)))×(Int×(Int×Unit)))×Unit}(h:F_70 a0 a1=some y):p_70 a0 a1=true/\v_70 a0 a1=y:=pvG h
theorem run_70(x:HDen A_70)(y:HDen R_70)(h:F_70 x.1 x.2.1=some y):evFn sm_70 fns FU 6 70 (ofH A_70 x) [] (ownK 71 [] Zy70_7 [])=some y:=runG ov_70_70_ok (os:=[]) trivial (Eq.trans (by kernel_rfl) h)
end
noncomputable section
abbrev A_28:List Ty:=[(.pair (.pair (.slice (.int .u32)) (.pair (.slice (.int .i64)) (.pair (.int .i64) .unit))) (.pair (.int .i64) (.pair (.int .i64) .unit)))]
abbrev R_28:List Ty:=[(.slice (.pair (.int .i64) (.pair (.slice (.int .u32)) .unit))),(.int .i64)]
noncomputable def sm_28:Nat->Option Summ:=smL [(38,s_38),(69,s_69),(70,s_70)]
noncomputable def F_28(a0:(((List Int)×((List Int)×(Int×Unit)))×(Int×(Int×Unit)))):Option ((List (Int×((List Int)×Unit)))×Int×Unit) :=
 gd (p_38 a0) (bif !(v_38 a0).1 then some ([],1,PUnit.unit)else gd (p_69 a0) (gd (p_70 a0 ((v_69 a0).1)) (some ((v_70 a0 ((v_69 a0).1)).1.1,0,PUnit.unit))))
noncomputable def Sp.p_28(a0:(((List Int)×((List Int)×(Int×Unit)))×(Int×(Int×Unit)))):Bool:=(F_28 a0).isSome
noncomputable def Sp.v_28(a0:(((List Int)×((List Int)×(Int×Unit)))×(Int×(Int×Unit)))):(List (Int×((List Int)×Unit)))×Int×Unit:=(F_28 a0).getD (dfH R_28)
noncomputable def s_28:Summ:=shS A_28 R_28 (fun x=>p_28 x.1) (fun x=>v_28 x.1)
theorem pv_28(a0:(((List Int)×((List Int)×(Int×Unit)))×(Int×(Int×Unit)))){y:(List (Int×((List Int)×Unit)))×Int×Unit}(h:F_28 a0=some y):p_28 a0=true/\v_28 a0=y:=pvG h
theorem run_28(x:HDen A_28)(y:HDen R_28)(h:F_28 x.1=some y):rnF sm_28 1 28 A_28 R_28 x y:=runG noO_ok (os:=[]) trivial (Eq.trans (by kernel_rfl) h)
end
noncomputable section
abbrev A_41:List Ty:=[(.pair (.pair (.slice (.int .u32)) (.pair (.slice (.int .i64)) (.pair (.int .i64) .unit))) (.pair (.int .i64) (.pair (.int .i64) .unit))),(.int .i64)]
abbrev R_41:List Ty:=[(.slice (.int .u32)),(.int .i64)]
noncomputable def sm_41:Nat->Option Summ:=smL [(28,s_28)]
noncomputable def T_41_0:PS:=⟨39,[(1,.hv (.int .i64)),(26,.hv (.slice (.pair (.int .i64) (.pair (.slice (.int .u32)) .unit)))),(27,.hv (.int .i64)),(28,.hv (.int .i64))],[],0⟩
inductive Sp.E_41_0 where
 |e0 (p1:List (Int×List Int×Unit)) (p3:Int)
 |e1
noncomputable def Sp.B_41_0{R:Type}(r:Option E_41_0)(k0:(List (Int×List Int×Unit))->Int->Option R)(k1:Option R):Option R:=match r with
 |none=>none
 |some (.e0 p1 p3)=>k0 p1 p3
 |some (.e1)=>k1
noncomputable def Y_41_0{R:Type}(k:Ex->St->Option R):E_41_0->Option R
 | .e0 p1 p3=>k Ex.ret (sx 39 [(4,CV.pure (Ty.slice (Ty.int u32)) (((getD p1 (toNat p3) Zd2).2.1):(List Int))),(5,CV.int i64 0)] [])
 | .e1=>k (Ex.exit 1) (sx 39 [] [])
noncomputable def Sp.S_41_0{R:Type}(K:Int->(List (Int×List Int×Unit))->Int->Int->Option R)(k:E_41_0->Option R)(p0:Int)(p1:List (Int×List Int×Unit))(p2 p3:Int):Option R:=
 bif decide (p3<p2)then gd (inB p3 (length p1)) (bif(getD p1 (toNat p3) Zd2).1==p0 then k (E_41_0.e0 p1 p3)else K p0 p1 p2 (wrap i64 (p3+1)))else k (E_41_0.e1)
noncomputable def Sp.L_41_0:Nat->Int->(List (Int×List Int×Unit))->Int->Int->Option E_41_0
 |0,_,_,_,_=>none
 |m+1,p0,p1,p2,p3=>S_41_0 (L_41_0 m) some p0 p1 p2 p3
noncomputable def l_41_0(m:Nat)(a:T_41_0.E):Option E_41_0:=L_41_0 m a.1 a.2.1 a.2.2.1 a.2.2.2.1
noncomputable def O_41_0{R:Type}:Orc R:=orL T_41_0 (l_41_0 FU) Y_41_0
theorem OK_41_0{R:Type}:okF (R:=R) sm_41 0 (nf 41 0) O_41_0:=lp0 T_41_0 l_41_0 (fun R K k a=>S_41_0 (fun p0 p1 p2 p3=>K (p0,p1,p2,p3,())) k a.1 a.2.1 a.2.2.1 a.2.2.2.1) Y_41_0 (fun _ _ _=>by kernel_rfl) (fun _ _ _=>by
 unfold S_41_0
 repeat' first|apply gdN|apply condN|rfl) (ok0 _)
noncomputable def F_41(a0:(((List Int)×((List Int)×(Int×Unit)))×(Int×(Int×Unit))))(a1:Int):Option ((List Int)×Int×Unit) :=
 gd (p_28 a0) (bif(v_28 a0).2.1 !=0 then some ([],(v_28 a0).2.1,PUnit.unit)else bif decide (a1<0)then some ([],2,PUnit.unit)else bif decide (a1>254)then some ([],2,PUnit.unit)else B_41_0 (L_41_0 4611686018427387904 a1 ((v_28 a0).1) (↑(length ((v_28 a0).1)):Int) 0) (fun y2 y3=>some ((getD y2 (toNat y3) Zd2).2.1,0,PUnit.unit)) (some ([],7,PUnit.unit)))
noncomputable def Sp.p_41(a0:(((List Int)×((List Int)×(Int×Unit)))×(Int×(Int×Unit))))(a1:Int):Bool:=(F_41 a0 a1).isSome
noncomputable def Sp.v_41(a0:(((List Int)×((List Int)×(Int×Unit)))×(Int×(Int×Unit))))(a1:Int):(List Int)×Int×Unit:=(F_41 a0 a1).getD (dfH R_41)
noncomputable def s_41:Summ:=shS A_41 R_41 (fun x=>p_41 x.1 x.2.1) (fun x=>v_41 x.1 x.2.1)
theorem pv_41(a0:(((List Int)×((List Int)×(Int×Unit)))×(Int×(Int×Unit))))(a1:Int){y:(List Int)×Int×Unit}(h:F_41 a0 a1=some y):p_41 a0 a1=true/\v_41 a0 a1=y:=pvG h
theorem run_41(x:HDen A_41)(y:HDen R_41)(h:F_41 x.1 x.2.1=some y):rnF sm_41 1 41 A_41 R_41 x y:=runG noO_ok (os:=[O_41_0]) ⟨OK_41_0,trivial⟩ (Eq.trans (by kernel_rfl) h)
end
noncomputable section
abbrev A_40:List Ty:=[(.pair (.pair (.slice (.int .u32)) (.pair (.slice (.int .i64)) (.pair (.int .i64) .unit))) (.pair (.int .i64) (.pair (.int .i64) .unit)))]
abbrev R_40:List Ty:=[(.int .i64)]
noncomputable def sm_40:Nat->Option Summ:=smL [(41,s_41)]
noncomputable def F_40(a0:(((List Int)×((List Int)×(Int×Unit)))×(Int×(Int×Unit)))):Option (Int×Unit) :=
 gd (p_41 a0 254) (bif(v_41 a0 254).2.1 !=0 then some (0,PUnit.unit)else bif(↑(length ((v_41 a0 254).1)):Int)!=1 then some (0,PUnit.unit)else gd (inB 0 (length ((v_41 a0 254).1))) (bif decide (getD ((v_41 a0 254).1) 0 (0:Int)>(1073741824:Int))then some (0,PUnit.unit)else gd (inB 0 (length ((v_41 a0 254).1))) (some (wrap i64 (getD ((v_41 a0 254).1) 0 0),PUnit.unit))))
noncomputable def Sp.p_40(a0:(((List Int)×((List Int)×(Int×Unit)))×(Int×(Int×Unit)))):Bool:=(F_40 a0).isSome
noncomputable def Sp.v_40(a0:(((List Int)×((List Int)×(Int×Unit)))×(Int×(Int×Unit)))):Int×Unit:=(F_40 a0).getD (dfH R_40)
noncomputable def s_40:Summ:=shN A_40 R_40 (fun x=>p_40 x.1) (fun x=>v_40 x.1)
theorem pv_40(a0:(((List Int)×((List Int)×(Int×Unit)))×(Int×(Int×Unit)))){y:Int×Unit}(h:F_40 a0=some y):p_40 a0=true/\v_40 a0=y:=pvG h
theorem run_40(x:HDen A_40)(y:HDen R_40)(h:F_40 x.1=some y):rnF sm_40 1 40 A_40 R_40 x y:=runG noO_ok (os:=[]) trivial (Eq.trans (by kernel_rfl) h)
end
noncomputable section
abbrev A_42:List Ty:=[(.slice (.int .u32))]
abbrev R_42:List Ty:=[(.pair (.int .i64) (.pair (.int .i64) (.pair (.int .i64) (.pair (.int .i64) (.pair (.int .i64) (.pair (.slice (.int .i64)) (.pair (.int .i64) .unit))))))),(.int .i64)]
noncomputable def sm_42:Nat->Option Summ:=smL [(34,s_34)]
noncomputable def T_42_0:PS:=⟨100,[(0,.hv (.slice (.int .u32))),(2,.kc (.ptr 0 [])),(5,.kc (.ptr 2 [])),(6,.hv (.int .i64))],[.mem (.pr (.hv (.int .i64)) (.pr (.hv (.int .i64)) (.pr (.hv (.int .i64)) (.pr (.hv (.int .i64)) (.pr (.hv (.int .i64)) (.pr (.kc (.whole 1)) (.hv (.pair (.int .i64) .unit)))))))),.vec 3 (.int .i64),.mem (.pr (.hv (.int .i64)) (.pr (.hv (.int .i64)) (.pr (.hv (.int .i64)) (.pr (.hv (.int .i64)) (.pr (.hv (.int .i64)) (.pr (.kc (.whole 3)) (.hv (.pair (.int .i64) .unit)))))))),.vec 3 (.int .i64)],0⟩
inductive Sp.E_42_0 where
 |e0
 |e1 (p2 p3 p4 p5 p6:Int) (p7:Int×Unit) (p8:List Int) (p9 p10 p11 p12 p13:Int) (p14:Int×Unit) (p15:List Int)
noncomputable def Sp.B_42_0{R:Type}(r:Option E_42_0)(k0:Option R)(k1:Int->Int->Int->Int->Int->(Int×Unit)->List Int->Int->Int->Int->Int->Int->(Int×Unit)->List Int->Option R):Option R:=match r with
 |none=>none
 |some (.e0)=>k0
 |some (.e1 p2 p3 p4 p5 p6 p7 p8 p9 p10 p11 p12 p13 p14 p15)=>k1 p2 p3 p4 p5 p6 p7 p8 p9 p10 p11 p12 p13 p14 p15
noncomputable def Y_42_0{R:Type}(k:Ex->St->Option R):E_42_0->Option R
 | .e0=>k Ex.ret (sx 100 [(2,CV.ptr 0 []),(3,CV.int i64 3)] [Blk.mem (CV.pair (CV.int i64 0) (CV.pair (CV.int i64 0) (CV.pair (CV.int i64 0) (CV.pair (CV.int i64 0) (CV.pair (CV.int i64 0) (CV.pair (CV.whole 1) (CV.pure (Ty.pair (Ty.int i64) Ty.unit) ((0,PUnit.unit):(Int×Unit))))))))),Blk.vec 3 (Ty.int i64) []])
 | .e1 p2 p3 p4 p5 p6 p7 p8 p9 p10 p11 p12 p13 p14 p15=>k (Ex.exit 0) (sx 100 [(2,CV.ptr 0 []),(5,CV.ptr 2 [])] [Blk.mem (CV.pair (CV.int i64 p2) (CV.pair (CV.int i64 p3) (CV.pair (CV.int i64 p4) (CV.pair (CV.int i64 p5) (CV.pair (CV.int i64 p6) (CV.pair (CV.whole 1) (CV.pure (Ty.pair (Ty.int i64) Ty.unit) p7))))))),Blk.vec 3 (Ty.int i64) p8,Blk.mem (CV.pair (CV.int i64 p9) (CV.pair (CV.int i64 p10) (CV.pair (CV.int i64 p11) (CV.pair (CV.int i64 p12) (CV.pair (CV.int i64 p13) (CV.pair (CV.whole 3) (CV.pure (Ty.pair (Ty.int i64) Ty.unit) p14))))))),Blk.vec 3 (Ty.int i64) p15])
noncomputable def Sp.S_42_0{R:Type}(K:List Int->Int->Int->Int->Int->Int->Int->(Int×Unit)->List Int->Int->Int->Int->Int->Int->(Int×Unit)->List Int->Option R)(k:E_42_0->Option R)(p0:List Int)(p1 p2 p3 p4 p5 p6:Int)(p7:Int×Unit)(p8:List Int)(p9 p10 p11 p12 p13:Int)(p14:Int×Unit)(p15:List Int):Option R:=
 bif decide (p1<(↑(length p0):Int))then gd (inB p1 (length p0)) (bif decide (getD p0 (toNat p1) (0:Int)>(512:Int))then k (E_42_0.e0)else gd (inB p1 (length p0)) (gd (inB (wrap i64 (p1+1)) (length p0)) (gd (room (length p15+1) 8) (K p0 (wrap i64 (p1+2)) p2 p3 p4 p5 p6 p7 p8 p9 p10 p11 p12 p13 p14 (p15++[wrap i64 (wrap i64 (wrap i64 (wrap i64 (getD p0 (toNat p1) 0)*4294967296)+wrap i64 (getD p0 (toNat (wrap i64 (p1+1))) 0))-1099511627776)])))))else k (E_42_0.e1 p2 p3 p4 p5 p6 p7 p8 p9 p10 p11 p12 p13 p14 p15)
noncomputable def Sp.L_42_0:Nat->List Int->Int->Int->Int->Int->Int->Int->(Int×Unit)->List Int->Int->Int->Int->Int->Int->(Int×Unit)->List Int->Option E_42_0
 |0,_,_,_,_,_,_,_,_,_,_,_,_,_,_,_,_=>none
 |m+1,p0,p1,p2,p3,p4,p5,p6,p7,p8,p9,p10,p11,p12,p13,p14,p15=>S_42_0 (L_42_0 m) some p0 p1 p2 p3 p4 p5 p6 p7 p8 p9 p10 p11 p12 p13 p14 p15
noncomputable def l_42_0(m:Nat)(a:T_42_0.E):Option E_42_0:=L_42_0 m a.1 a.2.1 a.2.2.1 a.2.2.2.1 a.2.2.2.2.1 a.2.2.2.2.2.1 a.2.2.2.2.2.2.1 a.2.2.2.2.2.2.2.1 a.2.2.2.2.2.2.2.2.1 a.2.2.2.2.2.2.2.2.2.1 a.2.2.2.2.2.2.2.2.2.2.1 a.2.2.2.2.2.2.2.2.2.2.2.1 a.2.2.2.2.2.2.2.2.2.2.2.2.1 a.2.2.2.2.2.2.2.2.2.2.2.2.2.1 a.2.2.2.2.2.2.2.2.2.2.2.2.2.2.1 a.2.2.2.2.2.2.2.2.2.2.2.2.2.2.2.1
noncomputable def O_42_0{R:Type}:Orc R:=orL T_42_0 (l_42_0 FU) Y_42_0
theorem OK_42_0{R:Type}:okF (R:=R) sm_42 0 (nf 42 0) O_42_0:=lp0 T_42_0 l_42_0 (fun R K k a=>S_42_0 (fun p0 p1 p2 p3 p4 p5 p6 p7 p8 p9 p10 p11 p12 p13 p14 p15=>K (p0,p1,p2,p3,p4,p5,p6,p7,p8,p9,p10,p11,p12,p13,p14,p15,())) k a.1 a.2.1 a.2.2.1 a.2.2.2.1 a.2.2.2.2.1 a.2.2.2.2.2.1 a.2.2.2.2.2.2.1 a.2.2.2.2.2.2.2.1 a.2.2.2.2.2.2.2.2.1 a.2.2.2.2.2.2.2.2.2.1 a.2.2.2.2.2.2.2.2.2.2.1 a.2.2.2.2.2.2.2.2.2.2.2.1 a.2.2.2.2.2.2.2.2.2.2.2.2.1 a.2.2.2.2.2.2.2.2.2.2.2.2.2.1 a.2.2.2.2.2.2.2.2.2.2.2.2.2.2.1 a.2.2.2.2.2.2.2.2.2.2.2.2.2.2.2.1) Y_42_0 (fun _ _ _=>by kernel_rfl) (fun _ _ _=>by
 unfold S_42_0
 repeat' first|apply gdN|apply condN|rfl) (ok0 _)
noncomputable def F_42(a0:(List Int)):Option ((Int×(Int×(Int×(Int×(Int×((List Int)×(Int×Unit)))))))×Int×Unit) :=
 bif decide ((↑(length a0):Int)<3)then some ((0,0,0,0,0,[],0,PUnit.unit),3,PUnit.unit)else gd (inB 2 (length a0)) (bif decide (getD a0 2 (0:Int)>(8:Int))then some ((0,0,0,0,0,[],0,PUnit.unit),3,PUnit.unit)else gd (inB 2 (length a0)) (bif(↑(length a0):Int)!=wrap i64 (3+wrap i64 (2*wrap i64 (getD a0 2 0)))then some ((0,0,0,0,0,[],0,PUnit.unit),3,PUnit.unit)else gd (inB 1 (length a0)) (bif decide (getD a0 1 (0:Int)>(1073741824:Int))then some ((0,0,0,0,0,[],0,PUnit.unit),3,PUnit.unit)else gd (inB 0 (length a0)) (gd (inB 1 (length a0)) (bif Sp.andnI i64 (Sp.andI i64 (wrap i64 (getD a0 0 0)) 255) (22:Int)!=(0:Int)then some ((0,0,0,0,0,[],0,PUnit.unit),3,PUnit.unit)else B_42_0 (L_42_0 4611686018427387904 a0 3 0 0 0 0 0 (0,PUnit.unit) [] (Sp.andI i64 (wrap i64 (getD a0 0 0)) 255) 0 (Sp.andI i64 (Int.fdiv (wrap i64 (getD a0 0 0)) 256) 255) (Sp.andI i64 (Int.fdiv (wrap i64 (getD a0 0 0)) 65536) 255) (Int.fdiv (wrap i64 (getD a0 0 0)) 16777216) (wrap i64 (getD a0 1 0),PUnit.unit) []) (some ((0,0,0,0,0,[],0,PUnit.unit),3,PUnit.unit)) fun y18 y19 y20 y21 y22 y23 y24 y25 y26 y27 y28 y29 y30 y31=>gd (p_34 (y25,y26,y27,y28,y29,y31,y30)) (bif(v_34 (y25,y26,y27,y28,y29,y31,y30)).2.1 !=0 then some ((0,0,0,0,0,[],0,PUnit.unit),3,PUnit.unit)else some ((y25,y26,y27,y28,y29,y31,y30),0,PUnit.unit)))))))
noncomputable def Sp.p_42(a0:(List Int)):Bool:=(F_42 a0).isSome
noncomputable def Sp.v_42(a0:(List Int)):(Int×(Int×(Int×(Int×(Int×((List Int)×(Int×Unit)))))))×Int×Unit:=(F_42 a0).getD (dfH R_42)
noncomputable def s_42:Summ:=shS A_42 R_42 (fun x=>p_42 x.1) (fun x=>v_42 x.1)
theorem pv_42(a0:(List Int)){y:(Int×(Int×(Int×(Int×(Int×((List Int)×(Int×Unit)))))))×Int×Unit}(h:F_42 a0=some y):p_42 a0=true/\v_42 a0=y:=pvG h
theorem run_42(x:HDen A_42)(y:HDen R_42)(h:F_42 x.1=some y):rnF sm_42 1 42 A_42 R_42 x y:=runG noO_ok (os:=[O_42_0]) ⟨OK_42_0,trivial⟩ (Eq.trans (by kernel_rfl) h)
end
noncomputable section
abbrev A_43:List Ty:=[(.pair (.int .i64) (.pair (.int .i64) (.pair (.int .i64) (.pair (.int .i64) (.pair (.int .i64) (.pair (.slice (.int .i64)) (.pair (.int .i64) .unit)))))))]
abbrev R_43:List Ty:=[.bool]
noncomputable def sm_43:Nat->Option Summ:=smL []
noncomputable def F_43(a0:(Int×(Int×(Int×(Int×(Int×((List Int)×(Int×Unit)))))))):Option (Bool×Unit) :=
 some (Sp.andI i64 (a0.1) (6:Int)!=(0:Int),PUnit.unit)
noncomputable def Sp.p_43(a0:(Int×(Int×(Int×(Int×(Int×((List Int)×(Int×Unit)))))))):Bool:=(F_43 a0).isSome
noncomputable def Sp.v_43(a0:(Int×(Int×(Int×(Int×(Int×((List Int)×(Int×Unit)))))))):Bool×Unit:=(F_43 a0).getD (dfH R_43)
noncomputable def s_43:Summ:=shN A_43 R_43 (fun x=>p_43 x.1) (fun x=>v_43 x.1)
theorem pv_43(a0:(Int×(Int×(Int×(Int×(Int×((List Int)×(Int×Unit)))))))){y:Bool×Unit}(h:F_43 a0=some y):p_43 a0=true/\v_43 a0=y:=pvG h
theorem run_43(x:HDen A_43)(y:HDen R_43)(h:F_43 x.1=some y):rnF sm_43 1 43 A_43 R_43 x y:=runG noO_ok (os:=[]) trivial (Eq.trans (by kernel_rfl) h)
end
noncomputable section
abbrev A_145:List Ty:=[(.int .i64)]
abbrev R_145:List Ty:=[.bool]
noncomputable def sm_145:Nat->Option Summ:=smL [(84,s_84)]
noncomputable def F_145(a0:Int):Option (Bool×Unit) :=
 gd (p_84 a0 (-1099511627776:Int) 1099511627776) (some ((v_84 a0 (-1099511627776:Int) 1099511627776).1,PUnit.unit))
noncomputable def Sp.p_145(a0:Int):Bool:=(F_145 a0).isSome
noncomputable def Sp.v_145(a0:Int):Bool×Unit:=(F_145 a0).getD (dfH R_145)
noncomputable def s_145:Summ:=shN A_145 R_145 (fun x=>p_145 x.1) (fun x=>v_145 x.1)
theorem pv_145(a0:Int){y:Bool×Unit}(h:F_145 a0=some y):p_145 a0=true/\v_145 a0=y:=pvG h
theorem run_145(x:HDen A_145)(y:HDen R_145)(h:F_145 x.1=some y):rnF sm_145 1 145 A_145 R_145 x y:=runG noO_ok (os:=[]) trivial (Eq.trans (by kernel_rfl) h)
end
noncomputable section
abbrev A_118:List Ty:=[(.pair (.int .i64) (.pair (.int .i64) (.pair (.int .i64) (.pair (.int .i64) (.pair (.int .i64) (.pair (.int .i64) (.pair .bool (.pair (.int .i64) .unit)))))))),(.slice (.int .i64))]
abbrev R_118:List Ty:=[.bool]
noncomputable def sm_118:Nat->Option Summ:=smL [(145,s_145)]
noncomputable def T_118_114_0_0:PS:=⟨19,[(0,.hv (.slice (.int .i64))),(1,.kc (.clo 144 (.pure .unit PUnit.unit))),(7,.hv (.int .i64)),(8,.hv (.int .i64))],[.mem (.hv (.pair (.int .i64) (.pair (.int .i64) (.pair (.int .i64) (.pair (.int .i64) (.pair (.int .i64) (.pair (.int .i64) (.pair .bool (.pair (.int .i64) .unit)))))))))],1⟩
inductive Sp.E_118_114_0_0 where
 |e0 (p2:Int) (p3:Int×Int×Int×Int×Int×Int×Bool×Int×Unit)
 |e1 (p3:Int×Int×Int×Int×Int×Int×Bool×Int×Unit)
noncomputable def Sp.B_118_114_0_0{R:Type}(r:Option E_118_114_0_0)(k0:Int->(Int×Int×Int×Int×Int×Int×Bool×Int×Unit)->Option R)(k1:(Int×Int×Int×Int×Int×Int×Bool×Int×Unit)->Option R):Option R:=match r with
 |none=>none
 |some (.e0 p2 p3)=>k0 p2 p3
 |some (.e1 p3)=>k1 p3
noncomputable def Y_118_114_0_0{R:Type}(k:Ex->St->Option R):E_118_114_0_0->Option R
 | .e0 p2 p3=>k Ex.ret (sx 19 [(4,CV.int i64 p2)] [Blk.mem (CV.pure (Ty.pair (Ty.int i64) (Ty.pair (Ty.int i64) (Ty.pair (Ty.int i64) (Ty.pair (Ty.int i64) (Ty.pair (Ty.int i64) (Ty.pair (Ty.int i64) (Ty.pair Ty.bool (Ty.pair (Ty.int i64) Ty.unit)))))))) p3)] 1)
 | .e1 p3=>k (Ex.exit 0) (sx 19 [] [Blk.mem (CV.pure (Ty.pair (Ty.int i64) (Ty.pair (Ty.int i64) (Ty.pair (Ty.int i64) (Ty.pair (Ty.int i64) (Ty.pair (Ty.int i64) (Ty.pair (Ty.int i64) (Ty.pair Ty.bool (Ty.pair (Ty.int i64) Ty.unit)))))))) p3)] 1)
noncomputable def Sp.S_118_114_0_0{R:Type}(K:List Int->Int->Int->(Int×Int×Int×Int×Int×Int×Bool×Int×Unit)->Option R)(k:E_118_114_0_0->Option R)(p0:List Int)(p1 p2:Int)(p3:Int×Int×Int×Int×Int×Int×Bool×Int×Unit):Option R:=
 bif decide (p2<p1)then gd (inB p2 (length p0)) (gd (p_145 (getD p0 (toNat p2) 0)) (bif !(v_145 (getD p0 (toNat p2) 0)).1 then k (E_118_114_0_0.e0 p2 p3)else K p0 p1 (wrap i64 (p2+1)) p3))else k (E_118_114_0_0.e1 p3)
noncomputable def Sp.L_118_114_0_0:Nat->List Int->Int->Int->(Int×Int×Int×Int×Int×Int×Bool×Int×Unit)->Option E_118_114_0_0
 |0,_,_,_,_=>none
 |m+1,p0,p1,p2,p3=>S_118_114_0_0 (L_118_114_0_0 m) some p0 p1 p2 p3
noncomputable def l_118_114_0_0(m:Nat)(a:T_118_114_0_0.E):Option E_118_114_0_0:=L_118_114_0_0 m a.1 a.2.1 a.2.2.1 a.2.2.2.1
noncomputable def O_118_114_0_0{R:Type}:Orc R:=orL T_118_114_0_0 (l_118_114_0_0 FU) Y_118_114_0_0
theorem OK_118_114_0_0{R:Type}:okF (R:=R) sm_118 3 (nf 114 0) O_118_114_0_0:=lp0 T_118_114_0_0 l_118_114_0_0 (fun R K k a=>S_118_114_0_0 (fun p0 p1 p2 p3=>K (p0,p1,p2,p3,())) k a.1 a.2.1 a.2.2.1 a.2.2.2.1) Y_118_114_0_0 (fun _ _ _=>by kernel_rfl) (fun _ _ _=>by
 unfold S_118_114_0_0
 repeat' first|apply gdN|apply condN|rfl) (ok0 _)
noncomputable def g_118_114{R:Type}:List CV->List Blk->(CV->List Blk->Option R)->Option R:=evFnL sm_118 FU (ovr noO (evFn sm_118 fns FU 3)) (mkT (fB fns 114) [O_118_114_0_0]) (fO fns 114)
theorem g_118_114_ok{R:Type}(args:List CV)(hp:List Blk)(k:CV->List Blk->Option R)(r:R)(h:g_118_114 args hp k=some r):evFn sm_118 fns FU 4 114 args hp k=some r:=runG noO_ok (os:=[O_118_114_0_0]) ⟨OK_118_114_0_0,trivial⟩ h
noncomputable def ov_118_73{R:Type}:Nat->Option (List CV->List Blk->(CV->List Blk->Option R)->Option R):=fun f'=>bif Nat.beq f' 114 then some g_118_114 else none
theorem ov_118_73_ok{R:Type}:OvrOK (R:=R) ov_118_73 (evFn sm_118 fns FU 4):=by
 intro f' g h args hp k r hg
 dsimp only[ov_118_73]at h
 by_cases h114:f'=114
 ·subst h114
  injection h with h
  subst h
  exact evFn_le 0 (g_118_114_ok _ _ _ _ hg)
 rw[nbeq_ne h114,cond_false]at h
 cases h
noncomputable def g_118_73{R:Type}:List CV->List Blk->(CV->List Blk->Option R)->Option R:=evFnL sm_118 FU (ovr ov_118_73 (evFn sm_118 fns FU 4)) (mkT (fB fns 73) []) (fO fns 73)
theorem g_118_73_ok{R:Type}(args:List CV)(hp:List Blk)(k:CV->List Blk->Option R)(r:R)(h:g_118_73 args hp k=some r):evFn sm_118 fns FU 5 73 args hp k=some r:=runG ov_118_73_ok (os:=[]) trivial h
noncomputable def ov_118_118{R:Type}:Nat->Option (List CV->List Blk->(CV->List Blk->Option R)->Option R):=fun f'=>bif Nat.beq f' 73 then some g_118_73 else none
theorem ov_118_118_ok{R:Type}:OvrOK (R:=R) ov_118_118 (evFn sm_118 fns FU 5):=by
 intro f' g h args hp k r hg
 dsimp only[ov_118_118]at h
 by_cases h73:f'=73
 ·subst h73
  injection h with h
  subst h
  exact evFn_le 0 (g_118_73_ok _ _ _ _ hg)
 rw[nbeq_ne h73,cond_false]at h
 cases h
noncomputable def F_118(a0:(Int×(Int×(Int×(Int×(Int×(Int×(Bool×(Int×Unit)))))))))(a1:(List Int)):Option (Bool×Unit) :=
 bif(↑(length a1):Int)==a0.2.2.2.2.2.2.2.1 then B_118_114_0_0 (L_118_114_0_0 4611686018427387904 a1 (↑(length a1):Int) 0 a0) (fun y3 y4=>some (!decide (y3>=0),PUnit.unit)) fun y5=>some (true,PUnit.unit)else some (false,PUnit.unit)
noncomputable def Sp.p_118(a0:(Int×(Int×(Int×(Int×(Int×(Int×(Bool×(Int×Unit)))))))))(a1:(List Int)):Bool:=(F_118 a0 a1).isSome
noncomputable def Sp.v_118(a0:(Int×(Int×(Int×(Int×(Int×(Int×(Bool×(Int×Unit)))))))))(a1:(List Int)):Bool×Unit:=(F_118 a0 a1).getD (dfH R_118)
noncomputable def s_118:Summ:=shN A_118 R_118 (fun x=>p_118 x.1 x.2.1) (fun x=>v_118 x.1 x.2.1)
theorem pv_118(a0:(Int×(Int×(Int×(Int×(Int×(Int×(Bool×(Int×Unit)))))))))(a1:(List Int)){y:Bool×Unit}(h:F_118 a0 a1=some y):p_118 a0 a1=true/\v_118 a0 a1=y:=pvG h
theorem run_118(x:HDen A_118)(y:HDen R_118)(h:F_118 x.1 x.2.1=some y):rnF sm_118 6 118 A_118 R_118 x y:=runG ov_118_118_ok (os:=[]) trivial (Eq.trans (by kernel_rfl) h)
end
noncomputable section
abbrev A_119:List Ty:=[(.pair (.int .i64) (.pair (.int .i64) (.pair (.int .i64) (.pair (.int .i64) (.pair (.int .i64) (.pair (.slice (.int .i64)) (.pair (.int .i64) .unit))))))),(.int .i64)]
abbrev R_119:List Ty:=[.bool]
noncomputable def sm_119:Nat->Option Summ:=smL []
noncomputable def F_119(a0:(Int×(Int×(Int×(Int×(Int×((List Int)×(Int×Unit))))))))(a1:Int):Option (Bool×Unit) :=
 some (Sp.andI i64 (a0.1) a1==a1,PUnit.unit)
noncomputable def Sp.p_119(a0:(Int×(Int×(Int×(Int×(Int×((List Int)×(Int×Unit))))))))(a1:Int):Bool:=(F_119 a0 a1).isSome
noncomputable def Sp.v_119(a0:(Int×(Int×(Int×(Int×(Int×((List Int)×(Int×Unit))))))))(a1:Int):Bool×Unit:=(F_119 a0 a1).getD (dfH R_119)
noncomputable def s_119:Summ:=shN A_119 R_119 (fun x=>p_119 x.1 x.2.1) (fun x=>v_119 x.1 x.2.1)
theorem pv_119(a0:(Int×(Int×(Int×(Int×(Int×((List Int)×(Int×Unit))))))))(a1:Int){y:Bool×Unit}(h:F_119 a0 a1=some y):p_119 a0 a1=true/\v_119 a0 a1=y:=pvG h
theorem run_119(x:HDen A_119)(y:HDen R_119)(h:F_119 x.1 x.2.1=some y):rnF sm_119 1 119 A_119 R_119 x y:=runG noO_ok (os:=[]) trivial (Eq.trans (by kernel_rfl) h)
end
noncomputable section
abbrev A_120:List Ty:=[(.pair (.int .i64) (.pair (.int .i64) (.pair (.int .i64) (.pair (.int .i64) (.pair (.int .i64) (.pair (.slice (.int .i64)) (.pair (.int .i64) .unit)))))))]
abbrev R_120:List Ty:=[.bool]
noncomputable def sm_120:Nat->Option Summ:=smL []
noncomputable def F_120(a0:(Int×(Int×(Int×(Int×(Int×((List Int)×(Int×Unit)))))))):Option (Bool×Unit) :=
 some (Sp.andI i64 (a0.1) (6:Int)!=(0:Int),PUnit.unit)
noncomputable def Sp.p_120(a0:(Int×(Int×(Int×(Int×(Int×((List Int)×(Int×Unit)))))))):Bool:=(F_120 a0).isSome
noncomputable def Sp.v_120(a0:(Int×(Int×(Int×(Int×(Int×((List Int)×(Int×Unit)))))))):Bool×Unit:=(F_120 a0).getD (dfH R_120)
noncomputable def s_120:Summ:=shN A_120 R_120 (fun x=>p_120 x.1) (fun x=>v_120 x.1)
theorem pv_120(a0:(Int×(Int×(Int×(Int×(Int×((List Int)×(Int×Unit)))))))){y:Bool×Unit}(h:F_120 a0=some y):p_120 a0=true/\v_120 a0=y:=pvG h
theorem run_120(x:HDen A_120)(y:HDen R_120)(h:F_120 x.1=some y):rnF sm_120 1 120 A_120 R_120 x y:=runG noO_ok (os:=[]) trivial (Eq.trans (by kernel_rfl) h)
end
noncomputable section
abbrev Zt85_0:Type:=Int×Int×Int×Int×Int×List Int×Int×Unit
abbrev Zt85_1:Type:=Int×Int×Int×Int×Int×Int×Bool×Int×Unit
abbrev Zy85_2:Ty:=(.pair (.int .i64) (.pair (.int .i64) (.pair (.int .i64) (.pair (.int .i64) (.pair (.int .i64) (.pair (.int .i64) (.pair .bool (.pair (.int .i64) .unit))))))))
abbrev Zy85_3:Ty:=(.pair (.int .i64) (.pair (.int .i64) (.pair (.int .i64) (.pair (.int .i64) (.pair (.int .i64) (.pair (.slice (.int .i64)) (.pair (.int .i64) .unit)))))))
abbrev A_85:List Ty:=[(.pair (.int .i64) (.pair (.int .i64) (.pair (.int .i64) (.pair (.int .i64) (.pair (.int .i64) (.pair (.int .i64) (.pair .bool (.pair (.int .i64) .unit)))))))),(.pair (.int .i64) (.pair (.int .i64) (.pair (.int .i64) (.pair (.int .i64) (.pair (.int .i64) (.pair (.slice (.int .i64)) (.pair (.int .i64) .unit))))))),(.int .i64)]
abbrev R_85:List Ty:=[.bool]
noncomputable def sm_85:Nat->Option Summ:=smL [(84,s_84),(118,s_118),(119,s_119),(120,s_120)]
noncomputable def T_85_3:PS:=⟨153,[(3,.kc (.ptr 0 [])),(4,.kc (.ptr 1 []))],[.mem (.hv Zy85_2),.mem (.hv Zy85_3)],0⟩
inductive Sp.E_85_3 where
 |e0 (p0:Zt85_1) (p1:Zt85_0)
 |e1
 |e2 (p0:Zt85_1) (p1:Zt85_0)
noncomputable def Sp.B_85_3{R:Type}(r:Option E_85_3)(k0:Zt85_1->Zt85_0->Option R)(k1:Option R)(k2:Zt85_1->Zt85_0->Option R):Option R:=match r with
 |none=>none
 |some (.e0 p0 p1)=>k0 p0 p1
 |some (.e1)=>k1
 |some (.e2 p0 p1)=>k2 p0 p1
theorem Bn_85_3{A R:Type}{r:Option E_85_3}{f:A->Option R}{k0:Zt85_1->Zt85_0->Option A}{k1:Option A}{k2:Zt85_1->Zt85_0->Option A}{l0:Zt85_1->Zt85_0->Option R}{l1:Option R}{l2:Zt85_1->Zt85_0->Option R}(h0:∀p0 p1,(k0 p0 p1).bind f=l0 p0 p1)(h1:(k1).bind f=l1)(h2:∀p0 p1,(k2 p0 p1).bind f=l2 p0 p1):(B_85_3 r k0 k1 k2).bind f=B_85_3 r l0 l1 l2:=by
 cases r with
 |none=>rfl
 |some e=>cases e<;>first|apply h0|apply h1|apply h2
noncomputable def Y_85_3{R:Type}(k:Ex->St->Option R):E_85_3->Option R
 | .e0 p0 p1=>k Ex.ret (sx 153 [(6,CV.bool ((↑(length (p1.2.2.2.2.2.1)):Int)==p0.2.2.2.2.2.2.2.1))] [])
 | .e1=>k Ex.ret (sx 153 [(6,CV.bool false)] [])
 | .e2 p0 p1=>k Ex.normal (sx 153 [(3,CV.ptr 0 []),(4,CV.ptr 1 []),(105,CV.bool false),(106,CV.pure (Ty.pair (Ty.int i64) (Ty.pair (Ty.int i64) (Ty.pair (Ty.int i64) (Ty.pair (Ty.int i64) (Ty.pair (Ty.int i64) (Ty.pair (Ty.slice (Ty.int i64)) (Ty.pair (Ty.int i64) Ty.unit))))))) p1),(107,CV.bool ((v_120 p1).1))] [Blk.mem (CV.pure (Ty.pair (Ty.int i64) (Ty.pair (Ty.int i64) (Ty.pair (Ty.int i64) (Ty.pair (Ty.int i64) (Ty.pair (Ty.int i64) (Ty.pair (Ty.int i64) (Ty.pair Ty.bool (Ty.pair (Ty.int i64) Ty.unit)))))))) p0),Blk.mem (CV.pure (Ty.pair (Ty.int i64) (Ty.pair (Ty.int i64) (Ty.pair (Ty.int i64) (Ty.pair (Ty.int i64) (Ty.pair (Ty.int i64) (Ty.pair (Ty.slice (Ty.int i64)) (Ty.pair (Ty.int i64) Ty.unit))))))) p1)])
noncomputable def Sp.S_85_3{R:Type}(k:E_85_3->Option R)(p0:Int×Int×Int×Int×Int×Int×Bool×Int×Unit)(p1:Int×Int×Int×Int×Int×List Int×Int×Unit):Option R:=
 gd (p_120 p1) (bif(v_120 p1).1 then bif decide (p1.2.2.2.2.1>=1)then bif decide (p1.2.2.1>=1)then bif decide (p1.2.2.2.2.2.2.1>=1)then k (E_85_3.e0 p0 p1)else k (E_85_3.e1)else k (E_85_3.e1)else k (E_85_3.e1)else k (E_85_3.e2 p0 p1))
noncomputable def Sp.J_85_3(p0:Int×Int×Int×Int×Int×Int×Bool×Int×Unit)(p1:Int×Int×Int×Int×Int×List Int×Int×Unit):Option E_85_3:=S_85_3 some p0 p1
noncomputable def O_85_3{R:Type}:Orc R:=orL T_85_3 (fun a=>J_85_3 a.1 a.2.1) Y_85_3
theorem OK_85_3{R:Type}:okF (R:=R) sm_85 0 (ni (ni (ni (nf 85 0) 0) 0) 0) O_85_3:=jp noO_ok (os:=[]) trivial T_85_3 (fun R k a=>S_85_3 k a.1 a.2.1) Y_85_3 (fun k a=>by kernel_rfl) (fun Y a=>by
 unfold S_85_3
 repeat' first|apply gdN|apply condN|rfl) (ok0 _)
noncomputable def T_85_2:PS:=⟨153,[(3,.kc (.ptr 0 [])),(4,.kc (.ptr 1 []))],[.mem (.hv Zy85_2),.mem (.hv Zy85_3)],0⟩
inductive Sp.E_85_2 where
 |e0
 |e1 (y8:Zt85_1) (y9:Zt85_0)
 |e2 (y10:Zt85_1) (y11:Zt85_0)
noncomputable def Sp.B_85_2{R:Type}(r:Option E_85_2)(k0:Option R)(k1 k2:Zt85_1->Zt85_0->Option R):Option R:=match r with
 |none=>none
 |some (.e0)=>k0
 |some (.e1 y8 y9)=>k1 y8 y9
 |some (.e2 y10 y11)=>k2 y10 y11
theorem Bn_85_2{A R:Type}{r:Option E_85_2}{f:A->Option R}{k0:Option A}{k1:Zt85_1->Zt85_0->Option A}{k2:Zt85_1->Zt85_0->Option A}{l0:Option R}{l1:Zt85_1->Zt85_0->Option R}{l2:Zt85_1->Zt85_0->Option R}(h0:(k0).bind f=l0)(h1:∀y8 y9,(k1 y8 y9).bind f=l1 y8 y9)(h2:∀y10 y11,(k2 y10 y11).bind f=l2 y10 y11):(B_85_2 r k0 k1 k2).bind f=B_85_2 r l0 l1 l2:=by
 cases r with
 |none=>rfl
 |some e=>cases e<;>first|apply h0|apply h1|apply h2
noncomputable def Y_85_2{R:Type}(k:Ex->St->Option R):E_85_2->Option R
 | .e0=>k Ex.ret (sx 153 [(6,CV.bool false)] [])
 | .e1 y8 y9=>k Ex.ret (sx 153 [(6,CV.bool ((↑(length (y9.2.2.2.2.2.1)):Int)==y8.2.2.2.2.2.2.2.1))] [])
 | .e2 y10 y11=>k Ex.normal (sx 153 [(3,CV.ptr 0 []),(4,CV.ptr 1 []),(105,CV.bool false),(106,CV.pure (Ty.pair (Ty.int i64) (Ty.pair (Ty.int i64) (Ty.pair (Ty.int i64) (Ty.pair (Ty.int i64) (Ty.pair (Ty.int i64) (Ty.pair (Ty.slice (Ty.int i64)) (Ty.pair (Ty.int i64) Ty.unit))))))) y11),(107,CV.bool ((v_120 y11).1))] [Blk.mem (CV.pure (Ty.pair (Ty.int i64) (Ty.pair (Ty.int i64) (Ty.pair (Ty.int i64) (Ty.pair (Ty.int i64) (Ty.pair (Ty.int i64) (Ty.pair (Ty.int i64) (Ty.pair Ty.bool (Ty.pair (Ty.int i64) Ty.unit)))))))) y10),Blk.mem (CV.pure (Ty.pair (Ty.int i64) (Ty.pair (Ty.int i64) (Ty.pair (Ty.int i64) (Ty.pair (Ty.int i64) (Ty.pair (Ty.int i64) (Ty.pair (Ty.slice (Ty.int i64)) (Ty.pair (Ty.int i64) Ty.unit))))))) y11)])
noncomputable def Sp.S_85_2{R:Type}(k:E_85_2->Option R)(p0:Int×Int×Int×Int×Int×Int×Bool×Int×Unit)(p1:Int×Int×Int×Int×Int×List Int×Int×Unit):Option R:=
 gd (p_119 p1 2) (bif(v_119 p1 2).1 then bif p1.2.2.2.1 !=0 then k (E_85_2.e0)else B_85_3 (J_85_3 p0 p1) (fun y8 y9=>k (E_85_2.e1 y8 y9)) (k (E_85_2.e0)) fun y10 y11=>k (E_85_2.e2 y10 y11)else B_85_3 (J_85_3 p0 p1) (fun y12 y13=>k (E_85_2.e1 y12 y13)) (k (E_85_2.e0)) fun y14 y15=>k (E_85_2.e2 y14 y15))
noncomputable def Sp.J_85_2(p0:Int×Int×Int×Int×Int×Int×Bool×Int×Unit)(p1:Int×Int×Int×Int×Int×List Int×Int×Unit):Option E_85_2:=S_85_2 some p0 p1
noncomputable def O_85_2{R:Type}:Orc R:=orL T_85_2 (fun a=>J_85_2 a.1 a.2.1) Y_85_2
theorem OK_85_2{R:Type}:okF (R:=R) sm_85 0 (ni (ni (nf 85 0) 0) 0) O_85_2:=jp noO_ok (os:=[O_85_3]) ⟨OK_85_3,trivial⟩ T_85_2 (fun R k a=>S_85_2 k a.1 a.2.1) Y_85_2 (fun k a=>by kernel_rfl) (fun Y a=>by
 unfold S_85_2
 repeat' first|apply gdN|apply condN|(apply Bn_85_3<;>intros)|rfl) (ok0 _)
noncomputable def T_85_1:PS:=⟨153,[(3,.kc (.ptr 0 [])),(4,.kc (.ptr 1 []))],[.mem (.hv Zy85_2),.mem (.hv Zy85_3)],0⟩
inductive Sp.E_85_1 where
 |e0
 |e1 (y8:Zt85_1) (y9:Zt85_0)
 |e2 (y10:Zt85_1) (y11:Zt85_0)
noncomputable def Sp.B_85_1{R:Type}(r:Option E_85_1)(k0:Option R)(k1 k2:Zt85_1->Zt85_0->Option R):Option R:=match r with
 |none=>none
 |some (.e0)=>k0
 |some (.e1 y8 y9)=>k1 y8 y9
 |some (.e2 y10 y11)=>k2 y10 y11
theorem Bn_85_1{A R:Type}{r:Option E_85_1}{f:A->Option R}{k0:Option A}{k1:Zt85_1->Zt85_0->Option A}{k2:Zt85_1->Zt85_0->Option A}{l0:Option R}{l1:Zt85_1->Zt85_0->Option R}{l2:Zt85_1->Zt85_0->Option R}(h0:(k0).bind f=l0)(h1:∀y8 y9,(k1 y8 y9).bind f=l1 y8 y9)(h2:∀y10 y11,(k2 y10 y11).bind f=l2 y10 y11):(B_85_1 r k0 k1 k2).bind f=B_85_1 r l0 l1 l2:=by
 cases r with
 |none=>rfl
 |some e=>cases e<;>first|apply h0|apply h1|apply h2
noncomputable def Y_85_1{R:Type}(k:Ex->St->Option R):E_85_1->Option R
 | .e0=>k Ex.ret (sx 153 [(6,CV.bool false)] [])
 | .e1 y8 y9=>k Ex.ret (sx 153 [(6,CV.bool ((↑(length (y9.2.2.2.2.2.1)):Int)==y8.2.2.2.2.2.2.2.1))] [])
 | .e2 y10 y11=>k Ex.normal (sx 153 [(3,CV.ptr 0 []),(4,CV.ptr 1 []),(105,CV.bool false),(106,CV.pure (Ty.pair (Ty.int i64) (Ty.pair (Ty.int i64) (Ty.pair (Ty.int i64) (Ty.pair (Ty.int i64) (Ty.pair (Ty.int i64) (Ty.pair (Ty.slice (Ty.int i64)) (Ty.pair (Ty.int i64) Ty.unit))))))) y11),(107,CV.bool ((v_120 y11).1))] [Blk.mem (CV.pure (Ty.pair (Ty.int i64) (Ty.pair (Ty.int i64) (Ty.pair (Ty.int i64) (Ty.pair (Ty.int i64) (Ty.pair (Ty.int i64) (Ty.pair (Ty.int i64) (Ty.pair Ty.bool (Ty.pair (Ty.int i64) Ty.unit)))))))) y10),Blk.mem (CV.pure (Ty.pair (Ty.int i64) (Ty.pair (Ty.int i64) (Ty.pair (Ty.int i64) (Ty.pair (Ty.int i64) (Ty.pair (Ty.int i64) (Ty.pair (Ty.slice (Ty.int i64)) (Ty.pair (Ty.int i64) Ty.unit))))))) y11)])
noncomputable def Sp.S_85_1{R:Type}(k:E_85_1->Option R)(p0:Int×Int×Int×Int×Int×Int×Bool×Int×Unit)(p1:Int×Int×Int×Int×Int×List Int×Int×Unit):Option R:=
 gd (p_119 p1 4) (bif !(v_119 p1 4).1==(p1.2.2.1==2)then k (E_85_1.e0)else gd (p_119 p1 16) (bif(v_119 p1 16).1 then gd (p_119 p1 4) (bif !(v_119 p1 4).1 then k (E_85_1.e0)else bif !p0.2.2.2.2.2.2.1 then k (E_85_1.e0)else B_85_2 (J_85_2 p0 p1) (k (E_85_1.e0)) (fun y8 y9=>k (E_85_1.e1 y8 y9)) fun y10 y11=>k (E_85_1.e2 y10 y11))else B_85_2 (J_85_2 p0 p1) (k (E_85_1.e0)) (fun y12 y13=>k (E_85_1.e1 y12 y13)) fun y14 y15=>k (E_85_1.e2 y14 y15)))
noncomputable def Sp.J_85_1(p0:Int×Int×Int×Int×Int×Int×Bool×Int×Unit)(p1:Int×Int×Int×Int×Int×List Int×Int×Unit):Option E_85_1:=S_85_1 some p0 p1
noncomputable def O_85_1{R:Type}:Orc R:=orL T_85_1 (fun a=>J_85_1 a.1 a.2.1) Y_85_1
theorem OK_85_1{R:Type}:okF (R:=R) sm_85 0 (ni (nf 85 0) 0) O_85_1:=jp noO_ok (os:=[O_85_2]) ⟨OK_85_2,trivial⟩ T_85_1 (fun R k a=>S_85_1 k a.1 a.2.1) Y_85_1 (fun k a=>by kernel_rfl) (fun Y a=>by
 unfold S_85_1
 repeat' first|apply gdN|apply condN|(apply Bn_85_2<;>intros)|rfl) (ok0 _)
noncomputable def T_85_0:PS:=⟨153,[(2,.hv (.int .i64)),(3,.kc (.ptr 0 [])),(4,.kc (.ptr 1 []))],[.mem (.hv Zy85_2),.mem (.hv Zy85_3)],0⟩
inductive Sp.E_85_0 where
 |e0
 |e1 (y8:Zt85_1) (y9:Zt85_0)
 |e2 (y11:Zt85_0)
noncomputable def Sp.B_85_0{R:Type}(r:Option E_85_0)(k0:Option R)(k1:Zt85_1->Zt85_0->Option R)(k2:Zt85_0->Option R):Option R:=match r with
 |none=>none
 |some (.e0)=>k0
 |some (.e1 y8 y9)=>k1 y8 y9
 |some (.e2 y11)=>k2 y11
noncomputable def Y_85_0{R:Type}(k:Ex->St->Option R):E_85_0->Option R
 | .e0=>k Ex.ret (sx 153 [(6,CV.bool false)] [])
 | .e1 y8 y9=>k Ex.ret (sx 153 [(6,CV.bool ((↑(length (y9.2.2.2.2.2.1)):Int)==y8.2.2.2.2.2.2.2.1))] [])
 | .e2 y11=>k Ex.ret (sx 153 [(6,CV.bool ((↑(length (y11.2.2.2.2.2.1)):Int)==0))] [])
noncomputable def Sp.S_85_0{R:Type}(k:E_85_0->Option R)(p0:Int)(p1:Int×Int×Int×Int×Int×Int×Bool×Int×Unit)(p2:Int×Int×Int×Int×Int×List Int×Int×Unit):Option R:=
 gd (p_119 p2 1) (bif(v_119 p2 1).1 then gd (p_119 p2 10) (bif !(v_119 p2 10).1 then k (E_85_0.e0)else bif p2.2.2.2.2.2.2.1 !=p0 then k (E_85_0.e0)else B_85_1 (J_85_1 p1 p2) (k (E_85_0.e0)) (fun y8 y9=>k (E_85_0.e1 y8 y9)) fun y10 y11=>bif y11.2.2.1==0 then bif y11.2.2.2.1==0 then bif y11.2.2.2.2.1==0 then bif y11.2.2.2.2.2.2.1==0 then k (E_85_0.e2 y11)else k (E_85_0.e0)else k (E_85_0.e0)else k (E_85_0.e0)else k (E_85_0.e0))else B_85_1 (J_85_1 p1 p2) (k (E_85_0.e0)) (fun y12 y13=>k (E_85_0.e1 y12 y13)) fun y14 y15=>bif y15.2.2.1==0 then bif y15.2.2.2.1==0 then bif y15.2.2.2.2.1==0 then bif y15.2.2.2.2.2.2.1==0 then k (E_85_0.e2 y15)else k (E_85_0.e0)else k (E_85_0.e0)else k (E_85_0.e0)else k (E_85_0.e0))
noncomputable def Sp.J_85_0(p0:Int)(p1:Int×Int×Int×Int×Int×Int×Bool×Int×Unit)(p2:Int×Int×Int×Int×Int×List Int×Int×Unit):Option E_85_0:=S_85_0 some p0 p1 p2
noncomputable def O_85_0{R:Type}:Orc R:=orL T_85_0 (fun a=>J_85_0 a.1 a.2.1 a.2.2.1) Y_85_0
theorem OK_85_0{R:Type}:okF (R:=R) sm_85 0 (nf 85 0) O_85_0:=jp noO_ok (os:=[O_85_1]) ⟨OK_85_1,trivial⟩ T_85_0 (fun R k a=>S_85_0 k a.1 a.2.1 a.2.2.1) Y_85_0 (fun k a=>by kernel_rfl) (fun Y a=>by
 unfold S_85_0
 repeat' first|apply gdN|apply condN|(apply Bn_85_1<;>intros)|rfl) (ok0 _)
noncomputable def F_85(a0:(Int×(Int×(Int×(Int×(Int×(Int×(Bool×(Int×Unit)))))))))(a1:(Int×(Int×(Int×(Int×(Int×((List Int)×(Int×Unit))))))))(a2:Int):Option (Bool×Unit) :=
 gd (p_84 (a1.1) 0 31) (bif !(v_84 (a1.1) 0 31).1 then some (false,PUnit.unit)else gd (p_84 (a1.2.1) (wrap i64 (0-a0.2.2.1)) (a0.2.1)) (bif !(v_84 (a1.2.1) (wrap i64 (0-a0.2.2.1)) (a0.2.1)).1 then some (false,PUnit.unit)else gd (p_84 (a1.2.2.1) 0 2) (bif !(v_84 (a1.2.2.1) 0 2).1 then some (false,PUnit.unit)else gd (p_84 (a1.2.2.2.1) 0 (wrap i64 (a0.2.2.2.2.1-1))) (bif !(v_84 (a1.2.2.2.1) 0 (wrap i64 (a0.2.2.2.2.1-1))).1 then some (false,PUnit.unit)else gd (p_84 (a1.2.2.2.2.1) 0 255) (bif !(v_84 (a1.2.2.2.2.1) 0 255).1 then some (false,PUnit.unit)else gd (p_84 (a1.2.2.2.2.2.2.1) 0 a2) (bif !(v_84 (a1.2.2.2.2.2.2.1) 0 a2).1 then some (false,PUnit.unit)else bif decide ((↑(length (a1.2.2.2.2.2.1)):Int)>0)then gd (p_118 a0 (a1.2.2.2.2.2.1)) (bif !(v_118 a0 (a1.2.2.2.2.2.1)).1 then some (false,PUnit.unit)else B_85_0 (J_85_0 a2 a0 a1) (some (false,PUnit.unit)) (fun y14 y15=>some ((↑(length (y15.2.2.2.2.2.1)):Int)==y14.2.2.2.2.2.2.2.1,PUnit.unit)) fun y16=>some ((↑(length (y16.2.2.2.2.2.1)):Int)==0,PUnit.unit))else B_85_0 (J_85_0 a2 a0 a1) (some (false,PUnit.unit)) (fun y17 y18=>some ((↑(length (y18.2.2.2.2.2.1)):Int)==y17.2.2.2.2.2.2.2.1,PUnit.unit)) fun y19=>some ((↑(length (y19.2.2.2.2.2.1)):Int)==0,PUnit.unit)))))))
noncomputable def Sp.p_85(a0:(Int×(Int×(Int×(Int×(Int×(Int×(Bool×(Int×Unit)))))))))(a1:(Int×(Int×(Int×(Int×(Int×((List Int)×(Int×Unit))))))))(a2:Int):Bool:=(F_85 a0 a1 a2).isSome
noncomputable def Sp.v_85(a0:(Int×(Int×(Int×(Int×(Int×(Int×(Bool×(Int×Unit)))))))))(a1:(Int×(Int×(Int×(Int×(Int×((List Int)×(Int×Unit))))))))(a2:Int):Bool×Unit:=(F_85 a0 a1 a2).getD (dfH R_85)
noncomputable def s_85:Summ:=shN A_85 R_85 (fun x=>p_85 x.1 x.2.1 x.2.2.1) (fun x=>v_85 x.1 x.2.1 x.2.2.1)
theorem pv_85(a0:(Int×(Int×(Int×(Int×(Int×(Int×(Bool×(Int×Unit)))))))))(a1:(Int×(Int×(Int×(Int×(Int×((List Int)×(Int×Unit))))))))(a2:Int){y:Bool×Unit}(h:F_85 a0 a1 a2=some y):p_85 a0 a1 a2=true/\v_85 a0 a1 a2=y:=pvG h
theorem run_85(x:HDen A_85)(y:HDen R_85)(h:F_85 x.1 x.2.1 x.2.2.1=some y):rnF sm_85 1 85 A_85 R_85 x y:=runG noO_ok (os:=[O_85_0]) ⟨OK_85_0,trivial⟩ (Eq.trans (by kernel_rfl) h)
end
noncomputable section
abbrev Zy44_0:Ty:=(.pair (.slice (.pair (.int .i64) (.pair (.int .i64) (.pair (.int .i64) (.pair (.int .i64) (.pair (.int .i64) (.pair (.int .i64) (.pair .bool (.pair (.int .i64) .unit))))))))) (.pair (.slice (.pair (.int .i64) (.pair (.int .i64) (.pair (.int .i64) (.pair (.int .i64) (.pair (.int .i64) (.pair (.slice (.int .i64)) (.pair (.int .i64) .unit)))))))) (.pair (.int .i64) (.pair .bool .unit))))
abbrev Zt44_1:Type:=List (Int×Int×Int×Int×Int×Int×Bool×Int×Unit)×List (Int×Int×Int×Int×Int×List Int×Int×Unit)×Int×Bool×Unit
abbrev A_44:List Ty:=[(.pair (.slice (.pair (.int .i64) (.pair (.int .i64) (.pair (.int .i64) (.pair (.int .i64) (.pair (.int .i64) (.pair (.int .i64) (.pair .bool (.pair (.int .i64) .unit))))))))) (.pair (.slice (.pair (.int .i64) (.pair (.int .i64) (.pair (.int .i64) (.pair (.int .i64) (.pair (.int .i64) (.pair (.slice (.int .i64)) (.pair (.int .i64) .unit)))))))) (.pair (.int .i64) (.pair .bool .unit))))]
abbrev R_44:List Ty:=[.bool]
noncomputable def sm_44:Nat->Option Summ:=smL [(82,s_82),(84,s_84),(85,s_85),(117,s_117)]
noncomputable def T_44_116_0_0:PS:=⟨19,[(0,.hv (.slice (.pair (.int .i64) (.pair (.int .i64) (.pair (.int .i64) (.pair (.int .i64) (.pair (.int .i64) (.pair (.int .i64) (.pair .bool (.pair (.int .i64) .unit)))))))))),(1,.kc (.clo 81 (.pure .unit PUnit.unit))),(7,.hv (.int .i64)),(8,.hv (.int .i64))],[.mem (.hv Zy44_0)],1⟩
inductive Sp.E_44_116_0_0 where
 |e0 (p2:Int) (p3:Zt44_1)
 |e1 (p3:Zt44_1)
noncomputable def Sp.B_44_116_0_0{R:Type}(r:Option E_44_116_0_0)(k0:Int->Zt44_1->Option R)(k1:Zt44_1->Option R):Option R:=match r with
 |none=>none
 |some (.e0 p2 p3)=>k0 p2 p3
 |some (.e1 p3)=>k1 p3
noncomputable def Y_44_116_0_0{R:Type}(k:Ex->St->Option R):E_44_116_0_0->Option R
 | .e0 p2 p3=>k Ex.ret (sx 19 [(4,CV.int i64 p2)] [Blk.mem (CV.pure (Ty.pair (Ty.slice (Ty.pair (Ty.int i64) (Ty.pair (Ty.int i64) (Ty.pair (Ty.int i64) (Ty.pair (Ty.int i64) (Ty.pair (Ty.int i64) (Ty.pair (Ty.int i64) (Ty.pair Ty.bool (Ty.pair (Ty.int i64) Ty.unit))))))))) (Ty.pair (Ty.slice (Ty.pair (Ty.int i64) (Ty.pair (Ty.int i64) (Ty.pair (Ty.int i64) (Ty.pair (Ty.int i64) (Ty.pair (Ty.int i64) (Ty.pair (Ty.slice (Ty.int i64)) (Ty.pair (Ty.int i64) Ty.unit)))))))) (Ty.pair (Ty.int i64) (Ty.pair Ty.bool Ty.unit)))) p3)] 1)
 | .e1 p3=>k (Ex.exit 0) (sx 19 [] [Blk.mem (CV.pure (Ty.pair (Ty.slice (Ty.pair (Ty.int i64) (Ty.pair (Ty.int i64) (Ty.pair (Ty.int i64) (Ty.pair (Ty.int i64) (Ty.pair (Ty.int i64) (Ty.pair (Ty.int i64) (Ty.pair Ty.bool (Ty.pair (Ty.int i64) Ty.unit))))))))) (Ty.pair (Ty.slice (Ty.pair (Ty.int i64) (Ty.pair (Ty.int i64) (Ty.pair (Ty.int i64) (Ty.pair (Ty.int i64) (Ty.pair (Ty.int i64) (Ty.pair (Ty.slice (Ty.int i64)) (Ty.pair (Ty.int i64) Ty.unit)))))))) (Ty.pair (Ty.int i64) (Ty.pair Ty.bool Ty.unit)))) p3)] 1)
noncomputable def Sp.S_44_116_0_0{R:Type}(K:(List (Int×Int×Int×Int×Int×Int×Bool×Int×Unit))->Int->Int->(List (Int×Int×Int×Int×Int×Int×Bool×Int×Unit)×List (Int×Int×Int×Int×Int×List Int×Int×Unit)×Int×Bool×Unit)->Option R)(k:E_44_116_0_0->Option R)(p0:List (Int×Int×Int×Int×Int×Int×Bool×Int×Unit))(p1 p2:Int)(p3:List (Int×Int×Int×Int×Int×Int×Bool×Int×Unit)×List (Int×Int×Int×Int×Int×List Int×Int×Unit)×Int×Bool×Unit):Option R:=
 bif decide (p2<p1)then gd (inB p2 (length p0)) (gd (p_117 (getD p0 (toNat p2) Zd1)) (bif !(v_117 (getD p0 (toNat p2) Zd1)).1 then k (E_44_116_0_0.e0 p2 p3)else K p0 p1 (wrap i64 (p2+1)) p3))else k (E_44_116_0_0.e1 p3)
noncomputable def Sp.L_44_116_0_0:Nat->(List (Int×Int×Int×Int×Int×Int×Bool×Int×Unit))->Int->Int->(List (Int×Int×Int×Int×Int×Int×Bool×Int×Unit)×List (Int×Int×Int×Int×Int×List Int×Int×Unit)×Int×Bool×Unit)->Option E_44_116_0_0
 |0,_,_,_,_=>none
 |m+1,p0,p1,p2,p3=>S_44_116_0_0 (L_44_116_0_0 m) some p0 p1 p2 p3
noncomputable def l_44_116_0_0(m:Nat)(a:T_44_116_0_0.E):Option E_44_116_0_0:=L_44_116_0_0 m a.1 a.2.1 a.2.2.1 a.2.2.2.1
noncomputable def O_44_116_0_0{R:Type}:Orc R:=orL T_44_116_0_0 (l_44_116_0_0 FU) Y_44_116_0_0
theorem OK_44_116_0_0{R:Type}:okF (R:=R) sm_44 3 (nf 116 0) O_44_116_0_0:=lp0 T_44_116_0_0 l_44_116_0_0 (fun R K k a=>S_44_116_0_0 (fun p0 p1 p2 p3=>K (p0,p1,p2,p3,())) k a.1 a.2.1 a.2.2.1 a.2.2.2.1) Y_44_116_0_0 (fun _ _ _=>by kernel_rfl) (fun _ _ _=>by
 unfold S_44_116_0_0
 repeat' first|apply gdN|apply condN|rfl) (ok0 _)
noncomputable def g_44_116{R:Type}:List CV->List Blk->(CV->List Blk->Option R)->Option R:=evFnL sm_44 FU (ovr noO (evFn sm_44 fns FU 3)) (mkT (fB fns 116) [O_44_116_0_0]) (fO fns 116)
theorem g_44_116_ok{R:Type}(args:List CV)(hp:List Blk)(k:CV->List Blk->Option R)(r:R)(h:g_44_116 args hp k=some r):evFn sm_44 fns FU 4 116 args hp k=some r:=runG noO_ok (os:=[O_44_116_0_0]) ⟨OK_44_116_0_0,trivial⟩ h
noncomputable def ov_44_80{R:Type}:Nat->Option (List CV->List Blk->(CV->List Blk->Option R)->Option R):=fun f'=>bif Nat.beq f' 116 then some g_44_116 else none
theorem ov_44_80_ok{R:Type}:OvrOK (R:=R) ov_44_80 (evFn sm_44 fns FU 4):=by
 intro f' g h args hp k r hg
 dsimp only[ov_44_80]at h
 by_cases h116:f'=116
 ·subst h116
  injection h with h
  subst h
  exact evFn_le 0 (g_44_116_ok _ _ _ _ hg)
 rw[nbeq_ne h116,cond_false]at h
 cases h
noncomputable def g_44_80{R:Type}:List CV->List Blk->(CV->List Blk->Option R)->Option R:=evFnL sm_44 FU (ovr ov_44_80 (evFn sm_44 fns FU 4)) (mkT (fB fns 80) []) (fO fns 80)
theorem g_44_80_ok{R:Type}(args:List CV)(hp:List Blk)(k:CV->List Blk->Option R)(r:R)(h:g_44_80 args hp k=some r):evFn sm_44 fns FU 5 80 args hp k=some r:=runG ov_44_80_ok (os:=[]) trivial h
noncomputable def ov_44_44{R:Type}:Nat->Option (List CV->List Blk->(CV->List Blk->Option R)->Option R):=fun f'=>bif Nat.beq f' 80 then some g_44_80 else none
theorem ov_44_44_ok{R:Type}:OvrOK (R:=R) ov_44_44 (evFn sm_44 fns FU 5):=by
 intro f' g h args hp k r hg
 dsimp only[ov_44_44]at h
 by_cases h80:f'=80
 ·subst h80
  injection h with h
  subst h
  exact evFn_le 0 (g_44_80_ok _ _ _ _ hg)
 rw[nbeq_ne h80,cond_false]at h
 cases h
noncomputable def T_44_1:PS:=⟨63,[(1,.kc (.ptr 0 [])),(45,.hv (.slice (.pair (.int .i64) (.pair (.int .i64) (.pair (.int .i64) (.pair (.int .i64) (.pair (.int .i64) (.pair (.slice (.int .i64)) (.pair (.int .i64) .unit))))))))),(46,.hv (.int .i64)),(47,.hv (.int .i64))],[.mem (.hv Zy44_0)],0⟩
inductive Sp.E_44_1 where
 |e0
 |e1
noncomputable def Sp.B_44_1{R:Type}(r:Option E_44_1)(k0 k1:Option R):Option R:=match r with
 |none=>none
 |some (.e0)=>k0
 |some (.e1)=>k1
theorem Bn_44_1{A R:Type}{r:Option E_44_1}{f:A->Option R}{k0:Option A}{k1:Option A}{l0:Option R}{l1:Option R}(h0:(k0).bind f=l0)(h1:(k1).bind f=l1):(B_44_1 r k0 k1).bind f=B_44_1 r l0 l1:=by
 cases r with
 |none=>rfl
 |some e=>cases e<;>first|apply h0|apply h1
noncomputable def Y_44_1{R:Type}(k:Ex->St->Option R):E_44_1->Option R
 | .e0=>k Ex.ret (sx 63 [(2,CV.bool false)] [])
 | .e1=>k (Ex.exit 0) (sx 63 [] [])
noncomputable def Sp.S_44_1{R:Type}(K:(List (Int×Int×Int×Int×Int×List Int×Int×Unit))->Int->Int->(List (Int×Int×Int×Int×Int×Int×Bool×Int×Unit)×List (Int×Int×Int×Int×Int×List Int×Int×Unit)×Int×Bool×Unit)->Option R)(k:E_44_1->Option R)(p0:List (Int×Int×Int×Int×Int×List Int×Int×Unit))(p1 p2:Int)(p3:List (Int×Int×Int×Int×Int×Int×Bool×Int×Unit)×List (Int×Int×Int×Int×Int×List Int×Int×Unit)×Int×Bool×Unit):Option R:=
 bif decide (p2<p1)then gd (inB p2 (length p0)) (gd (inB p2 (length (p3.1))) (gd (p_85 (getD (p3.1) (toNat p2) Zd1) (getD p0 (toNat p2) Zd0) (p3.2.2.1)) (bif !(v_85 (getD (p3.1) (toNat p2) Zd1) (getD p0 (toNat p2) Zd0) (p3.2.2.1)).1 then k (E_44_1.e0)else K p0 p1 (wrap i64 (p2+1)) p3)))else k (E_44_1.e1)
noncomputable def Sp.L_44_1:Nat->(List (Int×Int×Int×Int×Int×List Int×Int×Unit))->Int->Int->(List (Int×Int×Int×Int×Int×Int×Bool×Int×Unit)×List (Int×Int×Int×Int×Int×List Int×Int×Unit)×Int×Bool×Unit)->Option E_44_1
 |0,_,_,_,_=>none
 |m+1,p0,p1,p2,p3=>S_44_1 (L_44_1 m) some p0 p1 p2 p3
noncomputable def l_44_1(m:Nat)(a:T_44_1.E):Option E_44_1:=L_44_1 m a.1 a.2.1 a.2.2.1 a.2.2.2.1
noncomputable def O_44_1{R:Type}:Orc R:=orL T_44_1 (l_44_1 FU) Y_44_1
theorem OK_44_1{R:Type}:okF (R:=R) sm_44 5 (ni (nf 44 0) 0) O_44_1:=lp ov_44_44_ok (os:=[]) trivial T_44_1 l_44_1 (fun R K k a=>S_44_1 (fun p0 p1 p2 p3=>K (p0,p1,p2,p3,())) k a.1 a.2.1 a.2.2.1 a.2.2.2.1) Y_44_1 (fun _=>rfl) (fun _ _=>rfl) (fun k K a=>by kernel_rfl) (fun Y K a=>by
 unfold S_44_1
 repeat' first|apply gdN|apply condN|rfl) (ok0 _)
noncomputable def T_44_0:PS:=⟨63,[(1,.kc (.ptr 0 []))],[.mem (.hv Zy44_0)],0⟩
inductive Sp.E_44_0 where
 |e0
 |e1
noncomputable def Sp.B_44_0{R:Type}(r:Option E_44_0)(k0 k1:Option R):Option R:=match r with
 |none=>none
 |some (.e0)=>k0
 |some (.e1)=>k1
noncomputable def Y_44_0{R:Type}(k:Ex->St->Option R):E_44_0->Option R
 | .e0=>k Ex.ret (sx 63 [(2,CV.bool false)] [])
 | .e1=>k Ex.ret (sx 63 [(2,CV.bool true)] [])
noncomputable def Sp.S_44_0{R:Type}(k:E_44_0->Option R)(p0:List (Int×Int×Int×Int×Int×Int×Bool×Int×Unit)×List (Int×Int×Int×Int×Int×List Int×Int×Unit)×Int×Bool×Unit):Option R:=
 B_44_1 (L_44_1 4611686018427387904 (p0.2.1) (↑(length (p0.2.1)):Int) 0 p0) (k (E_44_0.e0)) (k (E_44_0.e1))
noncomputable def Sp.J_44_0(p0:List (Int×Int×Int×Int×Int×Int×Bool×Int×Unit)×List (Int×Int×Int×Int×Int×List Int×Int×Unit)×Int×Bool×Unit):Option E_44_0:=S_44_0 some p0
noncomputable def O_44_0{R:Type}:Orc R:=orL T_44_0 (fun a=>J_44_0 a.1) Y_44_0
theorem OK_44_0{R:Type}:okF (R:=R) sm_44 5 (nf 44 0) O_44_0:=jp ov_44_44_ok (os:=[O_44_1]) ⟨OK_44_1,trivial⟩ T_44_0 (fun R k a=>S_44_0 k a.1) Y_44_0 (fun k a=>by kernel_rfl) (fun Y a=>by
 unfold S_44_0
 repeat' first|apply gdN|apply condN|(apply Bn_44_1<;>intros)|rfl) (ok0 _)
noncomputable def F_44(a0:((List (Int×(Int×(Int×(Int×(Int×(Int×(Bool×(Int×Unit)))))))))×((List (Int×(Int×(Int×(Int×(Int×((List Int)×(Int×Unit))))))))×(Int×(Bool×Unit))))):Option (Bool×Unit) :=
 bif decide ((↑(length (a0.1)):Int)>64)then some (false,PUnit.unit)else B_44_116_0_0 (L_44_116_0_0 4611686018427387904 (a0.1) (↑(length (a0.1)):Int) 0 a0) (fun y11 y12=>bif decide (y11>=0)then some (false,PUnit.unit)else bif !Sp.dst (List.map (fun y13=>y13.1) (y12.1))then some (false,PUnit.unit)else bif(↑(length (y12.2.1)):Int)!=(↑(length (y12.1)):Int)then some (false,PUnit.unit)else gd (p_84 (y12.2.2.1) 0 1073741824) (bif !(v_84 (y12.2.2.1) 0 1073741824).1 then some (false,PUnit.unit)else bif y12.2.2.2.1 then bif decide (y12.2.2.1<1)then some (false,PUnit.unit)else B_44_0 (J_44_0 y12) (some (false,PUnit.unit)) (some (true,PUnit.unit))else B_44_0 (J_44_0 y12) (some (false,PUnit.unit)) (some (true,PUnit.unit)))) fun y16=>bif !Sp.dst (List.map (fun y17=>y17.1) (y16.1))then some (false,PUnit.unit)else bif(↑(length (y16.2.1)):Int)!=(↑(length (y16.1)):Int)then some (false,PUnit.unit)else gd (p_84 (y16.2.2.1) 0 1073741824) (bif !(v_84 (y16.2.2.1) 0 1073741824).1 then some (false,PUnit.unit)else bif y16.2.2.2.1 then bif decide (y16.2.2.1<1)then some (false,PUnit.unit)else B_44_0 (J_44_0 y16) (some (false,PUnit.unit)) (some (true,PUnit.unit))else B_44_0 (J_44_0 y16) (some (false,PUnit.unit)) (some (true,PUnit.unit)))
noncomputable def Sp.p_44(a0:((List (Int×(Int×(Int×(Int×(Int×(Int×(Bool×(Int×Unit)))))))))×((List (Int×(Int×(Int×(Int×(Int×((List Int)×(Int×Unit))))))))×(Int×(Bool×Unit))))):Bool:=(F_44 a0).isSome
noncomputable def Sp.v_44(a0:((List (Int×(Int×(Int×(Int×(Int×(Int×(Bool×(Int×Unit)))))))))×((List (Int×(Int×(Int×(Int×(Int×((List Int)×(Int×Unit))))))))×(Int×(Bool×Unit))))):Bool×Unit:=(F_44 a0).getD (dfH R_44)
noncomputable def s_44:Summ:=shN A_44 R_44 (fun x=>p_44 x.1) (fun x=>v_44 x.1)
theorem pv_44(a0:((List (Int×(Int×(Int×(Int×(Int×(Int×(Bool×(Int×Unit)))))))))×((List (Int×(Int×(Int×(Int×(Int×((List Int)×(Int×Unit))))))))×(Int×(Bool×Unit))))){y:Bool×Unit}(h:F_44 a0=some y):p_44 a0=true/\v_44 a0=y:=pvG h
theorem run_44(x:HDen A_44)(y:HDen R_44)(h:F_44 x.1=some y):rnF sm_44 6 44 A_44 R_44 x y:=runG ov_44_44_ok (os:=[O_44_0]) ⟨OK_44_0,trivial⟩ (Eq.trans (by kernel_rfl) h)
end
noncomputable section
abbrev Zt10_0:Type:=List (Int×Int×Int×Int×Int×Int×Bool×Int×Unit)
abbrev Zt10_1:Type:=List (Int×Int×Int×Int×Int×List Int×Int×Unit)
abbrev Zy10_2:Ty:=(.slice (.pair (.int .i64) (.pair (.int .i64) (.pair (.int .i64) (.pair (.int .i64) (.pair (.int .i64) (.pair (.int .i64) (.pair .bool (.pair (.int .i64) .unit)))))))))
abbrev Zy10_3:Ty:=(.pair (.int .i64) (.pair (.int .i64) (.pair (.int .i64) (.pair (.int .i64) (.pair (.int .i64) (.pair (.slice (.int .i64)) (.pair (.int .i64) .unit)))))))
abbrev Zt10_4:Type:=Int×Bool×Unit
abbrev A_10:List Ty:=[(.pair (.pair (.slice (.int .u32)) (.pair (.slice (.int .i64)) (.pair (.int .i64) .unit))) (.pair (.int .i64) (.pair (.int .i64) .unit))),(.slice (.pair (.int .i64) (.pair (.int .i64) (.pair (.int .i64) (.pair (.int .i64) (.pair (.int .i64) (.pair (.int .i64) (.pair .bool (.pair (.int .i64) .unit)))))))))]
abbrev R_10:List Ty:=[(.pair (.slice (.pair (.int .i64) (.pair (.int .i64) (.pair (.int .i64) (.pair (.int .i64) (.pair (.int .i64) (.pair (.int .i64) (.pair .bool (.pair (.int .i64) .unit))))))))) (.pair (.slice (.pair (.int .i64) (.pair (.int .i64) (.pair (.int .i64) (.pair (.int .i64) (.pair (.int .i64) (.pair (.slice (.int .i64)) (.pair (.int .i64) .unit)))))))) (.pair (.int .i64) (.pair .bool .unit)))),(.int .i64)]
noncomputable def sm_10:Nat->Option Summ:=smL [(38,s_38),(39,s_39),(40,s_40),(41,s_41),(42,s_42),(43,s_43),(44,s_44)]
noncomputable def T_10_0:PS:=⟨86,[(2,.kc (.ptr 0 [])),(4,.kc (.ptr 1 [])),(6,.kc (.ptr 4 [])),(29,.hv Zy10_2),(30,.hv (.int .i64)),(31,.hv (.int .i64))],[.mem (.hv (.pair (.pair (.slice (.int .u32)) (.pair (.slice (.int .i64)) (.pair (.int .i64) .unit))) (.pair (.int .i64) (.pair (.int .i64) .unit)))),.mem (.pr (.kc (.whole 2)) (.pr (.kc (.whole 3)) (.hv (.pair (.int .i64) (.pair .bool .unit))))),.vec 63 (.pair (.int .i64) (.pair (.int .i64) (.pair (.int .i64) (.pair (.int .i64) (.pair (.int .i64) (.pair (.int .i64) (.pair .bool (.pair (.int .i64) .unit)))))))),.vec 47 Zy10_3,.mem (.pr (.hv Zy10_2) (.pr (.kc (.whole 5)) (.hv (.pair (.int .i64) (.pair .bool .unit))))),.vec 47 Zy10_3],0⟩
inductive Sp.E_10_0 where
 |e0 (p4:Zt10_4) (p5:Zt10_0) (p6:Zt10_1) (p7:Zt10_0) (p8:Zt10_4) (p9:Zt10_1)
noncomputable def Sp.B_10_0{R:Type}(r:Option E_10_0)(k0:Zt10_4->Zt10_0->Zt10_1->Zt10_0->Zt10_4->Zt10_1->Option R):Option R:=match r with
 |none=>none
 |some (.e0 p4 p5 p6 p7 p8 p9)=>k0 p4 p5 p6 p7 p8 p9
noncomputable def Y_10_0{R:Type}(k:Ex->St->Option R):E_10_0->Option R
 | .e0 p4 p5 p6 p7 p8 p9=>k (Ex.exit 0) (sx 86 [(4,CV.ptr 0 []),(6,CV.ptr 3 [])] [Blk.mem (CV.pair (CV.whole 1) (CV.pair (CV.whole 2) (CV.pure (Ty.pair (Ty.int i64) (Ty.pair Ty.bool Ty.unit)) p4))),Blk.vec 63 (Ty.pair (Ty.int i64) (Ty.pair (Ty.int i64) (Ty.pair (Ty.int i64) (Ty.pair (Ty.int i64) (Ty.pair (Ty.int i64) (Ty.pair (Ty.int i64) (Ty.pair Ty.bool (Ty.pair (Ty.int i64) Ty.unit)))))))) p5,Blk.vec 47 (Ty.pair (Ty.int i64) (Ty.pair (Ty.int i64) (Ty.pair (Ty.int i64) (Ty.pair (Ty.int i64) (Ty.pair (Ty.int i64) (Ty.pair (Ty.slice (Ty.int i64)) (Ty.pair (Ty.int i64) Ty.unit))))))) p6,Blk.mem (CV.pair (CV.pure (Ty.slice (Ty.pair (Ty.int i64) (Ty.pair (Ty.int i64) (Ty.pair (Ty.int i64) (Ty.pair (Ty.int i64) (Ty.pair (Ty.int i64) (Ty.pair (Ty.int i64) (Ty.pair Ty.bool (Ty.pair (Ty.int i64) Ty.unit))))))))) p7) (CV.pair (CV.whole 4) (CV.pure (Ty.pair (Ty.int i64) (Ty.pair Ty.bool Ty.unit)) p8))),Blk.vec 47 (Ty.pair (Ty.int i64) (Ty.pair (Ty.int i64) (Ty.pair (Ty.int i64) (Ty.pair (Ty.int i64) (Ty.pair (Ty.int i64) (Ty.pair (Ty.slice (Ty.int i64)) (Ty.pair (Ty.int i64) Ty.unit))))))) p9])
noncomputable def Sp.S_10_0{R:Type}(K:(List (Int×Int×Int×Int×Int×Int×Bool×Int×Unit))->Int->Int->((List Int×List Int×Int×Unit)×Int×Int×Unit)->(Int×Bool×Unit)->(List (Int×Int×Int×Int×Int×Int×Bool×Int×Unit))->(List (Int×Int×Int×Int×Int×List Int×Int×Unit))->(List (Int×Int×Int×Int×Int×Int×Bool×Int×Unit))->(Int×Bool×Unit)->(List (Int×Int×Int×Int×Int×List Int×Int×Unit))->Option R)(k:E_10_0->Option R)(p0:List (Int×Int×Int×Int×Int×Int×Bool×Int×Unit))(p1 p2:Int)(p3:(List Int×List Int×Int×Unit)×Int×Int×Unit)(p4:Int×Bool×Unit)(p5:List (Int×Int×Int×Int×Int×Int×Bool×Int×Unit))(p6:List (Int×Int×Int×Int×Int×List Int×Int×Unit))(p7:List (Int×Int×Int×Int×Int×Int×Bool×Int×Unit))(p8:Int×Bool×Unit)(p9:List (Int×Int×Int×Int×Int×List Int×Int×Unit)):Option R:=
 bif decide (p2<p1)then gd (inB p2 (length p0)) (gd (p_41 p3 p2) (bif(v_41 p3 p2).2.1 !=0 then K p0 p1 (wrap i64 (p2+1)) p3 p4 p5 p6 p7 p8 p9 else bif decide ((↑(length ((v_41 p3 p2).1)):Int)<1)then K p0 p1 (wrap i64 (p2+1)) p3 p4 p5 p6 p7 p8 p9 else gd (inB 0 (length ((v_41 p3 p2).1))) (bif wrap i64 (getD ((v_41 p3 p2).1) 0 0)!=(getD p0 (toNat p2) Zd1).1 then K p0 p1 (wrap i64 (p2+1)) p3 p4 p5 p6 p7 p8 p9 else gd (sl3 1 (↑(length ((v_41 p3 p2).1)):Int) (↑(length ((v_41 p3 p2).1)):Int)) (gd (p_42 (drop 1 ((v_41 p3 p2).1))) (bif(v_42 (drop 1 ((v_41 p3 p2).1))).2.1 !=0 then K p0 p1 (wrap i64 (p2+1)) p3 p4 p5 p6 p7 p8 p9 else gd (p_43 ((v_42 (drop 1 ((v_41 p3 p2).1))).1)) (bif !(v_43 ((v_42 (drop 1 ((v_41 p3 p2).1))).1)).1 then K p0 p1 (wrap i64 (p2+1)) p3 p4 p5 p6 p7 p8 p9 else gd (inB p2 (length p9)) (gd (decide (toNat p2<length p9)&&true&&true) (gd (p_44 (p7,List.set p9 (toNat p2) ((v_42 (drop 1 ((v_41 p3 p2).1))).1),p8)) (bif !(v_44 (p7,List.set p9 (toNat p2) ((v_42 (drop 1 ((v_41 p3 p2).1))).1),p8)).1 then gd (inB p2 (length (List.set p9 (toNat p2) ((v_42 (drop 1 ((v_41 p3 p2).1))).1)))) (gd (decide (toNat p2<length (List.set p9 (toNat p2) ((v_42 (drop 1 ((v_41 p3 p2).1))).1)))&&true&&true) (K p0 p1 (wrap i64 (p2+1)) p3 p4 p5 p6 p7 p8 (List.set (List.set p9 (toNat p2) ((v_42 (drop 1 ((v_41 p3 p2).1))).1)) (toNat p2) (0,0,0,0,0,[],0,PUnit.unit))))else K p0 p1 (wrap i64 (p2+1)) p3 p4 p5 p6 p7 p8 (List.set p9 (toNat p2) ((v_42 (drop 1 ((v_41 p3 p2).1))).1)))))))))))else k (E_10_0.e0 p4 p5 p6 p7 p8 p9)
noncomputable def Sp.L_10_0:Nat->(List (Int×Int×Int×Int×Int×Int×Bool×Int×Unit))->Int->Int->((List Int×List Int×Int×Unit)×Int×Int×Unit)->(Int×Bool×Unit)->(List (Int×Int×Int×Int×Int×Int×Bool×Int×Unit))->(List (Int×Int×Int×Int×Int×List Int×Int×Unit))->(List (Int×Int×Int×Int×Int×Int×Bool×Int×Unit))->(Int×Bool×Unit)->(List (Int×Int×Int×Int×Int×List Int×Int×Unit))->Option E_10_0
 |0,_,_,_,_,_,_,_,_,_,_=>none
 |m+1,p0,p1,p2,p3,p4,p5,p6,p7,p8,p9=>S_10_0 (L_10_0 m) some p0 p1 p2 p3 p4 p5 p6 p7 p8 p9
noncomputable def l_10_0(m:Nat)(a:T_10_0.E):Option E_10_0:=L_10_0 m a.1 a.2.1 a.2.2.1 a.2.2.2.1 a.2.2.2.2.1 a.2.2.2.2.2.1 a.2.2.2.2.2.2.1 a.2.2.2.2.2.2.2.1 a.2.2.2.2.2.2.2.2.1 a.2.2.2.2.2.2.2.2.2.1
noncomputable def O_10_0{R:Type}:Orc R:=orL T_10_0 (l_10_0 FU) Y_10_0
theorem OK_10_0{R:Type}:okF (R:=R) sm_10 0 (nf 10 0) O_10_0:=lp0 T_10_0 l_10_0 (fun R K k a=>S_10_0 (fun p0 p1 p2 p3 p4 p5 p6 p7 p8 p9=>K (p0,p1,p2,p3,p4,p5,p6,p7,p8,p9,())) k a.1 a.2.1 a.2.2.1 a.2.2.2.1 a.2.2.2.2.1 a.2.2.2.2.2.1 a.2.2.2.2.2.2.1 a.2.2.2.2.2.2.2.1 a.2.2.2.2.2.2.2.2.1 a.2.2.2.2.2.2.2.2.2.1) Y_10_0 (fun _ _ _=>by kernel_rfl) (fun _ _ _=>by
 unfold S_10_0
 repeat' first|apply gdN|apply condN|rfl) (ok0 _)
noncomputable def F_10(a0:(((List Int)×((List Int)×(Int×Unit)))×(Int×(Int×Unit))))(a1:(List (Int×(Int×(Int×(Int×(Int×(Int×(Bool×(Int×Unit)))))))))):Option (((List (Int×(Int×(Int×(Int×(Int×(Int×(Bool×(Int×Unit)))))))))×((List (Int×(Int×(Int×(Int×(Int×((List Int)×(Int×Unit))))))))×(Int×(Bool×Unit))))×Int×Unit) :=
 gd (p_38 a0) (bif !(v_38 a0).1 then some (([],[],0,false,PUnit.unit),1,PUnit.unit)else gd (p_39 a1) (bif(v_39 a1).2.1 !=0 then some (([],[],0,false,PUnit.unit),(v_39 a1).2.1,PUnit.unit)else gd (p_40 a0) (B_10_0 (L_10_0 4611686018427387904 a1 (↑(length a1):Int) 0 a0 (0,false,PUnit.unit) [] [] ((v_39 a1).1.1) ((v_40 a0).1,(v_39 a1).1.2.2.2) ((v_39 a1).1.2.1)) fun y6 y7 y8 y9 y10 y11=>some ((y9,y11,y10),0,PUnit.unit))))
noncomputable def Sp.p_10(a0:(((List Int)×((List Int)×(Int×Unit)))×(Int×(Int×Unit))))(a1:(List (Int×(Int×(Int×(Int×(Int×(Int×(Bool×(Int×Unit)))))))))):Bool:=(F_10 a0 a1).isSome
noncomputable def Sp.v_10(a0:(((List Int)×((List Int)×(Int×Unit)))×(Int×(Int×Unit))))(a1:(List (Int×(Int×(Int×(Int×(Int×(Int×(Bool×(Int×Unit)))))))))):((List (Int×(Int×(Int×(Int×(Int×(Int×(Bool×(Int×Unit)))))))))×((List (Int×(Int×(Int×(Int×(Int×((List Int)×(Int×Unit))))))))×(Int×(Bool×Unit))))×Int×Unit:=(F_10 a0 a1).getD (dfH R_10)
noncomputable def s_10:Summ:=shS A_10 R_10 (fun x=>p_10 x.1 x.2.1) (fun x=>v_10 x.1 x.2.1)
theorem pv_10(a0:(((List Int)×((List Int)×(Int×Unit)))×(Int×(Int×Unit))))(a1:(List (Int×(Int×(Int×(Int×(Int×(Int×(Bool×(Int×Unit)))))))))){y:((List (Int×(Int×(Int×(Int×(Int×(Int×(Bool×(Int×Unit)))))))))×((List (Int×(Int×(Int×(Int×(Int×((List Int)×(Int×Unit))))))))×(Int×(Bool×Unit))))×Int×Unit}(h:F_10 a0 a1=some y):p_10 a0 a1=true/\v_10 a0 a1=y:=pvG h
theorem run_10(x:HDen A_10)(y:HDen R_10)(h:F_10 x.1 x.2.1=some y):rnF sm_10 1 10 A_10 R_10 x y:=runG noO_ok (os:=[O_10_0]) ⟨OK_10_0,trivial⟩ (Eq.trans (by kernel_rfl) h)
end
noncomputable section
abbrev A_60:List Ty:=[(.pair (.pair (.slice (.int .u32)) (.pair (.slice (.int .i64)) (.pair (.int .i64) .unit))) (.pair (.int .i64) (.pair (.int .i64) .unit))),(.int .i64),(.slice (.int .u32))]
abbrev R_60:List Ty:=[.bool]
noncomputable def sm_60:Nat->Option Summ:=smL [(35,s_35),(41,s_41)]
noncomputable def F_60(a0:(((List Int)×((List Int)×(Int×Unit)))×(Int×(Int×Unit))))(a1:Int)(a2:(List Int)):Option (Bool×Unit) :=
 gd (p_41 a0 a1) (bif(v_41 a0 a1).2.1 !=0 then bif(↑(length a2):Int)==0 then some (true,PUnit.unit)else bif a1==254 then gd (inB 0 (length a2)) (some (getD a2 0 (0:Int)==(0:Int),PUnit.unit))else some (false,PUnit.unit)else gd (p_35 ((v_41 a0 a1).1) a2) (some ((v_35 ((v_41 a0 a1).1) a2).1,PUnit.unit)))
noncomputable def Sp.p_60(a0:(((List Int)×((List Int)×(Int×Unit)))×(Int×(Int×Unit))))(a1:Int)(a2:(List Int)):Bool:=(F_60 a0 a1 a2).isSome
noncomputable def Sp.v_60(a0:(((List Int)×((List Int)×(Int×Unit)))×(Int×(Int×Unit))))(a1:Int)(a2:(List Int)):Bool×Unit:=(F_60 a0 a1 a2).getD (dfH R_60)
noncomputable def s_60:Summ:=shN A_60 R_60 (fun x=>p_60 x.1 x.2.1 x.2.2.1) (fun x=>v_60 x.1 x.2.1 x.2.2.1)
theorem pv_60(a0:(((List Int)×((List Int)×(Int×Unit)))×(Int×(Int×Unit))))(a1:Int)(a2:(List Int)){y:Bool×Unit}(h:F_60 a0 a1 a2=some y):p_60 a0 a1 a2=true/\v_60 a0 a1 a2=y:=pvG h
theorem run_60(x:HDen A_60)(y:HDen R_60)(h:F_60 x.1 x.2.1 x.2.2.1=some y):rnF sm_60 1 60 A_60 R_60 x y:=runG noO_ok (os:=[]) trivial (Eq.trans (by kernel_rfl) h)
end
noncomputable section
abbrev A_92:List Ty:=[(.pair (.int .i64) (.pair (.int .u32) .unit))]
abbrev R_92:List Ty:=[.bool]
noncomputable def sm_92:Nat->Option Summ:=smL []
noncomputable def F_92(a0:(Int×(Int×Unit))):Option (Bool×Unit) :=
 bif decide (a0.1>=0)then some (decide (a0.1<=1099511627776),PUnit.unit)else some (false,PUnit.unit)
noncomputable def Sp.p_92(a0:(Int×(Int×Unit))):Bool:=(F_92 a0).isSome
noncomputable def Sp.v_92(a0:(Int×(Int×Unit))):Bool×Unit:=(F_92 a0).getD (dfH R_92)
noncomputable def s_92:Summ:=shN A_92 R_92 (fun x=>p_92 x.1) (fun x=>v_92 x.1)
theorem pv_92(a0:(Int×(Int×Unit))){y:Bool×Unit}(h:F_92 a0=some y):p_92 a0=true/\v_92 a0=y:=pvG h
theorem run_92(x:HDen A_92)(y:HDen R_92)(h:F_92 x.1=some y):rnF sm_92 1 92 A_92 R_92 x y:=runG noO_ok (os:=[]) trivial (Eq.trans (by kernel_rfl) h)
end
noncomputable section
abbrev A_93:List Ty:=[(.int .i64),(.slice (.int .u32))]
abbrev R_93:List Ty:=[(.slice (.int .u32))]
noncomputable def sm_93:Nat->Option Summ:=smL [(124,s_124),(125,s_125)]
noncomputable def F_93(a0:Int)(a1:(List Int)):Option ((List Int)×Unit) :=
 gd (p_124 (wrap i64 (wrap i64 (256*a0)+(↑(length a1):Int)))) (gd (room (1+length a1) 4) (gd (p_125 ([(v_124 (wrap i64 (wrap i64 (256*a0)+(↑(length a1):Int)))).1]++a1)) (gd (p_124 ((v_125 ([(v_124 (wrap i64 (wrap i64 (256*a0)+(↑(length a1):Int)))).1]++a1)).1)) (gd (room (length ([(v_124 (wrap i64 (wrap i64 (256*a0)+(↑(length a1):Int)))).1]++a1)+1) 4) (some ([(v_124 (wrap i64 (wrap i64 (256*a0)+(↑(length a1):Int)))).1]++a1++[(v_124 ((v_125 ([(v_124 (wrap i64 (wrap i64 (256*a0)+(↑(length a1):Int)))).1]++a1)).1)).1],PUnit.unit))))))
noncomputable def Sp.p_93(a0:Int)(a1:(List Int)):Bool:=(F_93 a0 a1).isSome
noncomputable def Sp.v_93(a0:Int)(a1:(List Int)):(List Int)×Unit:=(F_93 a0 a1).getD (dfH R_93)
noncomputable def s_93:Summ:=shS A_93 R_93 (fun x=>p_93 x.1 x.2.1) (fun x=>v_93 x.1 x.2.1)
theorem pv_93(a0:Int)(a1:(List Int)){y:(List Int)×Unit}(h:F_93 a0 a1=some y):p_93 a0 a1=true/\v_93 a0 a1=y:=pvG h
theorem run_93(x:HDen A_93)(y:HDen R_93)(h:F_93 x.1 x.2.1=some y):rnF sm_93 1 93 A_93 R_93 x y:=runG noO_ok (os:=[]) trivial (Eq.trans (by kernel_rfl) h)
end
noncomputable section
abbrev A_126:List Ty:=[(.pair (.slice (.int .u32)) (.pair (.slice (.int .i64)) (.pair (.int .i64) .unit)))]
abbrev R_126:List Ty:=[(.pair (.slice (.int .u32)) (.pair (.slice (.int .i64)) (.pair (.int .i64) .unit)))]
noncomputable def sm_126:Nat->Option Summ:=smL [(57,s_57),(58,s_58)]
noncomputable def F_126(a0:((List Int)×((List Int)×(Int×Unit)))):Option (((List Int)×((List Int)×(Int×Unit)))×Unit) :=
 gd (room (length (a0.1)) 4) (gd (room (length (a0.2.1)) 8) (some ((a0.1,a0.2.1,a0.2.2.1,PUnit.unit),PUnit.unit)))
noncomputable def Sp.p_126(a0:((List Int)×((List Int)×(Int×Unit)))):Bool:=(F_126 a0).isSome
noncomputable def Sp.v_126(a0:((List Int)×((List Int)×(Int×Unit)))):((List Int)×((List Int)×(Int×Unit)))×Unit:=(F_126 a0).getD (dfH R_126)
noncomputable def s_126:Summ:=shS A_126 R_126 (fun x=>p_126 x.1) (fun x=>v_126 x.1)
theorem pv_126(a0:((List Int)×((List Int)×(Int×Unit)))){y:((List Int)×((List Int)×(Int×Unit)))×Unit}(h:F_126 a0=some y):p_126 a0=true/\v_126 a0=y:=pvG h
theorem run_126(x:HDen A_126)(y:HDen R_126)(h:F_126 x.1=some y):rnF sm_126 1 126 A_126 R_126 x y:=runG noO_ok (os:=[]) trivial (Eq.trans (by kernel_rfl) h)
end
noncomputable section
abbrev A_146:List Ty:=[(.pair (.slice (.int .u32)) (.pair (.slice (.int .i64)) (.pair (.int .i64) .unit))),(.pair (.int .i64) (.pair (.int .u32) .unit)),(.int .i64),(.int .i64)]
abbrev R_146:List Ty:=[(.int .i64)]
noncomputable def sm_146:Nat->Option Summ:=smL [(78,s_78)]
noncomputable def F_146(a0:((List Int)×((List Int)×(Int×Unit))))(a1:(Int×(Int×Unit)))(a2 a3:Int):Option (Int×Unit) :=
 gd (p_78 a0) (bif !(v_78 a0).1 then some (1,PUnit.unit)else bif decide (a1.1<0)then some (1,PUnit.unit)else bif decide (a1.1>1099511627776)then some (1,PUnit.unit)else bif decide (a2<0)then some (2,PUnit.unit)else bif decide (a2>=a3)then some (2,PUnit.unit)else some (0,PUnit.unit))
noncomputable def Sp.p_146(a0:((List Int)×((List Int)×(Int×Unit))))(a1:(Int×(Int×Unit)))(a2 a3:Int):Bool:=(F_146 a0 a1 a2 a3).isSome
noncomputable def Sp.v_146(a0:((List Int)×((List Int)×(Int×Unit))))(a1:(Int×(Int×Unit)))(a2 a3:Int):Int×Unit:=(F_146 a0 a1 a2 a3).getD (dfH R_146)
noncomputable def s_146:Summ:=shN A_146 R_146 (fun x=>p_146 x.1 x.2.1 x.2.2.1 x.2.2.2.1) (fun x=>v_146 x.1 x.2.1 x.2.2.1 x.2.2.2.1)
theorem pv_146(a0:((List Int)×((List Int)×(Int×Unit))))(a1:(Int×(Int×Unit)))(a2 a3:Int){y:Int×Unit}(h:F_146 a0 a1 a2 a3=some y):p_146 a0 a1 a2 a3=true/\v_146 a0 a1 a2 a3=y:=pvG h
theorem run_146(x:HDen A_146)(y:HDen R_146)(h:F_146 x.1 x.2.1 x.2.2.1 x.2.2.2.1=some y):rnF sm_146 1 146 A_146 R_146 x y:=runG noO_ok (os:=[]) trivial (Eq.trans (by kernel_rfl) h)
end
end Go.Ev
