/- Helpers: functions of the program as Lean functions, and what they compute. No condition. -/
import Derived.Test.YtfofdehkgkjbbaaProg
import Derived.WalkKit
import Derived.Test.YtfofdehkgkjbbaaE3P3
import Derived.Test.YtfofdehkgkjbbaaE3P2
set_option maxRecDepth 10000
set_option linter.unusedVariables false
set_option linter.unusedSimpArgs false
open Go.IntKind (wrap i64 i32 i16 i8 u64 u32 u16 u8)
open List (getD length take drop replicate)
open Int (toNat)
open Go.Ev.Sp
namespace Go.Ev
open Go Go.Proofs Go.RowKit
set_option maxRecDepth 100000
noncomputable section
noncomputable def smB:Nat->Bool:=fun f=>[10,11,12,13,14,15,16,17,18,19,20,21,22,23,24,25,26,27,28,29,30,31,32,33,34,35,36,37,38,39,40,41,42,43,44,45,46,47,48,49,50,51,52,53,54,55,56,57,58,59,60,61,62,63,64,65,66,69,70,71,72,73,74,77,78,79,81,83,84,85,86,87,88,89,90,91,94,95,96,97,99,100,101,102,103,104,105,106,107,108].contains f
noncomputable def wF:Nat->Nat:=fun f=>0
noncomputable def cF:Nat->Bool:=fun f=>false
noncomputable def dF:Nat->Bool:=fun f=>[4,5,6,7,8,9].contains f
noncomputable def fns:Nat->Option IFn:=fnsP Try.prog smB wF cF dF
theorem hm0:Try.prog.follows .mixedOrders=true:=by kernel_rfl
abbrev s_61:Summ:=vecS (.int .u32) 42 4
abbrev s_77:Summ:=growS (.int .u32) 42 4
abbrev s_99:Summ:=curS
abbrev s_103:Summ:=vecS (.int .i64) 3 8
abbrev okF{R:Type}(sm:Nat->Option Summ)(d:Nat)(c:IC)(o:Orc R):Prop:=okN sm FU (evFn sm fns FU d) c o
abbrev nf(f i:Nat):IC:=nd (fB fns f) i
abbrev nr(f i:Nat):IC:=nd (fR fns f).2.2 i
abbrev ni(c:IC)(i:Nat):IC:=nd (inner c) i
abbrev rnF(sm:Nat->Option Summ)(n f:Nat)(A R:List Ty)(x:HDen A)(y:HDen R):Prop:=evFn sm fns FU n f (ofH A x) [] (pureK R)=some y
end
set_option maxHeartbeats 4000000
set_option linter.unusedVariables false
noncomputable section
abbrev A_40:List Ty:=[(.pair (.slice (.int .u32)) (.pair (.slice (.int .i64)) (.pair (.int .i64) .unit)))]
abbrev R_40:List Ty:=[.bool]
noncomputable def sm_40:Nat->Option Summ:=smL []
noncomputable def T_40_98_0_0:PS:=⟨19,[(0,.hv (.slice (.int .i64))),(1,.kc (.clo 76 (.pair (.ptr 0 []) (.pure .unit PUnit.unit)))),(7,.hv (.int .i64)),(8,.hv (.int .i64))],[.mem (.hv (.pair (.slice (.int .u32)) (.pair (.slice (.int .i64)) (.pair (.int .i64) .unit))))],1⟩
inductive Sp.E_40_98_0_0 where
 |e0 (p2:Int) (p3:List Int×List Int×Int×Unit)
 |e1 (p3:List Int×List Int×Int×Unit)
noncomputable def Sp.B_40_98_0_0{R:Type}(r:Option E_40_98_0_0)(k0:Int->(List Int×List Int×Int×Unit)->Option R)(k1:(List Int×List Int×Int×Unit)->Option R):Option R:=match r with
 |none=>none
 |some (.e0 p2 p3)=>k0 p2 p3
 |some (.e1 p3)=>k1 p3
noncomputable def Y_40_98_0_0{R:Type}(k:Ex->St->Option R):E_40_98_0_0->Option R
 | .e0 p2 p3=>k Ex.ret (sx 19 [(4,CV.int i64 p2)] [Blk.mem (CV.pure (Ty.pair (Ty.slice (Ty.int u32)) (Ty.pair (Ty.slice (Ty.int i64)) (Ty.pair (Ty.int i64) Ty.unit))) p3)] 1)
 | .e1 p3=>k (Ex.exit 0) (sx 19 [] [Blk.mem (CV.pure (Ty.pair (Ty.slice (Ty.int u32)) (Ty.pair (Ty.slice (Ty.int i64)) (Ty.pair (Ty.int i64) Ty.unit))) p3)] 1)
noncomputable def Sp.S_40_98_0_0{R:Type}(K:List Int->Int->Int->(List Int×List Int×Int×Unit)->Option R)(k:E_40_98_0_0->Option R)(p0:List Int)(p1 p2:Int)(p3:List Int×List Int×Int×Unit):Option R:=
 bif decide (p2<p1)then gd (inB p2 (length p0)) (bif decide (getD p0 (toNat p2) (0:Int)<(0:Int))then k (E_40_98_0_0.e0 p2 p3)else bif decide (getD p0 (toNat p2) 0>p3.2.2.1)then k (E_40_98_0_0.e0 p2 p3)else K p0 p1 (wrap i64 (p2+1)) p3)else k (E_40_98_0_0.e1 p3)
noncomputable def Sp.L_40_98_0_0:Nat->List Int->Int->Int->(List Int×List Int×Int×Unit)->Option E_40_98_0_0
 |0,_,_,_,_=>none
 |m+1,p0,p1,p2,p3=>S_40_98_0_0 (L_40_98_0_0 m) some p0 p1 p2 p3
noncomputable def l_40_98_0_0(m:Nat)(a:T_40_98_0_0.E):Option E_40_98_0_0:=L_40_98_0_0 m a.1 a.2.1 a.2.2.1 a.2.2.2.1
noncomputable def O_40_98_0_0{R:Type}:Orc R:=orL T_40_98_0_0 (l_40_98_0_0 FU) Y_40_98_0_0
theorem OK_40_98_0_0{R:Type}:okF (R:=R) sm_40 1 (nf 98 0) O_40_98_0_0:=lp0 T_40_98_0_0 l_40_98_0_0 (fun R K k a=>S_40_98_0_0 (fun p0 p1 p2 p3=>K (p0,p1,p2,p3,())) k a.1 a.2.1 a.2.2.1 a.2.2.2.1) Y_40_98_0_0 (fun _ _ _=>by kernel_rfl) (fun _ _ _=>by
 unfold S_40_98_0_0
 repeat' first|apply gdN|apply condN|rfl) (ok0 _)
noncomputable def g_40_98{R:Type}:List CV->List Blk->(CV->List Blk->Option R)->Option R:=evFnL sm_40 FU (ovr noO (evFn sm_40 fns FU 1)) (mkT (fB fns 98) [O_40_98_0_0]) (fO fns 98)
theorem g_40_98_ok{R:Type}(args:List CV)(hp:List Blk)(k:CV->List Blk->Option R)(r:R)(h:g_40_98 args hp k=some r):evFn sm_40 fns FU 2 98 args hp k=some r:=runG noO_ok (os:=[O_40_98_0_0]) ⟨OK_40_98_0_0,trivial⟩ h
noncomputable def ov_40_75{R:Type}:Nat->Option (List CV->List Blk->(CV->List Blk->Option R)->Option R):=fun f'=>bif Nat.beq f' 98 then some g_40_98 else none
theorem ov_40_75_ok{R:Type}:OvrOK (R:=R) ov_40_75 (evFn sm_40 fns FU 2):=by
 intro f' g h args hp k r hg
 dsimp only[ov_40_75]at h
 by_cases h98:f'=98
 ·subst h98
  injection h with h
  subst h
  exact evFn_le 0 (g_40_98_ok _ _ _ _ hg)
 rw[nbeq_ne h98,cond_false]at h
 cases h
noncomputable def g_40_75{R:Type}:List CV->List Blk->(CV->List Blk->Option R)->Option R:=evFnL sm_40 FU (ovr ov_40_75 (evFn sm_40 fns FU 2)) (mkT (fB fns 75) []) (fO fns 75)
theorem g_40_75_ok{R:Type}(args:List CV)(hp:List Blk)(k:CV->List Blk->Option R)(r:R)(h:g_40_75 args hp k=some r):evFn sm_40 fns FU 3 75 args hp k=some r:=runG ov_40_75_ok (os:=[]) trivial h
noncomputable def ov_40_40{R:Type}:Nat->Option (List CV->List Blk->(CV->List Blk->Option R)->Option R):=fun f'=>bif Nat.beq f' 75 then some g_40_75 else none
theorem ov_40_40_ok{R:Type}:OvrOK (R:=R) ov_40_40 (evFn sm_40 fns FU 3):=by
 intro f' g h args hp k r hg
 dsimp only[ov_40_40]at h
 by_cases h75:f'=75
 ·subst h75
  injection h with h
  subst h
  exact evFn_le 0 (g_40_75_ok _ _ _ _ hg)
 rw[nbeq_ne h75,cond_false]at h
 cases h
noncomputable def F_40(a0:((List Int)×((List Int)×(Int×Unit)))):Option (Bool×Unit) :=
 bif decide ((↑(length (a0.2.1)):Int)<1)then some (false,PUnit.unit)else bif decide ((↑(length (a0.2.1)):Int)>64)then some (false,PUnit.unit)else bif(↑(length (a0.1)):Int)!=wrap i64 ((↑(length (a0.2.1)):Int)*64)then some (false,PUnit.unit)else bif decide (a0.2.2.1<1)then some (false,PUnit.unit)else bif decide (a0.2.2.1>1000000)then some (false,PUnit.unit)else B_40_98_0_0 (L_40_98_0_0 4611686018427387904 (a0.2.1) (↑(length (a0.2.1)):Int) 0 a0) (fun y23 y24=>some (!decide (y23>=0),PUnit.unit)) fun y25=>some (true,PUnit.unit)
noncomputable def Sp.p_40(a0:((List Int)×((List Int)×(Int×Unit)))):Bool:=(F_40 a0).isSome
noncomputable def Sp.v_40(a0:((List Int)×((List Int)×(Int×Unit)))):Bool×Unit:=(F_40 a0).getD (dfH R_40)
noncomputable def s_40:Summ:=shN A_40 R_40 (fun x=>p_40 x.1) (fun x=>v_40 x.1)
theorem pv_40(a0:((List Int)×((List Int)×(Int×Unit)))){y:Bool×Unit}(h:F_40 a0=some y):p_40 a0=true/\v_40 a0=y:=pvG h
theorem run_40(x:HDen A_40)(y:HDen R_40)(h:F_40 x.1=some y):rnF sm_40 4 40 A_40 R_40 x y:=runG ov_40_40_ok (os:=[]) trivial (Eq.trans (by kernel_rfl) h)
end
noncomputable section
abbrev A_41:List Ty:=[(.int .i64)]
abbrev R_41:List Ty:=[.bool]
noncomputable def sm_41:Nat->Option Summ:=smL []
noncomputable def F_41(a0:Int):Option (Bool×Unit) :=
 bif Int.tmod a0 (2:Int)==(0:Int)then bif decide (a0>=18)then some (decide (a0<=64),PUnit.unit)else some (false,PUnit.unit)else some (false,PUnit.unit)
noncomputable def Sp.p_41(a0:Int):Bool:=(F_41 a0).isSome
noncomputable def Sp.v_41(a0:Int):Bool×Unit:=(F_41 a0).getD (dfH R_41)
noncomputable def s_41:Summ:=shN A_41 R_41 (fun x=>p_41 x.1) (fun x=>v_41 x.1)
theorem pv_41(a0:Int){y:Bool×Unit}(h:F_41 a0=some y):p_41 a0=true/\v_41 a0=y:=pvG h
theorem run_41(x:HDen A_41)(y:HDen R_41)(h:F_41 x.1=some y):rnF sm_41 1 41 A_41 R_41 x y:=runG noO_ok (os:=[]) trivial (Eq.trans (by kernel_rfl) h)
end
noncomputable section
abbrev A_12:List Ty:=[(.pair (.pair (.slice (.int .u32)) (.pair (.slice (.int .i64)) (.pair (.int .i64) .unit))) (.pair (.arr 32 (.int .u8)) .unit))]
abbrev R_12:List Ty:=[.bool]
noncomputable def sm_12:Nat->Option Summ:=smL [(40,s_40),(41,s_41)]
noncomputable def F_12(a0:(((List Int)×((List Int)×(Int×Unit)))×((List Int)×Unit))):Option (Bool×Unit) :=
 gd (p_40 (a0.1)) (bif(v_40 (a0.1)).1 then gd (p_41 (↑(length (a0.1.2.1)):Int)) (some ((v_41 (↑(length (a0.1.2.1)):Int)).1,PUnit.unit))else some (false,PUnit.unit))
noncomputable def Sp.p_12(a0:(((List Int)×((List Int)×(Int×Unit)))×((List Int)×Unit))):Bool:=(F_12 a0).isSome
noncomputable def Sp.v_12(a0:(((List Int)×((List Int)×(Int×Unit)))×((List Int)×Unit))):Bool×Unit:=(F_12 a0).getD (dfH R_12)
noncomputable def s_12:Summ:=shN A_12 R_12 (fun x=>p_12 x.1) (fun x=>v_12 x.1)
theorem pv_12(a0:(((List Int)×((List Int)×(Int×Unit)))×((List Int)×Unit))){y:Bool×Unit}(h:F_12 a0=some y):p_12 a0=true/\v_12 a0=y:=pvG h
theorem run_12(x:HDen A_12)(y:HDen R_12)(h:F_12 x.1=some y):rnF sm_12 1 12 A_12 R_12 x y:=runG noO_ok (os:=[]) trivial (Eq.trans (by kernel_rfl) h)
end
noncomputable section
abbrev A_42:List Ty:=[(.pair (.pair (.slice (.int .u32)) (.pair (.slice (.int .i64)) (.pair (.int .i64) .unit))) (.pair (.arr 32 (.int .u8)) .unit)),(.int .i64)]
abbrev R_42:List Ty:=[(.slice (.int .u32))]
noncomputable def sm_42:Nat->Option Summ:=smL []
noncomputable def F_42(a0:(((List Int)×((List Int)×(Int×Unit)))×((List Int)×Unit)))(a1:Int):Option ((List Int)×Unit) :=
 gd (sl3 (wrap i64 (a1*wrap i64 (Int.tdiv (↑(length (a0.1.1)):Int) 2))) (wrap i64 (wrap i64 (a1+1)*wrap i64 (Int.tdiv (↑(length (a0.1.1)):Int) 2))) (↑(length (a0.1.1)):Int)) (some (take (toNat (wrap i64 (wrap i64 (a1+1)*wrap i64 (Int.tdiv (↑(length (a0.1.1)):Int) 2)))-toNat (wrap i64 (a1*wrap i64 (Int.tdiv (↑(length (a0.1.1)):Int) 2)))) (drop (toNat (wrap i64 (a1*wrap i64 (Int.tdiv (↑(length (a0.1.1)):Int) 2)))) (a0.1.1)),PUnit.unit))
noncomputable def Sp.p_42(a0:(((List Int)×((List Int)×(Int×Unit)))×((List Int)×Unit)))(a1:Int):Bool:=(F_42 a0 a1).isSome
noncomputable def Sp.v_42(a0:(((List Int)×((List Int)×(Int×Unit)))×((List Int)×Unit)))(a1:Int):(List Int)×Unit:=(F_42 a0 a1).getD (dfH R_42)
noncomputable def s_42:Summ:=shS A_42 R_42 (fun x=>p_42 x.1 x.2.1) (fun x=>v_42 x.1 x.2.1)
theorem pv_42(a0:(((List Int)×((List Int)×(Int×Unit)))×((List Int)×Unit)))(a1:Int){y:(List Int)×Unit}(h:F_42 a0 a1=some y):p_42 a0 a1=true/\v_42 a0 a1=y:=pvG h
theorem run_42(x:HDen A_42)(y:HDen R_42)(h:F_42 x.1 x.2.1=some y):rnF sm_42 1 42 A_42 R_42 x y:=runG noO_ok (os:=[]) trivial (Eq.trans (by kernel_rfl) h)
end
noncomputable section
abbrev A_46:List Ty:=[(.int .i64)]
abbrev R_46:List Ty:=[.bool]
noncomputable def sm_46:Nat->Option Summ:=smL []
noncomputable def F_46(a0:Int):Option (Bool×Unit) :=
 bif a0==0 then some (true,PUnit.unit)else some (a0==1,PUnit.unit)
noncomputable def Sp.p_46(a0:Int):Bool:=(F_46 a0).isSome
noncomputable def Sp.v_46(a0:Int):Bool×Unit:=(F_46 a0).getD (dfH R_46)
noncomputable def s_46:Summ:=shN A_46 R_46 (fun x=>p_46 x.1) (fun x=>v_46 x.1)
theorem pv_46(a0:Int){y:Bool×Unit}(h:F_46 a0=some y):p_46 a0=true/\v_46 a0=y:=pvG h
theorem run_46(x:HDen A_46)(y:HDen R_46)(h:F_46 x.1=some y):rnF sm_46 1 46 A_46 R_46 x y:=runG noO_ok (os:=[]) trivial (Eq.trans (by kernel_rfl) h)
end
noncomputable section
abbrev A_44:List Ty:=[(.slice (.int .u32))]
abbrev R_44:List Ty:=[(.slice (.int .u8))]
noncomputable def sm_44:Nat->Option Summ:=smL []
noncomputable def T_44_0:PS:=⟨28,[(3,.kc (.whole 0)),(6,.hv (.slice (.int .u32))),(7,.hv (.int .i64)),(8,.hv (.int .i64))],[.vec 5 (.int .u8)],0⟩
inductive Sp.E_44_0 where
 |e0 (p3:List Int)
noncomputable def Sp.B_44_0{R:Type}(r:Option E_44_0)(k0:List Int->Option R):Option R:=match r with
 |none=>none
 |some (.e0 p3)=>k0 p3
noncomputable def Y_44_0{R:Type}(k:Ex->St->Option R):E_44_0->Option R
 | .e0 p3=>k (Ex.exit 0) (sx 28 [(3,CV.whole 0)] [Blk.vec 5 (Ty.int u8) p3])
noncomputable def Sp.S_44_0{R:Type}(K:List Int->Int->Int->List Int->Option R)(k:E_44_0->Option R)(p0:List Int)(p1 p2:Int)(p3:List Int):Option R:=
 bif decide (p2<p1)then gd (inB p2 (length p0)) (gd (room (length p3+4) 1) (K p0 p1 (wrap i64 (p2+1)) (p3++[wrap u8 (Int.fdiv (getD p0 (toNat p2) 0) 16777216),wrap u8 (Int.fdiv (getD p0 (toNat p2) 0) 65536),wrap u8 (Int.fdiv (getD p0 (toNat p2) 0) 256),wrap u8 (getD p0 (toNat p2) 0)])))else k (E_44_0.e0 p3)
noncomputable def Sp.L_44_0:Nat->List Int->Int->Int->List Int->Option E_44_0
 |0,_,_,_,_=>none
 |m+1,p0,p1,p2,p3=>S_44_0 (L_44_0 m) some p0 p1 p2 p3
noncomputable def l_44_0(m:Nat)(a:T_44_0.E):Option E_44_0:=L_44_0 m a.1 a.2.1 a.2.2.1 a.2.2.2.1
noncomputable def O_44_0{R:Type}:Orc R:=orL T_44_0 (l_44_0 FU) Y_44_0
theorem OK_44_0{R:Type}:okF (R:=R) sm_44 0 (nf 44 0) O_44_0:=lp0 T_44_0 l_44_0 (fun R K k a=>S_44_0 (fun p0 p1 p2 p3=>K (p0,p1,p2,p3,())) k a.1 a.2.1 a.2.2.1 a.2.2.2.1) Y_44_0 (fun _ _ _=>by kernel_rfl) (fun _ _ _=>by
 unfold S_44_0
 repeat' first|apply gdN|apply condN|rfl) (ok0 _)
noncomputable def F_44(a0:(List Int)):Option ((List Int)×Unit) :=
 B_44_0 (L_44_0 4611686018427387904 a0 (↑(length a0):Int) 0 []) fun y1=>some (y1,PUnit.unit)
noncomputable def Sp.p_44(a0:(List Int)):Bool:=(F_44 a0).isSome
noncomputable def Sp.v_44(a0:(List Int)):(List Int)×Unit:=(F_44 a0).getD (dfH R_44)
noncomputable def s_44:Summ:=shS A_44 R_44 (fun x=>p_44 x.1) (fun x=>v_44 x.1)
theorem pv_44(a0:(List Int)){y:(List Int)×Unit}(h:F_44 a0=some y):p_44 a0=true/\v_44 a0=y:=pvG h
theorem run_44(x:HDen A_44)(y:HDen R_44)(h:F_44 x.1=some y):rnF sm_44 1 44 A_44 R_44 x y:=runG noO_ok (os:=[O_44_0]) ⟨OK_44_0,trivial⟩ (Eq.trans (by kernel_rfl) h)
end
noncomputable section
abbrev Zt81_0:Type:=List (List Int)
abbrev A_81:List Ty:=[(.slice (.int .u32))]
abbrev R_81:List Ty:=[(.pair (.int .i64) (.pair (.slice (.arr 32 (.int .u8))) (.pair (.slice (.arr 32 (.int .u8))) .unit))),(.int .i64)]
noncomputable def sm_81:Nat->Option Summ:=smL []
noncomputable def T_81_1:PS:=⟨58,[(0,.hv (.slice (.int .u32))),(2,.kc (.ptr 0 [])),(4,.kc (.ptr 3 [])),(5,.hv (.int .i64)),(6,.kc (.ptr 6 [])),(23,.hv (.int .i64)),(26,.hv (.int .i64))],[.mem (.pr (.hv (.int .i64)) (.kc (.pair (.whole 1) (.pair (.whole 2) (.pure .unit PUnit.unit))))),.vec 27 (.arr 32 (.int .u8)),.vec 27 (.arr 32 (.int .u8)),.mem (.pr (.hv (.int .i64)) (.kc (.pair (.whole 4) (.pair (.whole 5) (.pure .unit PUnit.unit))))),.vec 27 (.arr 32 (.int .u8)),.vec 27 (.arr 32 (.int .u8)),.mem (.hv (.arr 32 (.int .u8)))],0⟩
inductive Sp.E_81_1 where
 |e0 (p0:List Int) (p1 p2 p4:Int) (p5 p6:Zt81_0) (p7:Int) (p8 p9:Zt81_0) (p10:List Int)
noncomputable def Sp.B_81_1{R:Type}(r:Option E_81_1)(k0:List Int->Int->Int->Int->Zt81_0->Zt81_0->Int->Zt81_0->Zt81_0->List Int->Option R):Option R:=match r with
 |none=>none
 |some (.e0 p0 p1 p2 p4 p5 p6 p7 p8 p9 p10)=>k0 p0 p1 p2 p4 p5 p6 p7 p8 p9 p10
theorem Bn_81_1{A R:Type}{r:Option E_81_1}{f:A->Option R}{k0:List Int->Int->Int->Int->Zt81_0->Zt81_0->Int->Zt81_0->Zt81_0->List Int->Option A}{l0:List Int->Int->Int->Int->Zt81_0->Zt81_0->Int->Zt81_0->Zt81_0->List Int->Option R}(h0:∀p0 p1 p2 p4 p5 p6 p7 p8 p9 p10,(k0 p0 p1 p2 p4 p5 p6 p7 p8 p9 p10).bind f=l0 p0 p1 p2 p4 p5 p6 p7 p8 p9 p10):(B_81_1 r k0).bind f=B_81_1 r l0:=by
 cases r with
 |none=>rfl
 |some e=>cases e<;>first|apply h0
noncomputable def Y_81_1{R:Type}(k:Ex->St->Option R):E_81_1->Option R
 | .e0 p0 p1 p2 p4 p5 p6 p7 p8 p9 p10=>k (Ex.exit 2) (sx 58 [(0,CV.pure (Ty.slice (Ty.int u32)) p0),(2,CV.ptr 0 []),(4,CV.ptr 3 []),(5,CV.int i64 p1),(6,CV.ptr 6 []),(23,CV.int i64 p2)] [Blk.mem (CV.pair (CV.int i64 p4) (CV.pair (CV.whole 1) (CV.pair (CV.whole 2) (CV.pure Ty.unit PUnit.unit)))),Blk.vec 27 (Ty.arr 32 (Ty.int u8)) p5,Blk.vec 27 (Ty.arr 32 (Ty.int u8)) p6,Blk.mem (CV.pair (CV.int i64 p7) (CV.pair (CV.whole 4) (CV.pair (CV.whole 5) (CV.pure Ty.unit PUnit.unit)))),Blk.vec 27 (Ty.arr 32 (Ty.int u8)) p8,Blk.vec 27 (Ty.arr 32 (Ty.int u8)) p9,Blk.mem (CV.pure (Ty.arr 32 (Ty.int u8)) p10)])
noncomputable def Sp.S_81_1{R:Type}(K:List Int->Int->Int->Int->Int->List (List Int)->List (List Int)->Int->List (List Int)->List (List Int)->List Int->Option R)(k:E_81_1->Option R)(p0:List Int)(p1 p2 p3 p4:Int)(p5 p6:List (List Int))(p7:Int)(p8 p9:List (List Int))(p10:List Int):Option R:=
 bif decide (p3<8)then gd (sl3 (wrap i64 (4*p3)) 32 32) (gd (inB (wrap i64 (wrap i64 (1+wrap i64 (8*p1))+p3)) (length p0)) (gd (inB 0 (32-toNat (wrap i64 (4*p3)))) (gd (decide (toNat (wrap i64 (4*p3))+(0:Nat)<(32:Nat))&&true) (gd (inB 1 (32-toNat (wrap i64 (4*p3)))) (gd (decide (toNat (wrap i64 (4*p3))+(1:Nat)<(32:Nat))&&true) (gd (inB 2 (32-toNat (wrap i64 (4*p3)))) (gd (decide (toNat (wrap i64 (4*p3))+(2:Nat)<(32:Nat))&&true) (gd (inB 3 (32-toNat (wrap i64 (4*p3)))) (gd (decide (toNat (wrap i64 (4*p3))+(3:Nat)<(32:Nat))&&true) (K p0 p1 p2 (wrap i64 (p3+1)) p4 p5 p6 p7 p8 p9 (List.set (List.set (List.set (List.set p10 (toNat (wrap i64 (4*p3))+0) (wrap u8 (Int.fdiv (getD p0 (toNat (wrap i64 (wrap i64 (1+wrap i64 (8*p1))+p3))) 0) 16777216))) (toNat (wrap i64 (4*p3))+1) (wrap u8 (Int.fdiv (getD p0 (toNat (wrap i64 (wrap i64 (1+wrap i64 (8*p1))+p3))) 0) 65536))) (toNat (wrap i64 (4*p3))+2) (wrap u8 (Int.fdiv (getD p0 (toNat (wrap i64 (wrap i64 (1+wrap i64 (8*p1))+p3))) 0) 256))) (toNat (wrap i64 (4*p3))+3) (wrap u8 (getD p0 (toNat (wrap i64 (wrap i64 (1+wrap i64 (8*p1))+p3))) 0)))))))))))))else k (E_81_1.e0 p0 p1 p2 p4 p5 p6 p7 p8 p9 p10)
noncomputable def Sp.L_81_1:Nat->List Int->Int->Int->Int->Int->List (List Int)->List (List Int)->Int->List (List Int)->List (List Int)->List Int->Option E_81_1
 |0,_,_,_,_,_,_,_,_,_,_,_=>none
 |m+1,p0,p1,p2,p3,p4,p5,p6,p7,p8,p9,p10=>S_81_1 (L_81_1 m) some p0 p1 p2 p3 p4 p5 p6 p7 p8 p9 p10
noncomputable def l_81_1(m:Nat)(a:T_81_1.E):Option E_81_1:=L_81_1 m a.1 a.2.1 a.2.2.1 a.2.2.2.1 a.2.2.2.2.1 a.2.2.2.2.2.1 a.2.2.2.2.2.2.1 a.2.2.2.2.2.2.2.1 a.2.2.2.2.2.2.2.2.1 a.2.2.2.2.2.2.2.2.2.1 a.2.2.2.2.2.2.2.2.2.2.1
noncomputable def O_81_1{R:Type}:Orc R:=orL T_81_1 (l_81_1 FU) Y_81_1
theorem OK_81_1{R:Type}:okF (R:=R) sm_81 1 (ni (nf 81 0) 0) O_81_1:=lp0 T_81_1 l_81_1 (fun R K k a=>S_81_1 (fun p0 p1 p2 p3 p4 p5 p6 p7 p8 p9 p10=>K (p0,p1,p2,p3,p4,p5,p6,p7,p8,p9,p10,())) k a.1 a.2.1 a.2.2.1 a.2.2.2.1 a.2.2.2.2.1 a.2.2.2.2.2.1 a.2.2.2.2.2.2.1 a.2.2.2.2.2.2.2.1 a.2.2.2.2.2.2.2.2.1 a.2.2.2.2.2.2.2.2.2.1 a.2.2.2.2.2.2.2.2.2.2.1) Y_81_1 (fun _ _ _=>by kernel_rfl) (fun _ _ _=>by
 unfold S_81_1
 repeat' first|apply gdN|apply condN|rfl) (ok0 _)
noncomputable def T_81_0:PS:=⟨58,[(0,.hv (.slice (.int .u32))),(2,.kc (.ptr 0 [])),(4,.kc (.ptr 3 [])),(23,.hv (.int .i64))],[.mem (.pr (.hv (.int .i64)) (.kc (.pair (.whole 1) (.pair (.whole 2) (.pure .unit PUnit.unit))))),.vec 27 (.arr 32 (.int .u8)),.vec 27 (.arr 32 (.int .u8)),.mem (.pr (.hv (.int .i64)) (.kc (.pair (.whole 4) (.pair (.whole 5) (.pure .unit PUnit.unit))))),.vec 27 (.arr 32 (.int .u8)),.vec 27 (.arr 32 (.int .u8))],0⟩
inductive Sp.E_81_0 where
 |e0 (p2:Int) (p3 p4:Zt81_0) (p5:Int) (p6 p7:Zt81_0)
noncomputable def Sp.B_81_0{R:Type}(r:Option E_81_0)(k0:Int->Zt81_0->Zt81_0->Int->Zt81_0->Zt81_0->Option R):Option R:=match r with
 |none=>none
 |some (.e0 p2 p3 p4 p5 p6 p7)=>k0 p2 p3 p4 p5 p6 p7
noncomputable def Y_81_0{R:Type}(k:Ex->St->Option R):E_81_0->Option R
 | .e0 p2 p3 p4 p5 p6 p7=>k (Ex.exit 0) (sx 58 [(2,CV.ptr 0 []),(4,CV.ptr 3 [])] [Blk.mem (CV.pair (CV.int i64 p2) (CV.pair (CV.whole 1) (CV.pair (CV.whole 2) (CV.pure Ty.unit PUnit.unit)))),Blk.vec 27 (Ty.arr 32 (Ty.int u8)) p3,Blk.vec 27 (Ty.arr 32 (Ty.int u8)) p4,Blk.mem (CV.pair (CV.int i64 p5) (CV.pair (CV.whole 4) (CV.pair (CV.whole 5) (CV.pure Ty.unit PUnit.unit)))),Blk.vec 27 (Ty.arr 32 (Ty.int u8)) p6,Blk.vec 27 (Ty.arr 32 (Ty.int u8)) p7])
noncomputable def Sp.S_81_0{R:Type}(K:List Int->Int->Int->List (List Int)->List (List Int)->Int->List (List Int)->List (List Int)->Option R)(k:E_81_0->Option R)(p0:List Int)(p1 p2:Int)(p3 p4:List (List Int))(p5:Int)(p6 p7:List (List Int)):Option R:=
 bif decide (p1<69)then B_81_1 (L_81_1 4611686018427387904 p0 p1 p1 0 p2 p3 p4 p5 p6 p7 (replicate 32 (0:Int))) fun y10 y11 y12 y13 y14 y15 y16 y17 y18 y19=>bif decide (y11<67)then gd (room (length y17+1) 32) (K y10 (wrap i64 (y12+1)) y13 y14 y15 y16 (y17++[y19]) y18)else gd (room (length y18+1) 32) (K y10 (wrap i64 (y12+1)) y13 y14 y15 y16 y17 (y18++[y19]))else k (E_81_0.e0 p2 p3 p4 p5 p6 p7)
noncomputable def Sp.L_81_0:Nat->List Int->Int->Int->List (List Int)->List (List Int)->Int->List (List Int)->List (List Int)->Option E_81_0
 |0,_,_,_,_,_,_,_,_=>none
 |m+1,p0,p1,p2,p3,p4,p5,p6,p7=>S_81_0 (L_81_0 m) some p0 p1 p2 p3 p4 p5 p6 p7
noncomputable def l_81_0(m:Nat)(a:T_81_0.E):Option E_81_0:=L_81_0 m a.1 a.2.1 a.2.2.1 a.2.2.2.1 a.2.2.2.2.1 a.2.2.2.2.2.1 a.2.2.2.2.2.2.1 a.2.2.2.2.2.2.2.1
noncomputable def O_81_0{R:Type}:Orc R:=orL T_81_0 (l_81_0 FU) Y_81_0
theorem OK_81_0{R:Type}:okF (R:=R) sm_81 1 (nf 81 0) O_81_0:=lp noO_ok (os:=[O_81_1]) ⟨OK_81_1,trivial⟩ T_81_0 l_81_0 (fun R K k a=>S_81_0 (fun p0 p1 p2 p3 p4 p5 p6 p7=>K (p0,p1,p2,p3,p4,p5,p6,p7,())) k a.1 a.2.1 a.2.2.1 a.2.2.2.1 a.2.2.2.2.1 a.2.2.2.2.2.1 a.2.2.2.2.2.2.1 a.2.2.2.2.2.2.2.1) Y_81_0 (fun _=>rfl) (fun _ _=>rfl) (fun k K a=>by kernel_rfl) (fun Y K a=>by
 unfold S_81_0
 repeat' first|apply gdN|apply condN|(apply Bn_81_1<;>intros)|rfl) (ok0 _)
noncomputable def F_81(a0:(List Int)):Option ((Int×((List (List Int))×((List (List Int))×Unit)))×Int×Unit) :=
 bif(↑(length a0):Int)!=553 then some ((0,[],[],PUnit.unit),3,PUnit.unit)else gd (inB 0 (length a0)) (bif decide (getD a0 0 (0:Int)>=(4:Int))then some ((0,[],[],PUnit.unit),3,PUnit.unit)else gd (inB 0 (length a0)) (B_81_0 (L_81_0 4611686018427387904 a0 0 0 [] [] (wrap i64 (getD a0 0 0)) [] []) fun y6 y7 y8 y9 y10 y11=>some ((y9,y10,y11,PUnit.unit),0,PUnit.unit)))
noncomputable def Sp.p_81(a0:(List Int)):Bool:=(F_81 a0).isSome
noncomputable def Sp.v_81(a0:(List Int)):(Int×((List (List Int))×((List (List Int))×Unit)))×Int×Unit:=(F_81 a0).getD (dfH R_81)
noncomputable def s_81:Summ:=shS A_81 R_81 (fun x=>p_81 x.1) (fun x=>v_81 x.1)
theorem pv_81(a0:(List Int)){y:(Int×((List (List Int))×((List (List Int))×Unit)))×Int×Unit}(h:F_81 a0=some y):p_81 a0=true/\v_81 a0=y:=pvG h
theorem run_81(x:HDen A_81)(y:HDen R_81)(h:F_81 x.1=some y):rnF sm_81 2 81 A_81 R_81 x y:=runG noO_ok (os:=[O_81_0]) ⟨OK_81_0,trivial⟩ (Eq.trans (by kernel_rfl) h)
end
noncomputable section
abbrev A_47:List Ty:=[(.slice (.int .u32))]
abbrev R_47:List Ty:=[(.pair (.int .i64) (.pair (.int .i64) (.pair (.arr 32 (.int .u8)) (.pair (.pair (.int .i64) (.pair (.slice (.arr 32 (.int .u8))) (.pair (.slice (.arr 32 (.int .u8))) .unit))) .unit)))),.bool]
noncomputable def sm_47:Nat->Option Summ:=smL [(44,s_44),(81,s_81),(99,s_99)]
noncomputable def F_47(a0:(List Int)):Option ((Int×(Int×((List Int)×((Int×((List (List Int))×((List (List Int))×Unit)))×Unit))))×Bool×Unit) :=
 gd (sl3 0 1 (↑(length a0):Int)) (gd (decide (2<=(↑(length a0):Int))) (gd (inB 0 (length (take 1 (drop 1 a0)))) (gd (decide (3<=(↑(length a0):Int))) (gd (inB 0 (length (take 1 (drop 2 a0)))) (gd (decide (11<=(↑(length a0):Int))) (gd (p_44 (take 8 (drop 3 a0))) (gd (sl3 11 564 (↑(length a0):Int)) (gd (p_81 (take 553 (drop 11 a0))) (bif(v_81 (take 553 (drop 11 a0))).2.1 !=0 then some ((0,0,replicate 32 (0:Int),(0,[],[],PUnit.unit),PUnit.unit),false,PUnit.unit)else bif decide (wrap i64 (getD (take 1 (drop 1 a0)) 0 0)<1)then some ((0,0,replicate 32 (0:Int),(0,[],[],PUnit.unit),PUnit.unit),false,PUnit.unit)else bif decide (wrap i64 (getD (take 1 (drop 1 a0)) 0 0)>2147483647)then some ((0,0,replicate 32 (0:Int),(0,[],[],PUnit.unit),PUnit.unit),false,PUnit.unit)else bif decide (wrap i64 (getD (take 1 (drop 2 a0)) 0 0)<1)then some ((0,0,replicate 32 (0:Int),(0,[],[],PUnit.unit),PUnit.unit),false,PUnit.unit)else bif decide (wrap i64 (getD (take 1 (drop 2 a0)) 0 0)>wrap i64 ((↑(length a0):Int)-564))then some ((0,0,replicate 32 (0:Int),(0,[],[],PUnit.unit),PUnit.unit),false,PUnit.unit)else some ((wrap i64 (getD (take 1 (drop 1 a0)) 0 0),wrap i64 (getD (take 1 (drop 2 a0)) 0 0),over (replicate 32 (0:Int)) 0 (take 32 ((v_44 (take 8 (drop 3 a0))).1)),(v_81 (take 553 (drop 11 a0))).1,PUnit.unit),true,PUnit.unit))))))))))
noncomputable def Sp.p_47(a0:(List Int)):Bool:=(F_47 a0).isSome
noncomputable def Sp.v_47(a0:(List Int)):(Int×(Int×((List Int)×((Int×((List (List Int))×((List (List Int))×Unit)))×Unit))))×Bool×Unit:=(F_47 a0).getD (dfH R_47)
noncomputable def s_47:Summ:=shS A_47 R_47 (fun x=>p_47 x.1) (fun x=>v_47 x.1)
theorem pv_47(a0:(List Int)){y:(Int×(Int×((List Int)×((Int×((List (List Int))×((List (List Int))×Unit)))×Unit))))×Bool×Unit}(h:F_47 a0=some y):p_47 a0=true/\v_47 a0=y:=pvG h
theorem run_47(x:HDen A_47)(y:HDen R_47)(h:F_47 x.1=some y):rnF sm_47 3 47 A_47 R_47 x y:=runG noO_ok (os:=[]) trivial (Eq.trans (by kernel_rfl) h)
end
noncomputable section
abbrev A_14:List Ty:=[(.pair (.pair (.slice (.int .u32)) (.pair (.slice (.int .i64)) (.pair (.int .i64) .unit))) (.pair (.arr 32 (.int .u8)) .unit)),(.int .i64)]
abbrev R_14:List Ty:=[(.pair (.int .i64) (.pair (.int .i64) (.pair (.arr 32 (.int .u8)) (.pair (.pair (.int .i64) (.pair (.slice (.arr 32 (.int .u8))) (.pair (.slice (.arr 32 (.int .u8))) .unit))) .unit)))),.bool]
noncomputable def sm_14:Nat->Option Summ:=smL [(12,s_12),(42,s_42),(46,s_46),(47,s_47)]
noncomputable def F_14(a0:(((List Int)×((List Int)×(Int×Unit)))×((List Int)×Unit)))(a1:Int):Option ((Int×(Int×((List Int)×((Int×((List (List Int))×((List (List Int))×Unit)))×Unit))))×Bool×Unit) :=
 gd (p_12 a0) (bif !(v_12 a0).1 then some ((0,0,replicate 32 (0:Int),(0,[],[],PUnit.unit),PUnit.unit),false,PUnit.unit)else gd (p_46 a1) (bif !(v_46 a1).1 then some ((0,0,replicate 32 (0:Int),(0,[],[],PUnit.unit),PUnit.unit),false,PUnit.unit)else gd (p_42 a0 a1) (gd (p_47 ((v_42 a0 a1).1)) (some ((v_47 ((v_42 a0 a1).1)).1,(v_47 ((v_42 a0 a1).1)).2.1,PUnit.unit)))))
noncomputable def Sp.p_14(a0:(((List Int)×((List Int)×(Int×Unit)))×((List Int)×Unit)))(a1:Int):Bool:=(F_14 a0 a1).isSome
noncomputable def Sp.v_14(a0:(((List Int)×((List Int)×(Int×Unit)))×((List Int)×Unit)))(a1:Int):(Int×(Int×((List Int)×((Int×((List (List Int))×((List (List Int))×Unit)))×Unit))))×Bool×Unit:=(F_14 a0 a1).getD (dfH R_14)
noncomputable def s_14:Summ:=shS A_14 R_14 (fun x=>p_14 x.1 x.2.1) (fun x=>v_14 x.1 x.2.1)
theorem pv_14(a0:(((List Int)×((List Int)×(Int×Unit)))×((List Int)×Unit)))(a1:Int){y:(Int×(Int×((List Int)×((Int×((List (List Int))×((List (List Int))×Unit)))×Unit))))×Bool×Unit}(h:F_14 a0 a1=some y):p_14 a0 a1=true/\v_14 a0 a1=y:=pvG h
theorem run_14(x:HDen A_14)(y:HDen R_14)(h:F_14 x.1 x.2.1=some y):rnF sm_14 1 14 A_14 R_14 x y:=runG noO_ok (os:=[]) trivial (Eq.trans (by kernel_rfl) h)
end
noncomputable section
abbrev A_66:List Ty:=[]
abbrev R_66:List Ty:=[(.arr 64 (.int .u32))]
noncomputable def sm_66:Nat->Option Summ:=smL []
noncomputable def F_66:Option ((List Int)×Unit) :=
 some ([1116352408,1899447441,3049323471,3921009573,961987163,1508970993,2453635748,2870763221,3624381080,310598401,607225278,1426881987,1925078388,2162078206,2614888103,3248222580,3835390401,4022224774,264347078,604807628,770255983,1249150122,1555081692,1996064986,2554220882,2821834349,2952996808,3210313671,3336571891,3584528711,113926993,338241895,666307205,773529912,1294757372,1396182291,1695183700,1986661051,2177026350,2456956037,2730485921,2820302411,3259730800,3345764771,3516065817,3600352804,4094571909,275423344,430227734,506948616,659060556,883997877,958139571,1322822218,1537002063,1747873779,1955562222,2024104815,2227730452,2361852424,2428436474,2756734187,3204031479,3329325298],PUnit.unit)
noncomputable def Sp.p_66:Bool:=(F_66).isSome
noncomputable def Sp.v_66:(List Int)×Unit:=(F_66).getD (dfH R_66)
noncomputable def s_66:Summ:=shN A_66 R_66 (fun x=>p_66) (fun x=>v_66)
theorem run_66(x:HDen A_66)(y:HDen R_66)(h:F_66=some y):rnF sm_66 1 66 A_66 R_66 x y:=runG noO_ok (os:=[]) trivial (Eq.trans (by kernel_rfl) h)
end
noncomputable section
abbrev A_95:List Ty:=[(.slice (.int .u8))]
abbrev R_95:List Ty:=[(.int .u32)]
noncomputable def sm_95:Nat->Option Summ:=smL []
noncomputable def F_95(a0:(List Int)):Option (Int×Unit) :=
 gd (inB 0 (length a0)) (gd (inB 1 (length a0)) (gd (inB 2 (length a0)) (gd (inB 3 (length a0)) (some (Sp.orI u32 (Sp.orI u32 (Sp.orI u32 (wrap u32 (wrap u32 (getD a0 0 0)*16777216)) (wrap u32 (wrap u32 (getD a0 1 0)*65536))) (wrap u32 (wrap u32 (getD a0 2 0)*256))) (wrap u32 (getD a0 3 0)),PUnit.unit)))))
noncomputable def Sp.p_95(a0:(List Int)):Bool:=(F_95 a0).isSome
noncomputable def Sp.v_95(a0:(List Int)):Int×Unit:=(F_95 a0).getD (dfH R_95)
noncomputable def s_95:Summ:=shN A_95 R_95 (fun x=>p_95 x.1) (fun x=>v_95 x.1)
theorem pv_95(a0:(List Int)){y:Int×Unit}(h:F_95 a0=some y):p_95 a0=true/\v_95 a0=y:=pvG h
theorem run_95(x:HDen A_95)(y:HDen R_95)(h:F_95 x.1=some y):rnF sm_95 1 95 A_95 R_95 x y:=runG noO_ok (os:=[]) trivial (Eq.trans (by kernel_rfl) h)
end
noncomputable section
abbrev A_104:List Ty:=[(.int .u32),(.int .i64)]
abbrev R_104:List Ty:=[(.int .u32)]
noncomputable def sm_104:Nat->Option Summ:=smL []
noncomputable def F_104(a0 a1:Int):Option (Int×Unit) :=
 gd (decide (0<=wrap u64 (32-Sp.andI u64 (wrap u64 a1) 31))) (some (Sp.orI u32 (wrap u32 (a0*2^Nat.min (toNat (Sp.andI u64 (wrap u64 a1) 31)) 32)) (Int.fdiv a0 (2^Nat.min (toNat (wrap u64 (32-Sp.andI u64 (wrap u64 a1) 31))) 32)),PUnit.unit))
noncomputable def Sp.p_104(a0 a1:Int):Bool:=(F_104 a0 a1).isSome
noncomputable def Sp.v_104(a0 a1:Int):Int×Unit:=(F_104 a0 a1).getD (dfH R_104)
noncomputable def s_104:Summ:=shN A_104 R_104 (fun x=>p_104 x.1 x.2.1) (fun x=>v_104 x.1 x.2.1)
theorem pv_104(a0 a1:Int){y:Int×Unit}(h:F_104 a0 a1=some y):p_104 a0 a1=true/\v_104 a0 a1=y:=pvG h
theorem run_104(x:HDen A_104)(y:HDen R_104)(h:F_104 x.1 x.2.1=some y):rnF sm_104 1 104 A_104 R_104 x y:=runG noO_ok (os:=[]) trivial (Eq.trans (by kernel_rfl) h)
end
noncomputable section
abbrev A_96:List Ty:=[(.int .u32),(.int .i64)]
abbrev R_96:List Ty:=[(.int .u32)]
noncomputable def sm_96:Nat->Option Summ:=smL [(104,s_104)]
noncomputable def F_96(a0 a1:Int):Option (Int×Unit) :=
 gd (p_104 a0 (wrap i64 (0-a1))) (some ((v_104 a0 (wrap i64 (0-a1))).1,PUnit.unit))
noncomputable def Sp.p_96(a0 a1:Int):Bool:=(F_96 a0 a1).isSome
noncomputable def Sp.v_96(a0 a1:Int):Int×Unit:=(F_96 a0 a1).getD (dfH R_96)
noncomputable def s_96:Summ:=shN A_96 R_96 (fun x=>p_96 x.1 x.2.1) (fun x=>v_96 x.1 x.2.1)
theorem pv_96(a0 a1:Int){y:Int×Unit}(h:F_96 a0 a1=some y):p_96 a0 a1=true/\v_96 a0 a1=y:=pvG h
theorem run_96(x:HDen A_96)(y:HDen R_96)(h:F_96 x.1 x.2.1=some y):rnF sm_96 1 96 A_96 R_96 x y:=runG noO_ok (os:=[]) trivial (Eq.trans (by kernel_rfl) h)
end
noncomputable section
abbrev A_35:List Ty:=[(.slice (.int .u8))]
abbrev R_35:List Ty:=[(.arr 32 (.int .u8))]
noncomputable def sm_35:Nat->Option Summ:=smL [(66,s_66),(95,s_95),(96,s_96)]
noncomputable def T_35_67_0_0:PS:=⟨176,[(0,.kc (.ptr 1 [])),(1,.kc (.ptr 2 [])),(2,.hv (.slice (.int .u8))),(6,.kc (.ptr 3 [])),(20,.hv (.int .i64))],[.mem (.hv (.arr 32 (.int .u8))),.mem (.hv (.arr 8 (.int .u32))),.mem (.hv (.arr 64 (.int .u32))),.mem (.hv (.arr 64 (.int .u32)))],3⟩
inductive Sp.E_35_67_0_0 where
 |e0 (p2 p3 p4 p5:List Int)
noncomputable def Sp.B_35_67_0_0{R:Type}(r:Option E_35_67_0_0)(k0:List Int->List Int->List Int->List Int->Option R):Option R:=match r with
 |none=>none
 |some (.e0 p2 p3 p4 p5)=>k0 p2 p3 p4 p5
theorem Bn_35_67_0_0{A R:Type}{r:Option E_35_67_0_0}{f:A->Option R}{k0:List Int->List Int->List Int->List Int->Option A}{l0:List Int->List Int->List Int->List Int->Option R}(h0:∀p2 p3 p4 p5,(k0 p2 p3 p4 p5).bind f=l0 p2 p3 p4 p5):(B_35_67_0_0 r k0).bind f=B_35_67_0_0 r l0:=by
 cases r with
 |none=>rfl
 |some e=>cases e<;>first|apply h0
noncomputable def Y_35_67_0_0{R:Type}(k:Ex->St->Option R):E_35_67_0_0->Option R
 | .e0 p2 p3 p4 p5=>k (Ex.exit 0) (sx 176 [(0,CV.ptr 1 []),(1,CV.ptr 2 []),(6,CV.ptr 3 [])] [Blk.mem (CV.pure (Ty.arr 32 (Ty.int u8)) p2),Blk.mem (CV.pure (Ty.arr 8 (Ty.int u32)) p3),Blk.mem (CV.pure (Ty.arr 64 (Ty.int u32)) p4),Blk.mem (CV.pure (Ty.arr 64 (Ty.int u32)) p5)] 3)
noncomputable def Sp.S_35_67_0_0{R:Type}(K:List Int->Int->List Int->List Int->List Int->List Int->Option R)(k:E_35_67_0_0->Option R)(p0:List Int)(p1:Int)(p2 p3 p4 p5:List Int):Option R:=
 bif decide (p1<16)then gd (sl3 (wrap i64 (4*p1)) (↑(length p0):Int) (↑(length p0):Int)) (gd (p_95 (drop (toNat (wrap i64 (4*p1))) p0)) (gd (inB p1 64) (gd (decide (toNat p1<64)&&true) (K p0 (wrap i64 (p1+1)) p2 p3 p4 (List.set p5 (toNat p1) ((v_95 (drop (toNat (wrap i64 (4*p1))) p0)).1))))))else k (E_35_67_0_0.e0 p2 p3 p4 p5)
noncomputable def Sp.L_35_67_0_0:Nat->List Int->Int->List Int->List Int->List Int->List Int->Option E_35_67_0_0
 |0,_,_,_,_,_,_=>none
 |m+1,p0,p1,p2,p3,p4,p5=>S_35_67_0_0 (L_35_67_0_0 m) some p0 p1 p2 p3 p4 p5
noncomputable def l_35_67_0_0(m:Nat)(a:T_35_67_0_0.E):Option E_35_67_0_0:=L_35_67_0_0 m a.1 a.2.1 a.2.2.1 a.2.2.2.1 a.2.2.2.2.1 a.2.2.2.2.2.1
noncomputable def O_35_67_0_0{R:Type}:Orc R:=orL T_35_67_0_0 (l_35_67_0_0 FU) Y_35_67_0_0
theorem OK_35_67_0_0{R:Type}:okF (R:=R) sm_35 0 (nf 67 0) O_35_67_0_0:=lp0 T_35_67_0_0 l_35_67_0_0 (fun R K k a=>S_35_67_0_0 (fun p0 p1 p2 p3 p4 p5=>K (p0,p1,p2,p3,p4,p5,())) k a.1 a.2.1 a.2.2.1 a.2.2.2.1 a.2.2.2.2.1 a.2.2.2.2.2.1) Y_35_67_0_0 (fun _ _ _=>by kernel_rfl) (fun _ _ _=>by
 unfold S_35_67_0_0
 repeat' first|apply gdN|apply condN|rfl) (ok0 _)
noncomputable def T_35_67_0_1:PS:=⟨176,[(0,.kc (.ptr 1 [])),(1,.kc (.ptr 2 [])),(2,.sb 3 [] 1 none none (some none)),(6,.kc (.ptr 4 [])),(20,.hv (.int .i64))],[.mem (.hv (.arr 32 (.int .u8))),.mem (.hv (.arr 8 (.int .u32))),.mem (.hv (.arr 64 (.int .u32))),.mem (.hv (.arr 128 (.int .u8))),.mem (.hv (.arr 64 (.int .u32)))],4⟩
inductive Sp.E_35_67_0_1 where
 |e0 (p4 p5 p6 p7 p8:List Int)
noncomputable def Sp.B_35_67_0_1{R:Type}(r:Option E_35_67_0_1)(k0:List Int->List Int->List Int->List Int->List Int->Option R):Option R:=match r with
 |none=>none
 |some (.e0 p4 p5 p6 p7 p8)=>k0 p4 p5 p6 p7 p8
theorem Bn_35_67_0_1{A R:Type}{r:Option E_35_67_0_1}{f:A->Option R}{k0:List Int->List Int->List Int->List Int->List Int->Option A}{l0:List Int->List Int->List Int->List Int->List Int->Option R}(h0:∀p4 p5 p6 p7 p8,(k0 p4 p5 p6 p7 p8).bind f=l0 p4 p5 p6 p7 p8):(B_35_67_0_1 r k0).bind f=B_35_67_0_1 r l0:=by
 cases r with
 |none=>rfl
 |some e=>cases e<;>first|apply h0
noncomputable def Y_35_67_0_1{R:Type}(k:Ex->St->Option R):E_35_67_0_1->Option R
 | .e0 p4 p5 p6 p7 p8=>k (Ex.exit 0) (sx 176 [(0,CV.ptr 1 []),(1,CV.ptr 2 []),(6,CV.ptr 4 [])] [Blk.mem (CV.pure (Ty.arr 32 (Ty.int u8)) p4),Blk.mem (CV.pure (Ty.arr 8 (Ty.int u32)) p5),Blk.mem (CV.pure (Ty.arr 64 (Ty.int u32)) p6),Blk.mem (CV.pure (Ty.arr 128 (Ty.int u8)) p7),Blk.mem (CV.pure (Ty.arr 64 (Ty.int u32)) p8)] 4)
noncomputable def Sp.S_35_67_0_1{R:Type}(K:Nat->Nat->Nat->Int->List Int->List Int->List Int->List Int->List Int->Option R)(k:E_35_67_0_1->Option R)(p0 p1 p2:Nat)(p3:Int)(p4 p5 p6 p7 p8:List Int):Option R:=
 bif decide (p3<16)then gd (sl3 (wrap i64 (4*p3)) (↑p1:Int) (↑p1:Int)) (gd (decide (p0+toNat (wrap i64 (4*p3))+(toNat (↑p1:Int)-toNat (wrap i64 (4*p3)))<=128)&&true&&p_95 (take (toNat (↑p1:Int)-toNat (wrap i64 (4*p3))) (drop (p0+toNat (wrap i64 (4*p3))) p7))) (gd (inB p3 64) (gd (decide (toNat p3<64)&&true) (K p0 p1 p2 (wrap i64 (p3+1)) p4 p5 p6 p7 (List.set p8 (toNat p3) ((v_95 (take (toNat (↑p1:Int)-toNat (wrap i64 (4*p3))) (drop (p0+toNat (wrap i64 (4*p3))) p7))).1))))))else k (E_35_67_0_1.e0 p4 p5 p6 p7 p8)
noncomputable def Sp.L_35_67_0_1:Nat->Nat->Nat->Nat->Int->List Int->List Int->List Int->List Int->List Int->Option E_35_67_0_1
 |0,_,_,_,_,_,_,_,_,_=>none
 |m+1,p0,p1,p2,p3,p4,p5,p6,p7,p8=>S_35_67_0_1 (L_35_67_0_1 m) some p0 p1 p2 p3 p4 p5 p6 p7 p8
noncomputable def l_35_67_0_1(m:Nat)(a:T_35_67_0_1.E):Option E_35_67_0_1:=L_35_67_0_1 m a.1 a.2.1 a.2.2.1 a.2.2.2.1 a.2.2.2.2.1 a.2.2.2.2.2.1 a.2.2.2.2.2.2.1 a.2.2.2.2.2.2.2.1 a.2.2.2.2.2.2.2.2.1
noncomputable def O_35_67_0_1{R:Type}:Orc R:=orL T_35_67_0_1 (l_35_67_0_1 FU) Y_35_67_0_1 O_35_67_0_0
theorem OK_35_67_0_1{R:Type}:okF (R:=R) sm_35 0 (nf 67 0) O_35_67_0_1:=lp0 T_35_67_0_1 l_35_67_0_1 (fun R K k a=>S_35_67_0_1 (fun p0 p1 p2 p3 p4 p5 p6 p7 p8=>K (p0,p1,p2,p3,p4,p5,p6,p7,p8,())) k a.1 a.2.1 a.2.2.1 a.2.2.2.1 a.2.2.2.2.1 a.2.2.2.2.2.1 a.2.2.2.2.2.2.1 a.2.2.2.2.2.2.2.1 a.2.2.2.2.2.2.2.2.1) Y_35_67_0_1 (fun _ _ _=>by kernel_rfl) (fun _ _ _=>by
 unfold S_35_67_0_1
 repeat' first|apply gdN|apply condN|rfl) OK_35_67_0_0
noncomputable def T_35_67_1_0:PS:=⟨176,[(0,.kc (.ptr 1 [])),(1,.kc (.ptr 2 [])),(6,.kc (.ptr 3 [])),(8,.hv (.int .i64))],[.mem (.hv (.arr 32 (.int .u8))),.mem (.hv (.arr 8 (.int .u32))),.mem (.hv (.arr 64 (.int .u32))),.mem (.hv (.arr 64 (.int .u32)))],3⟩
inductive Sp.E_35_67_1_0 where
 |e0 (p1 p2 p3 p4:List Int)
noncomputable def Sp.B_35_67_1_0{R:Type}(r:Option E_35_67_1_0)(k0:List Int->List Int->List Int->List Int->Option R):Option R:=match r with
 |none=>none
 |some (.e0 p1 p2 p3 p4)=>k0 p1 p2 p3 p4
theorem Bn_35_67_1_0{A R:Type}{r:Option E_35_67_1_0}{f:A->Option R}{k0:List Int->List Int->List Int->List Int->Option A}{l0:List Int->List Int->List Int->List Int->Option R}(h0:∀p1 p2 p3 p4,(k0 p1 p2 p3 p4).bind f=l0 p1 p2 p3 p4):(B_35_67_1_0 r k0).bind f=B_35_67_1_0 r l0:=by
 cases r with
 |none=>rfl
 |some e=>cases e<;>first|apply h0
noncomputable def Y_35_67_1_0{R:Type}(k:Ex->St->Option R):E_35_67_1_0->Option R
 | .e0 p1 p2 p3 p4=>k (Ex.exit 2) (sx 176 [(0,CV.ptr 1 []),(1,CV.ptr 2 []),(6,CV.ptr 3 [])] [Blk.mem (CV.pure (Ty.arr 32 (Ty.int u8)) p1),Blk.mem (CV.pure (Ty.arr 8 (Ty.int u32)) p2),Blk.mem (CV.pure (Ty.arr 64 (Ty.int u32)) p3),Blk.mem (CV.pure (Ty.arr 64 (Ty.int u32)) p4)] 3)
noncomputable def Sp.S_35_67_1_0{R:Type}(K:Int->List Int->List Int->List Int->List Int->Option R)(k:E_35_67_1_0->Option R)(p0:Int)(p1 p2 p3 p4:List Int):Option R:=
 bif decide (p0<64)then gd (inB (wrap i64 (p0-15)) 64) (gd (decide (toNat (wrap i64 (p0-15))<64)&&true) (gd (inB (wrap i64 (p0-2)) 64) (gd (decide (toNat (wrap i64 (p0-2))<64)&&true) (gd (p_96 (getD p4 (toNat (wrap i64 (p0-15))) 0) 7) (gd (p_96 (getD p4 (toNat (wrap i64 (p0-15))) 0) 18) (gd (p_96 (getD p4 (toNat (wrap i64 (p0-2))) 0) 17) (gd (p_96 (getD p4 (toNat (wrap i64 (p0-2))) 0) 19) (gd (inB (wrap i64 (p0-7)) 64) (gd (decide (toNat (wrap i64 (p0-7))<64)&&true) (gd (inB (wrap i64 (p0-16)) 64) (gd (decide (toNat (wrap i64 (p0-16))<64)&&true) (gd (inB p0 64) (gd (decide (toNat p0<64)&&true) (K (wrap i64 (p0+1)) p1 p2 p3 (List.set p4 (toNat p0) (wrap u32 (wrap u32 (wrap u32 (Sp.xorI u32 (Sp.xorI u32 ((v_96 (getD p4 (toNat (wrap i64 (p0-2))) 0) 17).1) ((v_96 (getD p4 (toNat (wrap i64 (p0-2))) 0) 19).1)) (Int.fdiv (getD p4 (toNat (wrap i64 (p0-2))) 0) 1024)+getD p4 (toNat (wrap i64 (p0-7))) 0)+Sp.xorI u32 (Sp.xorI u32 ((v_96 (getD p4 (toNat (wrap i64 (p0-15))) 0) 7).1) ((v_96 (getD p4 (toNat (wrap i64 (p0-15))) 0) 18).1)) (Int.fdiv (getD p4 (toNat (wrap i64 (p0-15))) 0) 8))+getD p4 (toNat (wrap i64 (p0-16))) 0)))))))))))))))))else k (E_35_67_1_0.e0 p1 p2 p3 p4)
noncomputable def Sp.L_35_67_1_0:Nat->Int->List Int->List Int->List Int->List Int->Option E_35_67_1_0
 |0,_,_,_,_,_=>none
 |m+1,p0,p1,p2,p3,p4=>S_35_67_1_0 (L_35_67_1_0 m) some p0 p1 p2 p3 p4
noncomputable def l_35_67_1_0(m:Nat)(a:T_35_67_1_0.E):Option E_35_67_1_0:=L_35_67_1_0 m a.1 a.2.1 a.2.2.1 a.2.2.2.1 a.2.2.2.2.1
noncomputable def O_35_67_1_0{R:Type}:Orc R:=orL T_35_67_1_0 (l_35_67_1_0 FU) Y_35_67_1_0
theorem OK_35_67_1_0{R:Type}:okF (R:=R) sm_35 0 (nf 67 1) O_35_67_1_0:=lp0 T_35_67_1_0 l_35_67_1_0 (fun R K k a=>S_35_67_1_0 (fun p0 p1 p2 p3 p4=>K (p0,p1,p2,p3,p4,())) k a.1 a.2.1 a.2.2.1 a.2.2.2.1 a.2.2.2.2.1) Y_35_67_1_0 (fun _ _ _=>by kernel_rfl) (fun _ _ _=>by
 unfold S_35_67_1_0
 repeat' first|apply gdN|apply condN|rfl) (ok0 _)
noncomputable def T_35_67_1_1:PS:=⟨176,[(0,.kc (.ptr 1 [])),(1,.kc (.ptr 2 [])),(6,.kc (.ptr 4 [])),(8,.hv (.int .i64))],[.mem (.hv (.arr 32 (.int .u8))),.mem (.hv (.arr 8 (.int .u32))),.mem (.hv (.arr 64 (.int .u32))),.mem (.hv (.arr 128 (.int .u8))),.mem (.hv (.arr 64 (.int .u32)))],4⟩
inductive Sp.E_35_67_1_1 where
 |e0 (p1 p2 p3 p4 p5:List Int)
noncomputable def Sp.B_35_67_1_1{R:Type}(r:Option E_35_67_1_1)(k0:List Int->List Int->List Int->List Int->List Int->Option R):Option R:=match r with
 |none=>none
 |some (.e0 p1 p2 p3 p4 p5)=>k0 p1 p2 p3 p4 p5
theorem Bn_35_67_1_1{A R:Type}{r:Option E_35_67_1_1}{f:A->Option R}{k0:List Int->List Int->List Int->List Int->List Int->Option A}{l0:List Int->List Int->List Int->List Int->List Int->Option R}(h0:∀p1 p2 p3 p4 p5,(k0 p1 p2 p3 p4 p5).bind f=l0 p1 p2 p3 p4 p5):(B_35_67_1_1 r k0).bind f=B_35_67_1_1 r l0:=by
 cases r with
 |none=>rfl
 |some e=>cases e<;>first|apply h0
noncomputable def Y_35_67_1_1{R:Type}(k:Ex->St->Option R):E_35_67_1_1->Option R
 | .e0 p1 p2 p3 p4 p5=>k (Ex.exit 2) (sx 176 [(0,CV.ptr 1 []),(1,CV.ptr 2 []),(6,CV.ptr 4 [])] [Blk.mem (CV.pure (Ty.arr 32 (Ty.int u8)) p1),Blk.mem (CV.pure (Ty.arr 8 (Ty.int u32)) p2),Blk.mem (CV.pure (Ty.arr 64 (Ty.int u32)) p3),Blk.mem (CV.pure (Ty.arr 128 (Ty.int u8)) p4),Blk.mem (CV.pure (Ty.arr 64 (Ty.int u32)) p5)] 4)
noncomputable def Sp.S_35_67_1_1{R:Type}(K:Int->List Int->List Int->List Int->List Int->List Int->Option R)(k:E_35_67_1_1->Option R)(p0:Int)(p1 p2 p3 p4 p5:List Int):Option R:=
 bif decide (p0<64)then gd (inB (wrap i64 (p0-15)) 64) (gd (decide (toNat (wrap i64 (p0-15))<64)&&true) (gd (inB (wrap i64 (p0-2)) 64) (gd (decide (toNat (wrap i64 (p0-2))<64)&&true) (gd (p_96 (getD p5 (toNat (wrap i64 (p0-15))) 0) 7) (gd (p_96 (getD p5 (toNat (wrap i64 (p0-15))) 0) 18) (gd (p_96 (getD p5 (toNat (wrap i64 (p0-2))) 0) 17) (gd (p_96 (getD p5 (toNat (wrap i64 (p0-2))) 0) 19) (gd (inB (wrap i64 (p0-7)) 64) (gd (decide (toNat (wrap i64 (p0-7))<64)&&true) (gd (inB (wrap i64 (p0-16)) 64) (gd (decide (toNat (wrap i64 (p0-16))<64)&&true) (gd (inB p0 64) (gd (decide (toNat p0<64)&&true) (K (wrap i64 (p0+1)) p1 p2 p3 p4 (List.set p5 (toNat p0) (wrap u32 (wrap u32 (wrap u32 (Sp.xorI u32 (Sp.xorI u32 ((v_96 (getD p5 (toNat (wrap i64 (p0-2))) 0) 17).1) ((v_96 (getD p5 (toNat (wrap i64 (p0-2))) 0) 19).1)) (Int.fdiv (getD p5 (toNat (wrap i64 (p0-2))) 0) 1024)+getD p5 (toNat (wrap i64 (p0-7))) 0)+Sp.xorI u32 (Sp.xorI u32 ((v_96 (getD p5 (toNat (wrap i64 (p0-15))) 0) 7).1) ((v_96 (getD p5 (toNat (wrap i64 (p0-15))) 0) 18).1)) (Int.fdiv (getD p5 (toNat (wrap i64 (p0-15))) 0) 8))+getD p5 (toNat (wrap i64 (p0-16))) 0)))))))))))))))))else k (E_35_67_1_1.e0 p1 p2 p3 p4 p5)
noncomputable def Sp.L_35_67_1_1:Nat->Int->List Int->List Int->List Int->List Int->List Int->Option E_35_67_1_1
 |0,_,_,_,_,_,_=>none
 |m+1,p0,p1,p2,p3,p4,p5=>S_35_67_1_1 (L_35_67_1_1 m) some p0 p1 p2 p3 p4 p5
noncomputable def l_35_67_1_1(m:Nat)(a:T_35_67_1_1.E):Option E_35_67_1_1:=L_35_67_1_1 m a.1 a.2.1 a.2.2.1 a.2.2.2.1 a.2.2.2.2.1 a.2.2.2.2.2.1
noncomputable def O_35_67_1_1{R:Type}:Orc R:=orL T_35_67_1_1 (l_35_67_1_1 FU) Y_35_67_1_1 O_35_67_1_0
theorem OK_35_67_1_1{R:Type}:okF (R:=R) sm_35 0 (nf 67 1) O_35_67_1_1:=lp0 T_35_67_1_1 l_35_67_1_1 (fun R K k a=>S_35_67_1_1 (fun p0 p1 p2 p3 p4 p5=>K (p0,p1,p2,p3,p4,p5,())) k a.1 a.2.1 a.2.2.1 a.2.2.2.1 a.2.2.2.2.1 a.2.2.2.2.2.1) Y_35_67_1_1 (fun _ _ _=>by kernel_rfl) (fun _ _ _=>by
 unfold S_35_67_1_1
 repeat' first|apply gdN|apply condN|rfl) OK_35_67_1_0
noncomputable def T_35_67_2_0:PS:=⟨176,[(0,.kc (.ptr 1 [])),(1,.kc (.ptr 2 [])),(6,.kc (.ptr 3 [])),(13,.kc (.ptr 4 [])),(77,.hv (.int .i64))],[.mem (.hv (.arr 32 (.int .u8))),.mem (.hv (.arr 8 (.int .u32))),.mem (.hv (.arr 64 (.int .u32))),.mem (.hv (.arr 64 (.int .u32))),.mem (.hv (.arr 8 (.int .u32)))],3⟩
inductive Sp.E_35_67_2_0 where
 |e0 (p1 p2 p3 p5:List Int)
noncomputable def Sp.B_35_67_2_0{R:Type}(r:Option E_35_67_2_0)(k0:List Int->List Int->List Int->List Int->Option R):Option R:=match r with
 |none=>none
 |some (.e0 p1 p2 p3 p5)=>k0 p1 p2 p3 p5
theorem Bn_35_67_2_0{A R:Type}{r:Option E_35_67_2_0}{f:A->Option R}{k0:List Int->List Int->List Int->List Int->Option A}{l0:List Int->List Int->List Int->List Int->Option R}(h0:∀p1 p2 p3 p5,(k0 p1 p2 p3 p5).bind f=l0 p1 p2 p3 p5):(B_35_67_2_0 r k0).bind f=B_35_67_2_0 r l0:=by
 cases r with
 |none=>rfl
 |some e=>cases e<;>first|apply h0
noncomputable def Y_35_67_2_0{R:Type}(k:Ex->St->Option R):E_35_67_2_0->Option R
 | .e0 p1 p2 p3 p5=>k (Ex.exit 4) (sx 176 [(0,CV.ptr 1 []),(13,CV.ptr 3 [])] [Blk.mem (CV.pure (Ty.arr 32 (Ty.int u8)) p1),Blk.mem (CV.pure (Ty.arr 8 (Ty.int u32)) p2),Blk.mem (CV.pure (Ty.arr 64 (Ty.int u32)) p3),Blk.mem (CV.pure (Ty.arr 8 (Ty.int u32)) p5)] 3)
noncomputable def Sp.S_35_67_2_0{R:Type}(K:Int->List Int->List Int->List Int->List Int->List Int->Option R)(k:E_35_67_2_0->Option R)(p0:Int)(p1 p2 p3 p4 p5:List Int):Option R:=
 bif decide (p0<64)then gd (p_96 (getD p5 4 0) 6) (gd (p_96 (getD p5 4 0) 11) (gd (p_96 (getD p5 4 0) 25) (gd (inB p0 64) (gd (decide (toNat p0<64)&&true) (gd (inB p0 64) (gd (decide (toNat p0<64)&&true) (gd (p_96 (getD p5 0 0) 2) (gd (p_96 (getD p5 0 0) 13) (gd (p_96 (getD p5 0 0) 22) (K (wrap i64 (p0+1)) p1 p2 p3 p4 [wrap u32 (wrap u32 (wrap u32 (wrap u32 (wrap u32 (getD p5 7 0+Sp.xorI u32 (Sp.xorI u32 ((v_96 (getD p5 4 0) 6).1) ((v_96 (getD p5 4 0) 11).1)) ((v_96 (getD p5 4 0) 25).1))+Sp.xorI u32 (Sp.andI u32 (getD p5 4 0) (getD p5 5 0)) (Sp.andI u32 (Sp.xorI u32 4294967295 (getD p5 4 0)) (getD p5 6 0)))+getD p3 (toNat p0) 0)+getD p4 (toNat p0) 0)+wrap u32 (Sp.xorI u32 (Sp.xorI u32 ((v_96 (getD p5 0 0) 2).1) ((v_96 (getD p5 0 0) 13).1)) ((v_96 (getD p5 0 0) 22).1)+Sp.xorI u32 (Sp.xorI u32 (Sp.andI u32 (getD p5 0 0) (getD p5 1 0)) (Sp.andI u32 (getD p5 0 0) (getD p5 2 0))) (Sp.andI u32 (getD p5 1 0) (getD p5 2 0)))),getD p5 0 0,getD p5 1 0,getD p5 2 0,wrap u32 (getD p5 3 0+wrap u32 (wrap u32 (wrap u32 (wrap u32 (getD p5 7 0+Sp.xorI u32 (Sp.xorI u32 ((v_96 (getD p5 4 0) 6).1) ((v_96 (getD p5 4 0) 11).1)) ((v_96 (getD p5 4 0) 25).1))+Sp.xorI u32 (Sp.andI u32 (getD p5 4 0) (getD p5 5 0)) (Sp.andI u32 (Sp.xorI u32 4294967295 (getD p5 4 0)) (getD p5 6 0)))+getD p3 (toNat p0) 0)+getD p4 (toNat p0) 0)),getD p5 4 0,getD p5 5 0,getD p5 6 0]))))))))))else k (E_35_67_2_0.e0 p1 p2 p3 p5)
noncomputable def Sp.L_35_67_2_0:Nat->Int->List Int->List Int->List Int->List Int->List Int->Option E_35_67_2_0
 |0,_,_,_,_,_,_=>none
 |m+1,p0,p1,p2,p3,p4,p5=>S_35_67_2_0 (L_35_67_2_0 m) some p0 p1 p2 p3 p4 p5
noncomputable def l_35_67_2_0(m:Nat)(a:T_35_67_2_0.E):Option E_35_67_2_0:=L_35_67_2_0 m a.1 a.2.1 a.2.2.1 a.2.2.2.1 a.2.2.2.2.1 a.2.2.2.2.2.1
noncomputable def O_35_67_2_0{R:Type}:Orc R:=orL T_35_67_2_0 (l_35_67_2_0 FU) Y_35_67_2_0
theorem OK_35_67_2_0{R:Type}:okF (R:=R) sm_35 0 (nf 67 2) O_35_67_2_0:=lp0 T_35_67_2_0 l_35_67_2_0 (fun R K k a=>S_35_67_2_0 (fun p0 p1 p2 p3 p4 p5=>K (p0,p1,p2,p3,p4,p5,())) k a.1 a.2.1 a.2.2.1 a.2.2.2.1 a.2.2.2.2.1 a.2.2.2.2.2.1) Y_35_67_2_0 (fun _ _ _=>by kernel_rfl) (fun _ _ _=>by
 unfold S_35_67_2_0
 repeat' first|apply gdN|apply condN|rfl) (ok0 _)
noncomputable def T_35_67_2_1:PS:=⟨176,[(0,.kc (.ptr 1 [])),(1,.kc (.ptr 2 [])),(6,.kc (.ptr 4 [])),(13,.kc (.ptr 5 [])),(77,.hv (.int .i64))],[.mem (.hv (.arr 32 (.int .u8))),.mem (.hv (.arr 8 (.int .u32))),.mem (.hv (.arr 64 (.int .u32))),.mem (.hv (.arr 128 (.int .u8))),.mem (.hv (.arr 64 (.int .u32))),.mem (.hv (.arr 8 (.int .u32)))],4⟩
inductive Sp.E_35_67_2_1 where
 |e0 (p1 p2 p3 p4 p6:List Int)
noncomputable def Sp.B_35_67_2_1{R:Type}(r:Option E_35_67_2_1)(k0:List Int->List Int->List Int->List Int->List Int->Option R):Option R:=match r with
 |none=>none
 |some (.e0 p1 p2 p3 p4 p6)=>k0 p1 p2 p3 p4 p6
theorem Bn_35_67_2_1{A R:Type}{r:Option E_35_67_2_1}{f:A->Option R}{k0:List Int->List Int->List Int->List Int->List Int->Option A}{l0:List Int->List Int->List Int->List Int->List Int->Option R}(h0:∀p1 p2 p3 p4 p6,(k0 p1 p2 p3 p4 p6).bind f=l0 p1 p2 p3 p4 p6):(B_35_67_2_1 r k0).bind f=B_35_67_2_1 r l0:=by
 cases r with
 |none=>rfl
 |some e=>cases e<;>first|apply h0
noncomputable def Y_35_67_2_1{R:Type}(k:Ex->St->Option R):E_35_67_2_1->Option R
 | .e0 p1 p2 p3 p4 p6=>k (Ex.exit 4) (sx 176 [(0,CV.ptr 1 []),(13,CV.ptr 4 [])] [Blk.mem (CV.pure (Ty.arr 32 (Ty.int u8)) p1),Blk.mem (CV.pure (Ty.arr 8 (Ty.int u32)) p2),Blk.mem (CV.pure (Ty.arr 64 (Ty.int u32)) p3),Blk.mem (CV.pure (Ty.arr 128 (Ty.int u8)) p4),Blk.mem (CV.pure (Ty.arr 8 (Ty.int u32)) p6)] 4)
noncomputable def Sp.S_35_67_2_1{R:Type}(K:Int->List Int->List Int->List Int->List Int->List Int->List Int->Option R)(k:E_35_67_2_1->Option R)(p0:Int)(p1 p2 p3 p4 p5 p6:List Int):Option R:=
 bif decide (p0<64)then gd (p_96 (getD p6 4 0) 6) (gd (p_96 (getD p6 4 0) 11) (gd (p_96 (getD p6 4 0) 25) (gd (inB p0 64) (gd (decide (toNat p0<64)&&true) (gd (inB p0 64) (gd (decide (toNat p0<64)&&true) (gd (p_96 (getD p6 0 0) 2) (gd (p_96 (getD p6 0 0) 13) (gd (p_96 (getD p6 0 0) 22) (K (wrap i64 (p0+1)) p1 p2 p3 p4 p5 [wrap u32 (wrap u32 (wrap u32 (wrap u32 (wrap u32 (getD p6 7 0+Sp.xorI u32 (Sp.xorI u32 ((v_96 (getD p6 4 0) 6).1) ((v_96 (getD p6 4 0) 11).1)) ((v_96 (getD p6 4 0) 25).1))+Sp.xorI u32 (Sp.andI u32 (getD p6 4 0) (getD p6 5 0)) (Sp.andI u32 (Sp.xorI u32 4294967295 (getD p6 4 0)) (getD p6 6 0)))+getD p3 (toNat p0) 0)+getD p5 (toNat p0) 0)+wrap u32 (Sp.xorI u32 (Sp.xorI u32 ((v_96 (getD p6 0 0) 2).1) ((v_96 (getD p6 0 0) 13).1)) ((v_96 (getD p6 0 0) 22).1)+Sp.xorI u32 (Sp.xorI u32 (Sp.andI u32 (getD p6 0 0) (getD p6 1 0)) (Sp.andI u32 (getD p6 0 0) (getD p6 2 0))) (Sp.andI u32 (getD p6 1 0) (getD p6 2 0)))),getD p6 0 0,getD p6 1 0,getD p6 2 0,wrap u32 (getD p6 3 0+wrap u32 (wrap u32 (wrap u32 (wrap u32 (getD p6 7 0+Sp.xorI u32 (Sp.xorI u32 ((v_96 (getD p6 4 0) 6).1) ((v_96 (getD p6 4 0) 11).1)) ((v_96 (getD p6 4 0) 25).1))+Sp.xorI u32 (Sp.andI u32 (getD p6 4 0) (getD p6 5 0)) (Sp.andI u32 (Sp.xorI u32 4294967295 (getD p6 4 0)) (getD p6 6 0)))+getD p3 (toNat p0) 0)+getD p5 (toNat p0) 0)),getD p6 4 0,getD p6 5 0,getD p6 6 0]))))))))))else k (E_35_67_2_1.e0 p1 p2 p3 p4 p6)
noncomputable def Sp.L_35_67_2_1:Nat->Int->List Int->List Int->List Int->List Int->List Int->List Int->Option E_35_67_2_1
 |0,_,_,_,_,_,_,_=>none
 |m+1,p0,p1,p2,p3,p4,p5,p6=>S_35_67_2_1 (L_35_67_2_1 m) some p0 p1 p2 p3 p4 p5 p6
noncomputable def l_35_67_2_1(m:Nat)(a:T_35_67_2_1.E):Option E_35_67_2_1:=L_35_67_2_1 m a.1 a.2.1 a.2.2.1 a.2.2.2.1 a.2.2.2.2.1 a.2.2.2.2.2.1 a.2.2.2.2.2.2.1
noncomputable def O_35_67_2_1{R:Type}:Orc R:=orL T_35_67_2_1 (l_35_67_2_1 FU) Y_35_67_2_1 O_35_67_2_0
theorem OK_35_67_2_1{R:Type}:okF (R:=R) sm_35 0 (nf 67 2) O_35_67_2_1:=lp0 T_35_67_2_1 l_35_67_2_1 (fun R K k a=>S_35_67_2_1 (fun p0 p1 p2 p3 p4 p5 p6=>K (p0,p1,p2,p3,p4,p5,p6,())) k a.1 a.2.1 a.2.2.1 a.2.2.2.1 a.2.2.2.2.1 a.2.2.2.2.2.1 a.2.2.2.2.2.2.1) Y_35_67_2_1 (fun _ _ _=>by kernel_rfl) (fun _ _ _=>by
 unfold S_35_67_2_1
 repeat' first|apply gdN|apply condN|rfl) OK_35_67_2_0
noncomputable def T_35_67_3_0:PS:=⟨176,[(0,.kc (.ptr 1 [])),(13,.kc (.ptr 3 [])),(161,.hv (.int .i64))],[.mem (.hv (.arr 32 (.int .u8))),.mem (.hv (.arr 8 (.int .u32))),.mem (.hv (.arr 64 (.int .u32))),.mem (.hv (.arr 8 (.int .u32)))],3⟩
inductive Sp.E_35_67_3_0 where
 |e0 (p1 p2 p3:List Int)
noncomputable def Sp.B_35_67_3_0{R:Type}(r:Option E_35_67_3_0)(k0:List Int->List Int->List Int->Option R):Option R:=match r with
 |none=>none
 |some (.e0 p1 p2 p3)=>k0 p1 p2 p3
theorem Bn_35_67_3_0{A R:Type}{r:Option E_35_67_3_0}{f:A->Option R}{k0:List Int->List Int->List Int->Option A}{l0:List Int->List Int->List Int->Option R}(h0:∀p1 p2 p3,(k0 p1 p2 p3).bind f=l0 p1 p2 p3):(B_35_67_3_0 r k0).bind f=B_35_67_3_0 r l0:=by
 cases r with
 |none=>rfl
 |some e=>cases e<;>first|apply h0
noncomputable def Y_35_67_3_0{R:Type}(k:Ex->St->Option R):E_35_67_3_0->Option R
 | .e0 p1 p2 p3=>k (Ex.exit 6) (sx 176 [] [Blk.mem (CV.pure (Ty.arr 32 (Ty.int u8)) p1),Blk.mem (CV.pure (Ty.arr 8 (Ty.int u32)) p2),Blk.mem (CV.pure (Ty.arr 64 (Ty.int u32)) p3)] 3)
noncomputable def Sp.S_35_67_3_0{R:Type}(K:Int->List Int->List Int->List Int->List Int->Option R)(k:E_35_67_3_0->Option R)(p0:Int)(p1 p2 p3 p4:List Int):Option R:=
 bif decide (p0<8)then gd (inB p0 8) (gd (decide (toNat p0<8)&&true) (gd (inB p0 8) (gd (decide (toNat p0<8)&&true) (gd (inB p0 8) (gd (decide (toNat p0<8)&&true) (K (wrap i64 (p0+1)) p1 (List.set p2 (toNat p0) (wrap u32 (getD p2 (toNat p0) 0+getD p4 (toNat p0) 0))) p3 p4))))))else k (E_35_67_3_0.e0 p1 p2 p3)
noncomputable def Sp.L_35_67_3_0:Nat->Int->List Int->List Int->List Int->List Int->Option E_35_67_3_0
 |0,_,_,_,_,_=>none
 |m+1,p0,p1,p2,p3,p4=>S_35_67_3_0 (L_35_67_3_0 m) some p0 p1 p2 p3 p4
noncomputable def l_35_67_3_0(m:Nat)(a:T_35_67_3_0.E):Option E_35_67_3_0:=L_35_67_3_0 m a.1 a.2.1 a.2.2.1 a.2.2.2.1 a.2.2.2.2.1
noncomputable def O_35_67_3_0{R:Type}:Orc R:=orL T_35_67_3_0 (l_35_67_3_0 FU) Y_35_67_3_0
theorem OK_35_67_3_0{R:Type}:okF (R:=R) sm_35 0 (nf 67 3) O_35_67_3_0:=lp0 T_35_67_3_0 l_35_67_3_0 (fun R K k a=>S_35_67_3_0 (fun p0 p1 p2 p3 p4=>K (p0,p1,p2,p3,p4,())) k a.1 a.2.1 a.2.2.1 a.2.2.2.1 a.2.2.2.2.1) Y_35_67_3_0 (fun _ _ _=>by kernel_rfl) (fun _ _ _=>by
 unfold S_35_67_3_0
 repeat' first|apply gdN|apply condN|rfl) (ok0 _)
noncomputable def T_35_67_3_1:PS:=⟨176,[(0,.kc (.ptr 1 [])),(13,.kc (.ptr 4 [])),(161,.hv (.int .i64))],[.mem (.hv (.arr 32 (.int .u8))),.mem (.hv (.arr 8 (.int .u32))),.mem (.hv (.arr 64 (.int .u32))),.mem (.hv (.arr 128 (.int .u8))),.mem (.hv (.arr 8 (.int .u32)))],4⟩
inductive Sp.E_35_67_3_1 where
 |e0 (p1 p2 p3 p4:List Int)
noncomputable def Sp.B_35_67_3_1{R:Type}(r:Option E_35_67_3_1)(k0:List Int->List Int->List Int->List Int->Option R):Option R:=match r with
 |none=>none
 |some (.e0 p1 p2 p3 p4)=>k0 p1 p2 p3 p4
theorem Bn_35_67_3_1{A R:Type}{r:Option E_35_67_3_1}{f:A->Option R}{k0:List Int->List Int->List Int->List Int->Option A}{l0:List Int->List Int->List Int->List Int->Option R}(h0:∀p1 p2 p3 p4,(k0 p1 p2 p3 p4).bind f=l0 p1 p2 p3 p4):(B_35_67_3_1 r k0).bind f=B_35_67_3_1 r l0:=by
 cases r with
 |none=>rfl
 |some e=>cases e<;>first|apply h0
noncomputable def Y_35_67_3_1{R:Type}(k:Ex->St->Option R):E_35_67_3_1->Option R
 | .e0 p1 p2 p3 p4=>k (Ex.exit 6) (sx 176 [] [Blk.mem (CV.pure (Ty.arr 32 (Ty.int u8)) p1),Blk.mem (CV.pure (Ty.arr 8 (Ty.int u32)) p2),Blk.mem (CV.pure (Ty.arr 64 (Ty.int u32)) p3),Blk.mem (CV.pure (Ty.arr 128 (Ty.int u8)) p4)] 4)
noncomputable def Sp.S_35_67_3_1{R:Type}(K:Int->List Int->List Int->List Int->List Int->List Int->Option R)(k:E_35_67_3_1->Option R)(p0:Int)(p1 p2 p3 p4 p5:List Int):Option R:=
 bif decide (p0<8)then gd (inB p0 8) (gd (decide (toNat p0<8)&&true) (gd (inB p0 8) (gd (decide (toNat p0<8)&&true) (gd (inB p0 8) (gd (decide (toNat p0<8)&&true) (K (wrap i64 (p0+1)) p1 (List.set p2 (toNat p0) (wrap u32 (getD p2 (toNat p0) 0+getD p5 (toNat p0) 0))) p3 p4 p5))))))else k (E_35_67_3_1.e0 p1 p2 p3 p4)
noncomputable def Sp.L_35_67_3_1:Nat->Int->List Int->List Int->List Int->List Int->List Int->Option E_35_67_3_1
 |0,_,_,_,_,_,_=>none
 |m+1,p0,p1,p2,p3,p4,p5=>S_35_67_3_1 (L_35_67_3_1 m) some p0 p1 p2 p3 p4 p5
noncomputable def l_35_67_3_1(m:Nat)(a:T_35_67_3_1.E):Option E_35_67_3_1:=L_35_67_3_1 m a.1 a.2.1 a.2.2.1 a.2.2.2.1 a.2.2.2.2.1 a.2.2.2.2.2.1
noncomputable def O_35_67_3_1{R:Type}:Orc R:=orL T_35_67_3_1 (l_35_67_3_1 FU) Y_35_67_3_1 O_35_67_3_0
theorem OK_35_67_3_1{R:Type}:okF (R:=R) sm_35 0 (nf 67 3) O_35_67_3_1:=lp0 T_35_67_3_1 l_35_67_3_1 (fun R K k a=>S_35_67_3_1 (fun p0 p1 p2 p3 p4 p5=>K (p0,p1,p2,p3,p4,p5,())) k a.1 a.2.1 a.2.2.1 a.2.2.2.1 a.2.2.2.2.1 a.2.2.2.2.2.1) Y_35_67_3_1 (fun _ _ _=>by kernel_rfl) (fun _ _ _=>by
 unfold S_35_67_3_1
 repeat' first|apply gdN|apply condN|rfl) OK_35_67_3_0
noncomputable def g_35_67{R:Type}:List CV->List Blk->(CV->List Blk->Option R)->Option R:=evFnL sm_35 FU (ovr noO (evFn sm_35 fns FU 0)) (mkT (fB fns 67) [O_35_67_0_1,O_35_67_1_1,O_35_67_2_1,O_35_67_3_1]) (fO fns 67)
theorem g_35_67_ok{R:Type}(args:List CV)(hp:List Blk)(k:CV->List Blk->Option R)(r:R)(h:g_35_67 args hp k=some r):evFn sm_35 fns FU 1 67 args hp k=some r:=runG noO_ok (os:=[O_35_67_0_1,O_35_67_1_1,O_35_67_2_1,O_35_67_3_1]) ⟨OK_35_67_0_1,OK_35_67_1_1,OK_35_67_2_1,OK_35_67_3_1,trivial⟩ h
noncomputable def ov_35_35{R:Type}:Nat->Option (List CV->List Blk->(CV->List Blk->Option R)->Option R):=fun f'=>bif Nat.beq f' 67 then some g_35_67 else none
theorem ov_35_35_ok{R:Type}:OvrOK (R:=R) ov_35_35 (evFn sm_35 fns FU 1):=by
 intro f' g h args hp k r hg
 dsimp only[ov_35_35]at h
 by_cases h67:f'=67
 ·subst h67
  injection h with h
  subst h
  exact evFn_le 0 (g_35_67_ok _ _ _ _ hg)
 rw[nbeq_ne h67,cond_false]at h
 cases h
noncomputable def T_35_0:PS:=⟨72,[(0,.hv (.slice (.int .u8))),(2,.kc (.ptr 0 [])),(3,.kc (.ptr 1 [])),(4,.kc (.ptr 2 [])),(5,.hv (.slice (.int .u8)))],[.mem (.hv (.arr 32 (.int .u8))),.mem (.hv (.arr 8 (.int .u32))),.mem (.hv (.arr 64 (.int .u32)))],0⟩
inductive Sp.E_35_0 where
 |e0 (p0 p1 p2 p3 p4:List Int)
noncomputable def Sp.B_35_0{R:Type}(r:Option E_35_0)(k0:List Int->List Int->List Int->List Int->List Int->Option R):Option R:=match r with
 |none=>none
 |some (.e0 p0 p1 p2 p3 p4)=>k0 p0 p1 p2 p3 p4
noncomputable def Y_35_0{R:Type}(k:Ex->St->Option R):E_35_0->Option R
 | .e0 p0 p1 p2 p3 p4=>k (Ex.exit 0) (sx 72 [(0,CV.pure (Ty.slice (Ty.int u8)) p0),(2,CV.ptr 0 []),(3,CV.ptr 1 []),(4,CV.ptr 2 []),(5,CV.pure (Ty.slice (Ty.int u8)) p1)] [Blk.mem (CV.pure (Ty.arr 32 (Ty.int u8)) p2),Blk.mem (CV.pure (Ty.arr 8 (Ty.int u32)) p3),Blk.mem (CV.pure (Ty.arr 64 (Ty.int u32)) p4)])
noncomputable def Sp.S_35_0{R:Type}(K:List Int->List Int->List Int->List Int->List Int->Option R)(k:E_35_0->Option R)(p0 p1 p2 p3 p4:List Int):Option R:=
 bif decide ((↑(length p1):Int)>=64)then gd (sl3 0 64 (↑(length p1):Int)) (B_35_67_0_0 (L_35_67_0_0 4611686018427387904 (take 64 (drop 0 p1)) 0 p2 p3 p4 (replicate 64 (0:Int))) fun y19 y20 y21 y22=>B_35_67_1_0 (L_35_67_1_0 4611686018427387904 16 y19 y20 y21 y22) fun y23 y24 y25 y26=>B_35_67_2_0 (L_35_67_2_0 4611686018427387904 0 y23 y24 y25 y26 y24) fun y27 y28 y29 y30=>B_35_67_3_0 (L_35_67_3_0 4611686018427387904 0 y27 y28 y29 y30) fun y31 y32 y33=>gd (sl3 64 (↑(length p1):Int) (↑(length p1):Int)) (K p0 (drop 64 p1) y31 y32 y33))else k (E_35_0.e0 p0 p1 p2 p3 p4)
noncomputable def Sp.L_35_0:Nat->List Int->List Int->List Int->List Int->List Int->Option E_35_0
 |0,_,_,_,_,_=>none
 |m+1,p0,p1,p2,p3,p4=>S_35_0 (L_35_0 m) some p0 p1 p2 p3 p4
noncomputable def l_35_0(m:Nat)(a:T_35_0.E):Option E_35_0:=L_35_0 m a.1 a.2.1 a.2.2.1 a.2.2.2.1 a.2.2.2.2.1
noncomputable def O_35_0{R:Type}:Orc R:=orL T_35_0 (l_35_0 FU) Y_35_0
theorem OK_35_0{R:Type}:okF (R:=R) sm_35 1 (nf 35 0) O_35_0:=lp ov_35_35_ok (os:=[]) trivial T_35_0 l_35_0 (fun R K k a=>S_35_0 (fun p0 p1 p2 p3 p4=>K (p0,p1,p2,p3,p4,())) k a.1 a.2.1 a.2.2.1 a.2.2.2.1 a.2.2.2.2.1) Y_35_0 (fun _=>rfl) (fun _ _=>rfl) (fun k K a=>by kernel_rfl) (fun Y K a=>by
 unfold S_35_0
 repeat' first|apply gdN|apply condN|(apply Bn_35_67_0_0<;>intros)|(apply Bn_35_67_1_0<;>intros)|(apply Bn_35_67_2_0<;>intros)|(apply Bn_35_67_3_0<;>intros)|rfl) (ok0 _)
noncomputable def T_35_2:PS:=⟨72,[(2,.kc (.ptr 0 [])),(3,.kc (.ptr 1 [])),(4,.kc (.ptr 2 [])),(6,.kc (.ptr 3 [])),(8,.hv (.int .i64)),(10,.hv (.int .i64))],[.mem (.hv (.arr 32 (.int .u8))),.mem (.hv (.arr 8 (.int .u32))),.mem (.hv (.arr 64 (.int .u32))),.mem (.hv (.arr 128 (.int .u8)))],0⟩
inductive Sp.E_35_2 where
 |e0 (p2 p3:List Int)
noncomputable def Sp.B_35_2{R:Type}(r:Option E_35_2)(k0:List Int->List Int->Option R):Option R:=match r with
 |none=>none
 |some (.e0 p2 p3)=>k0 p2 p3
theorem Bn_35_2{A R:Type}{r:Option E_35_2}{f:A->Option R}{k0:List Int->List Int->Option A}{l0:List Int->List Int->Option R}(h0:∀p2 p3,(k0 p2 p3).bind f=l0 p2 p3):(B_35_2 r k0).bind f=B_35_2 r l0:=by
 cases r with
 |none=>rfl
 |some e=>cases e<;>first|apply h0
noncomputable def Y_35_2{R:Type}(k:Ex->St->Option R):E_35_2->Option R
 | .e0 p2 p3=>k (Ex.exit 2) (sx 72 [(2,CV.ptr 0 []),(3,CV.ptr 1 [])] [Blk.mem (CV.pure (Ty.arr 32 (Ty.int u8)) p2),Blk.mem (CV.pure (Ty.arr 8 (Ty.int u32)) p3)])
noncomputable def Sp.S_35_2{R:Type}(K:Int->Int->List Int->List Int->List Int->List Int->Option R)(k:E_35_2->Option R)(p0 p1:Int)(p2 p3 p4 p5:List Int):Option R:=
 bif decide (p1<p0)then gd (sl3 p1 (wrap i64 (p1+64)) 128) (B_35_67_0_1 (L_35_67_0_1 4611686018427387904 (toNat p1) (toNat (wrap i64 (p1+64))-toNat p1) (128-toNat p1) 0 p2 p3 p4 p5 (replicate 64 (0:Int))) fun y19 y20 y21 y22 y23=>B_35_67_1_1 (L_35_67_1_1 4611686018427387904 16 y19 y20 y21 y22 y23) fun y24 y25 y26 y27 y28=>B_35_67_2_1 (L_35_67_2_1 4611686018427387904 0 y24 y25 y26 y27 y28 y25) fun y29 y30 y31 y32 y33=>B_35_67_3_1 (L_35_67_3_1 4611686018427387904 0 y29 y30 y31 y32 y33) fun y34 y35 y36 y37=>K p0 (wrap i64 (p1+64)) y34 y35 y36 y37)else k (E_35_2.e0 p2 p3)
noncomputable def Sp.L_35_2:Nat->Int->Int->List Int->List Int->List Int->List Int->Option E_35_2
 |0,_,_,_,_,_,_=>none
 |m+1,p0,p1,p2,p3,p4,p5=>S_35_2 (L_35_2 m) some p0 p1 p2 p3 p4 p5
noncomputable def l_35_2(m:Nat)(a:T_35_2.E):Option E_35_2:=L_35_2 m a.1 a.2.1 a.2.2.1 a.2.2.2.1 a.2.2.2.2.1 a.2.2.2.2.2.1
noncomputable def O_35_2{R:Type}:Orc R:=orL T_35_2 (l_35_2 FU) Y_35_2
theorem OK_35_2{R:Type}:okF (R:=R) sm_35 1 (ni (nf 35 1) 0) O_35_2:=lp ov_35_35_ok (os:=[]) trivial T_35_2 l_35_2 (fun R K k a=>S_35_2 (fun p0 p1 p2 p3 p4 p5=>K (p0,p1,p2,p3,p4,p5,())) k a.1 a.2.1 a.2.2.1 a.2.2.2.1 a.2.2.2.2.1 a.2.2.2.2.2.1) Y_35_2 (fun _=>rfl) (fun _ _=>rfl) (fun k K a=>by kernel_rfl) (fun Y K a=>by
 unfold S_35_2
 repeat' first|apply gdN|apply condN|(apply Bn_35_67_0_1<;>intros)|(apply Bn_35_67_1_1<;>intros)|(apply Bn_35_67_2_1<;>intros)|(apply Bn_35_67_3_1<;>intros)|rfl) (ok0 _)
noncomputable def T_35_3:PS:=⟨72,[(2,.kc (.ptr 0 [])),(11,.kc (.ptr 1 [])),(60,.hv (.arr 8 (.int .u32))),(61,.hv (.int .i64))],[.mem (.hv (.arr 32 (.int .u8))),.mem (.hv (.arr 32 (.int .u8)))],0⟩
inductive Sp.E_35_3 where
 |e0 (p2 p3:List Int)
noncomputable def Sp.B_35_3{R:Type}(r:Option E_35_3)(k0:List Int->List Int->Option R):Option R:=match r with
 |none=>none
 |some (.e0 p2 p3)=>k0 p2 p3
theorem Bn_35_3{A R:Type}{r:Option E_35_3}{f:A->Option R}{k0:List Int->List Int->Option A}{l0:List Int->List Int->Option R}(h0:∀p2 p3,(k0 p2 p3).bind f=l0 p2 p3):(B_35_3 r k0).bind f=B_35_3 r l0:=by
 cases r with
 |none=>rfl
 |some e=>cases e<;>first|apply h0
noncomputable def Y_35_3{R:Type}(k:Ex->St->Option R):E_35_3->Option R
 | .e0 p2 p3=>k (Ex.exit 4) (sx 72 [(2,CV.ptr 0 []),(11,CV.ptr 1 [])] [Blk.mem (CV.pure (Ty.arr 32 (Ty.int u8)) p2),Blk.mem (CV.pure (Ty.arr 32 (Ty.int u8)) p3)])
noncomputable def Sp.S_35_3{R:Type}(K:List Int->Int->List Int->List Int->Option R)(k:E_35_3->Option R)(p0:List Int)(p1:Int)(p2 p3:List Int):Option R:=
 bif decide (p1<8)then gd (inB p1 8) (gd (sl3 (wrap i64 (4*p1)) 32 32) (gd (inB 0 (32-toNat (wrap i64 (4*p1)))) (gd (decide (toNat (wrap i64 (4*p1))+(0:Nat)<(32:Nat))&&true) (gd (inB 1 (32-toNat (wrap i64 (4*p1)))) (gd (decide (toNat (wrap i64 (4*p1))+(1:Nat)<(32:Nat))&&true) (gd (inB 2 (32-toNat (wrap i64 (4*p1)))) (gd (decide (toNat (wrap i64 (4*p1))+(2:Nat)<(32:Nat))&&true) (gd (inB 3 (32-toNat (wrap i64 (4*p1)))) (gd (decide (toNat (wrap i64 (4*p1))+(3:Nat)<(32:Nat))&&true) (K p0 (wrap i64 (p1+1)) p2 (List.set (List.set (List.set (List.set p3 (toNat (wrap i64 (4*p1))+0) (wrap u8 (Int.fdiv (getD p0 (toNat p1) 0) 16777216))) (toNat (wrap i64 (4*p1))+1) (wrap u8 (Int.fdiv (getD p0 (toNat p1) 0) 65536))) (toNat (wrap i64 (4*p1))+2) (wrap u8 (Int.fdiv (getD p0 (toNat p1) 0) 256))) (toNat (wrap i64 (4*p1))+3) (wrap u8 (getD p0 (toNat p1) 0)))))))))))))else k (E_35_3.e0 p2 p3)
noncomputable def Sp.L_35_3:Nat->List Int->Int->List Int->List Int->Option E_35_3
 |0,_,_,_,_=>none
 |m+1,p0,p1,p2,p3=>S_35_3 (L_35_3 m) some p0 p1 p2 p3
noncomputable def l_35_3(m:Nat)(a:T_35_3.E):Option E_35_3:=L_35_3 m a.1 a.2.1 a.2.2.1 a.2.2.2.1
noncomputable def O_35_3{R:Type}:Orc R:=orL T_35_3 (l_35_3 FU) Y_35_3
theorem OK_35_3{R:Type}:okF (R:=R) sm_35 1 (ni (nf 35 1) 1) O_35_3:=lp ov_35_35_ok (os:=[]) trivial T_35_3 l_35_3 (fun R K k a=>S_35_3 (fun p0 p1 p2 p3=>K (p0,p1,p2,p3,())) k a.1 a.2.1 a.2.2.1 a.2.2.2.1) Y_35_3 (fun _=>rfl) (fun _ _=>rfl) (fun k K a=>by kernel_rfl) (fun Y K a=>by
 unfold S_35_3
 repeat' first|apply gdN|apply condN|rfl) (ok0 _)
noncomputable def T_35_1:PS:=⟨72,[(0,.hv (.slice (.int .u8))),(2,.kc (.ptr 0 [])),(3,.kc (.ptr 1 [])),(4,.kc (.ptr 2 [])),(6,.kc (.ptr 3 [])),(8,.hv (.int .i64))],[.mem (.hv (.arr 32 (.int .u8))),.mem (.hv (.arr 8 (.int .u32))),.mem (.hv (.arr 64 (.int .u32))),.mem (.hv (.arr 128 (.int .u8)))],0⟩
inductive Sp.E_35_1 where
 |e0 (y7:List Int)
noncomputable def Sp.B_35_1{R:Type}(r:Option E_35_1)(k0:List Int->Option R):Option R:=match r with
 |none=>none
 |some (.e0 y7)=>k0 y7
noncomputable def Y_35_1{R:Type}(k:Ex->St->Option R):E_35_1->Option R
 | .e0 y7=>k Ex.ret (sx 72 [(2,CV.ptr 0 [])] [Blk.mem (CV.pure (Ty.arr 32 (Ty.int u8)) y7)])
noncomputable def Sp.S_35_1{R:Type}(k:E_35_1->Option R)(p0:List Int)(p1:Int)(p2 p3 p4 p5:List Int):Option R:=
 gd (sl3 (wrap i64 (p1-8)) 128 128) (gd (inB 0 (128-toNat (wrap i64 (p1-8)))) (gd (decide (toNat (wrap i64 (p1-8))+(0:Nat)<(128:Nat))&&true) (gd (inB 1 (128-toNat (wrap i64 (p1-8)))) (gd (decide (toNat (wrap i64 (p1-8))+(1:Nat)<(128:Nat))&&true) (gd (inB 2 (128-toNat (wrap i64 (p1-8)))) (gd (decide (toNat (wrap i64 (p1-8))+(2:Nat)<(128:Nat))&&true) (gd (inB 3 (128-toNat (wrap i64 (p1-8)))) (gd (decide (toNat (wrap i64 (p1-8))+(3:Nat)<(128:Nat))&&true) (gd (sl3 (wrap i64 (p1-4)) 128 128) (gd (inB 0 (128-toNat (wrap i64 (p1-4)))) (gd (decide (toNat (wrap i64 (p1-4))+(0:Nat)<(128:Nat))&&true) (gd (inB 1 (128-toNat (wrap i64 (p1-4)))) (gd (decide (toNat (wrap i64 (p1-4))+(1:Nat)<(128:Nat))&&true) (gd (inB 2 (128-toNat (wrap i64 (p1-4)))) (gd (decide (toNat (wrap i64 (p1-4))+(2:Nat)<(128:Nat))&&true) (gd (inB 3 (128-toNat (wrap i64 (p1-4)))) (gd (decide (toNat (wrap i64 (p1-4))+(3:Nat)<(128:Nat))&&true) (B_35_2 (L_35_2 4611686018427387904 p1 0 p2 p3 p4 (List.set (List.set (List.set (List.set (List.set (List.set (List.set (List.set p5 (toNat (wrap i64 (p1-8))+0) (wrap u8 (Int.fdiv (wrap u32 (Int.fdiv (wrap u64 (wrap u64 (↑(length p0):Int)*8)) 4294967296)) 16777216))) (toNat (wrap i64 (p1-8))+1) (wrap u8 (Int.fdiv (wrap u32 (Int.fdiv (wrap u64 (wrap u64 (↑(length p0):Int)*8)) 4294967296)) 65536))) (toNat (wrap i64 (p1-8))+2) (wrap u8 (Int.fdiv (wrap u32 (Int.fdiv (wrap u64 (wrap u64 (↑(length p0):Int)*8)) 4294967296)) 256))) (toNat (wrap i64 (p1-8))+3) (wrap u8 (wrap u32 (Int.fdiv (wrap u64 (wrap u64 (↑(length p0):Int)*8)) 4294967296)))) (toNat (wrap i64 (p1-4))+0) (wrap u8 (Int.fdiv (wrap u32 (wrap u64 (wrap u64 (↑(length p0):Int)*8))) 16777216))) (toNat (wrap i64 (p1-4))+1) (wrap u8 (Int.fdiv (wrap u32 (wrap u64 (wrap u64 (↑(length p0):Int)*8))) 65536))) (toNat (wrap i64 (p1-4))+2) (wrap u8 (Int.fdiv (wrap u32 (wrap u64 (wrap u64 (↑(length p0):Int)*8))) 256))) (toNat (wrap i64 (p1-4))+3) (wrap u8 (wrap u32 (wrap u64 (wrap u64 (↑(length p0):Int)*8)))))) fun y4 y5=>B_35_3 (L_35_3 4611686018427387904 y5 0 y4 (replicate 32 (0:Int))) fun y6 y7=>k (E_35_1.e0 y7)))))))))))))))))))
noncomputable def Sp.J_35_1(p0:List Int)(p1:Int)(p2 p3 p4 p5:List Int):Option E_35_1:=S_35_1 some p0 p1 p2 p3 p4 p5
noncomputable def O_35_1{R:Type}:Orc R:=orL T_35_1 (fun a=>J_35_1 a.1 a.2.1 a.2.2.1 a.2.2.2.1 a.2.2.2.2.1 a.2.2.2.2.2.1) Y_35_1
theorem OK_35_1{R:Type}:okF (R:=R) sm_35 1 (nf 35 1) O_35_1:=jp ov_35_35_ok (os:=[O_35_2,O_35_3]) ⟨OK_35_2,OK_35_3,trivial⟩ T_35_1 (fun R k a=>S_35_1 k a.1 a.2.1 a.2.2.1 a.2.2.2.1 a.2.2.2.2.1 a.2.2.2.2.2.1) Y_35_1 (fun k a=>by kernel_rfl) (fun Y a=>by
 unfold S_35_1
 repeat' first|apply gdN|apply condN|(apply Bn_35_2<;>intros)|(apply Bn_35_3<;>intros)|rfl) (ok0 _)
noncomputable def F_35(a0:(List Int)):Option ((List Int)×Unit) :=
 gd p_66 (B_35_0 (L_35_0 4611686018427387904 a0 a0 (replicate 32 (0:Int)) [1779033703,3144134277,1013904242,2773480762,1359893119,2600822924,528734635,1541459225] (v_66.1)) fun y7 y8 y9 y10 y11=>gd (inB (↑(Nat.min (length y8) 128):Int) 128) (gd (decide (toNat (↑(Nat.min (length y8) 128):Int)<128)&&true) (bif decide (wrap i64 ((↑(Nat.min (length y8) 128):Int)+9)>64)then B_35_1 (J_35_1 y7 128 y9 y10 y11 (List.set (over (replicate 128 (0:Int)) 0 (take 128 y8)) (toNat (↑(Nat.min (length y8) 128):Int)) 128)) fun y12=>some (y12,PUnit.unit)else B_35_1 (J_35_1 y7 64 y9 y10 y11 (List.set (over (replicate 128 (0:Int)) 0 (take 128 y8)) (toNat (↑(Nat.min (length y8) 128):Int)) 128)) fun y13=>some (y13,PUnit.unit))))
noncomputable def Sp.p_35(a0:(List Int)):Bool:=(F_35 a0).isSome
noncomputable def Sp.v_35(a0:(List Int)):(List Int)×Unit:=(F_35 a0).getD (dfH R_35)
noncomputable def s_35:Summ:=shN A_35 R_35 (fun x=>p_35 x.1) (fun x=>v_35 x.1)
theorem pv_35(a0:(List Int)){y:(List Int)×Unit}(h:F_35 a0=some y):p_35 a0=true/\v_35 a0=y:=pvG h
theorem run_35(x:HDen A_35)(y:HDen R_35)(h:F_35 x.1=some y):rnF sm_35 2 35 A_35 R_35 x y:=runG ov_35_35_ok (os:=[O_35_0,O_35_1]) ⟨OK_35_0,OK_35_1,trivial⟩ (Eq.trans (by kernel_rfl) h)
end
noncomputable section
abbrev A_43:List Ty:=[(.slice (.slice (.int .u32)))]
abbrev R_43:List Ty:=[(.slice (.int .u32))]
noncomputable def sm_43:Nat->Option Summ:=smL [(77,s_77)]
noncomputable def T_43_0:PS:=⟨36,[(0,.hv (.slice (.slice (.int .u32)))),(3,.hv (.int .i64)),(9,.hv (.slice (.slice (.int .u32)))),(10,.hv (.int .i64)),(11,.hv (.int .i64))],[],0⟩
inductive Sp.E_43_0 where
 |e0 (p0:List (List Int)) (p1:Int)
noncomputable def Sp.B_43_0{R:Type}(r:Option E_43_0)(k0:List (List Int)->Int->Option R):Option R:=match r with
 |none=>none
 |some (.e0 p0 p1)=>k0 p0 p1
noncomputable def Y_43_0{R:Type}(k:Ex->St->Option R):E_43_0->Option R
 | .e0 p0 p1=>k (Ex.exit 0) (sx 36 [(0,CV.pure (Ty.slice (Ty.slice (Ty.int u32))) p0),(3,CV.int i64 p1)] [])
noncomputable def Sp.S_43_0{R:Type}(K:List (List Int)->Int->List (List Int)->Int->Int->Option R)(k:E_43_0->Option R)(p0:List (List Int))(p1:Int)(p2:List (List Int))(p3 p4:Int):Option R:=
 bif decide (p4<p3)then gd (inB p4 (length p2)) (bif decide (wrap i64 (p1+(↑(length (getD p2 (toNat p4) (Ty.dflt (Ty.slice (Ty.int u32))))):Int))<0)then none else K p0 (wrap i64 (p1+(↑(length (getD p2 (toNat p4) (Ty.dflt (Ty.slice (Ty.int u32))))):Int))) p2 p3 (wrap i64 (p4+1)))else k (E_43_0.e0 p0 p1)
noncomputable def Sp.L_43_0:Nat->List (List Int)->Int->List (List Int)->Int->Int->Option E_43_0
 |0,_,_,_,_,_=>none
 |m+1,p0,p1,p2,p3,p4=>S_43_0 (L_43_0 m) some p0 p1 p2 p3 p4
noncomputable def l_43_0(m:Nat)(a:T_43_0.E):Option E_43_0:=L_43_0 m a.1 a.2.1 a.2.2.1 a.2.2.2.1 a.2.2.2.2.1
noncomputable def O_43_0{R:Type}:Orc R:=orL T_43_0 (l_43_0 FU) Y_43_0
theorem OK_43_0{R:Type}:okF (R:=R) sm_43 0 (nf 43 0) O_43_0:=lp0 T_43_0 l_43_0 (fun R K k a=>S_43_0 (fun p0 p1 p2 p3 p4=>K (p0,p1,p2,p3,p4,())) k a.1 a.2.1 a.2.2.1 a.2.2.2.1 a.2.2.2.2.1) Y_43_0 (fun _ _ _=>by kernel_rfl) (fun _ _ _=>by
 unfold S_43_0
 repeat' first|apply gdN|apply condN|rfl) (ok0 _)
noncomputable def T_43_1:PS:=⟨36,[(6,.kc (.whole 0)),(25,.hv (.slice (.slice (.int .u32)))),(26,.hv (.int .i64)),(27,.hv (.int .i64))],[.vec 42 (.int .u32)],0⟩
inductive Sp.E_43_1 where
 |e0 (p3:List Int)
noncomputable def Sp.B_43_1{R:Type}(r:Option E_43_1)(k0:List Int->Option R):Option R:=match r with
 |none=>none
 |some (.e0 p3)=>k0 p3
noncomputable def Y_43_1{R:Type}(k:Ex->St->Option R):E_43_1->Option R
 | .e0 p3=>k (Ex.exit 2) (sx 36 [(6,CV.whole 0)] [Blk.vec 42 (Ty.int u32) p3])
noncomputable def Sp.S_43_1{R:Type}(K:List (List Int)->Int->Int->List Int->Option R)(k:E_43_1->Option R)(p0:List (List Int))(p1 p2:Int)(p3:List Int):Option R:=
 bif decide (p2<p1)then gd (inB p2 (length p0)) (gd (room (length p3+length (getD p0 (toNat p2) (Ty.dflt (Ty.slice (Ty.int u32))))) 4) (K p0 p1 (wrap i64 (p2+1)) (p3++getD p0 (toNat p2) (Ty.dflt (Ty.slice (Ty.int u32))))))else k (E_43_1.e0 p3)
noncomputable def Sp.L_43_1:Nat->List (List Int)->Int->Int->List Int->Option E_43_1
 |0,_,_,_,_=>none
 |m+1,p0,p1,p2,p3=>S_43_1 (L_43_1 m) some p0 p1 p2 p3
noncomputable def l_43_1(m:Nat)(a:T_43_1.E):Option E_43_1:=L_43_1 m a.1 a.2.1 a.2.2.1 a.2.2.2.1
noncomputable def O_43_1{R:Type}:Orc R:=orL T_43_1 (l_43_1 FU) Y_43_1
theorem OK_43_1{R:Type}:okF (R:=R) sm_43 0 (nf 43 1) O_43_1:=lp0 T_43_1 l_43_1 (fun R K k a=>S_43_1 (fun p0 p1 p2 p3=>K (p0,p1,p2,p3,())) k a.1 a.2.1 a.2.2.1 a.2.2.2.1) Y_43_1 (fun _ _ _=>by kernel_rfl) (fun _ _ _=>by
 unfold S_43_1
 repeat' first|apply gdN|apply condN|rfl) (ok0 _)
noncomputable def F_43(a0:(List (List Int))):Option ((List Int)×Unit) :=
 B_43_0 (L_43_0 4611686018427387904 a0 0 a0 (↑(length a0):Int) 0) fun y3 y4=>gd (decide (0<=y4)&&room (toNat y4) 4) (B_43_1 (L_43_1 4611686018427387904 y3 (↑(length y3):Int) 0 []) fun y5=>some (y5,PUnit.unit))
noncomputable def Sp.p_43(a0:(List (List Int))):Bool:=(F_43 a0).isSome
noncomputable def Sp.v_43(a0:(List (List Int))):(List Int)×Unit:=(F_43 a0).getD (dfH R_43)
noncomputable def s_43:Summ:=shS A_43 R_43 (fun x=>p_43 x.1) (fun x=>v_43 x.1)
theorem pv_43(a0:(List (List Int))){y:(List Int)×Unit}(h:F_43 a0=some y):p_43 a0=true/\v_43 a0=y:=pvG h
theorem run_43(x:HDen A_43)(y:HDen R_43)(h:F_43 x.1=some y):rnF sm_43 1 43 A_43 R_43 x y:=runG noO_ok (os:=[O_43_0,O_43_1]) ⟨OK_43_0,OK_43_1,trivial⟩ (Eq.trans (by kernel_rfl) h)
end
noncomputable section
abbrev A_69:List Ty:=[(.arr 32 (.int .u8))]
abbrev R_69:List Ty:=[(.slice (.int .i64))]
noncomputable def sm_69:Nat->Option Summ:=smL []
noncomputable def T_69_1:PS:=⟨43,[(3,.kc (.whole 0)),(4,.hv (.int .i64)),(9,.hv (.arr 32 (.int .u8))),(10,.hv (.int .i64)),(19,.hv (.arr 2 (.int .i64))),(20,.hv (.int .i64))],[.vec 3 (.int .i64)],0⟩
inductive Sp.E_69_1 where
 |e0 (p0:Int) (p1:List Int) (p2:Int) (p5:List Int)
noncomputable def Sp.B_69_1{R:Type}(r:Option E_69_1)(k0:Int->List Int->Int->List Int->Option R):Option R:=match r with
 |none=>none
 |some (.e0 p0 p1 p2 p5)=>k0 p0 p1 p2 p5
theorem Bn_69_1{A R:Type}{r:Option E_69_1}{f:A->Option R}{k0:Int->List Int->Int->List Int->Option A}{l0:Int->List Int->Int->List Int->Option R}(h0:∀p0 p1 p2 p5,(k0 p0 p1 p2 p5).bind f=l0 p0 p1 p2 p5):(B_69_1 r k0).bind f=B_69_1 r l0:=by
 cases r with
 |none=>rfl
 |some e=>cases e<;>first|apply h0
noncomputable def Y_69_1{R:Type}(k:Ex->St->Option R):E_69_1->Option R
 | .e0 p0 p1 p2 p5=>k (Ex.exit 2) (sx 43 [(3,CV.whole 0),(4,CV.int i64 p0),(9,CV.pure (Ty.arr 32 (Ty.int u8)) p1),(10,CV.int i64 p2)] [Blk.vec 3 (Ty.int i64) p5])
noncomputable def Sp.S_69_1{R:Type}(K:Int->List Int->Int->List Int->Int->List Int->Option R)(k:E_69_1->Option R)(p0:Int)(p1:List Int)(p2:Int)(p3:List Int)(p4:Int)(p5:List Int):Option R:=
 bif decide (p4<2)then gd (inB p4 2) (gd (room (length p5+1) 8) (K (wrap i64 (p0+wrap i64 (15-getD p3 (toNat p4) 0))) p1 p2 p3 (wrap i64 (p4+1)) (p5++[getD p3 (toNat p4) 0])))else k (E_69_1.e0 p0 p1 p2 p5)
noncomputable def Sp.L_69_1:Nat->Int->List Int->Int->List Int->Int->List Int->Option E_69_1
 |0,_,_,_,_,_,_=>none
 |m+1,p0,p1,p2,p3,p4,p5=>S_69_1 (L_69_1 m) some p0 p1 p2 p3 p4 p5
noncomputable def l_69_1(m:Nat)(a:T_69_1.E):Option E_69_1:=L_69_1 m a.1 a.2.1 a.2.2.1 a.2.2.2.1 a.2.2.2.2.1 a.2.2.2.2.2.1
noncomputable def O_69_1{R:Type}:Orc R:=orL T_69_1 (l_69_1 FU) Y_69_1
theorem OK_69_1{R:Type}:okF (R:=R) sm_69 0 (ni (nf 69 0) 0) O_69_1:=lp0 T_69_1 l_69_1 (fun R K k a=>S_69_1 (fun p0 p1 p2 p3 p4 p5=>K (p0,p1,p2,p3,p4,p5,())) k a.1 a.2.1 a.2.2.1 a.2.2.2.1 a.2.2.2.2.1 a.2.2.2.2.2.1) Y_69_1 (fun _ _ _=>by kernel_rfl) (fun _ _ _=>by
 unfold S_69_1
 repeat' first|apply gdN|apply condN|rfl) (ok0 _)
noncomputable def T_69_0:PS:=⟨43,[(3,.kc (.whole 0)),(4,.hv (.int .i64)),(9,.hv (.arr 32 (.int .u8))),(10,.hv (.int .i64))],[.vec 3 (.int .i64)],0⟩
inductive Sp.E_69_0 where
 |e0 (p0:Int) (p3:List Int)
noncomputable def Sp.B_69_0{R:Type}(r:Option E_69_0)(k0:Int->List Int->Option R):Option R:=match r with
 |none=>none
 |some (.e0 p0 p3)=>k0 p0 p3
noncomputable def Y_69_0{R:Type}(k:Ex->St->Option R):E_69_0->Option R
 | .e0 p0 p3=>k (Ex.exit 0) (sx 43 [(3,CV.whole 0),(4,CV.int i64 p0)] [Blk.vec 3 (Ty.int i64) p3])
noncomputable def Sp.S_69_0{R:Type}(K:Int->List Int->Int->List Int->Option R)(k:E_69_0->Option R)(p0:Int)(p1:List Int)(p2:Int)(p3:List Int):Option R:=
 bif decide (p2<32)then gd (inB p2 32) (B_69_1 (L_69_1 4611686018427387904 p0 p1 p2 [wrap i64 (Int.fdiv (getD p1 (toNat p2) 0) 16),wrap i64 (Sp.andI u8 (getD p1 (toNat p2) 0) 15)] 0 p3) fun y4 y5 y6 y7=>K y4 y5 (wrap i64 (y6+1)) y7)else k (E_69_0.e0 p0 p3)
noncomputable def Sp.L_69_0:Nat->Int->List Int->Int->List Int->Option E_69_0
 |0,_,_,_,_=>none
 |m+1,p0,p1,p2,p3=>S_69_0 (L_69_0 m) some p0 p1 p2 p3
noncomputable def l_69_0(m:Nat)(a:T_69_0.E):Option E_69_0:=L_69_0 m a.1 a.2.1 a.2.2.1 a.2.2.2.1
noncomputable def O_69_0{R:Type}:Orc R:=orL T_69_0 (l_69_0 FU) Y_69_0
theorem OK_69_0{R:Type}:okF (R:=R) sm_69 0 (nf 69 0) O_69_0:=lp noO_ok (os:=[O_69_1]) ⟨OK_69_1,trivial⟩ T_69_0 l_69_0 (fun R K k a=>S_69_0 (fun p0 p1 p2 p3=>K (p0,p1,p2,p3,())) k a.1 a.2.1 a.2.2.1 a.2.2.2.1) Y_69_0 (fun _=>rfl) (fun _ _=>rfl) (fun k K a=>by kernel_rfl) (fun Y K a=>by
 unfold S_69_0
 repeat' first|apply gdN|apply condN|(apply Bn_69_1<;>intros)|rfl) (ok0 _)
noncomputable def F_69(a0:(List Int)):Option ((List Int)×Unit) :=
 B_69_0 (L_69_0 4611686018427387904 0 a0 0 []) fun y2 y3=>gd (room (length y3+3) 8) (some (y3++[Int.fdiv y2 256,Sp.andI i64 (Int.fdiv y2 16) 15,Sp.andI i64 y2 15],PUnit.unit))
noncomputable def Sp.p_69(a0:(List Int)):Bool:=(F_69 a0).isSome
noncomputable def Sp.v_69(a0:(List Int)):(List Int)×Unit:=(F_69 a0).getD (dfH R_69)
noncomputable def s_69:Summ:=shS A_69 R_69 (fun x=>p_69 x.1) (fun x=>v_69 x.1)
theorem pv_69(a0:(List Int)){y:(List Int)×Unit}(h:F_69 a0=some y):p_69 a0=true/\v_69 a0=y:=pvG h
theorem run_69(x:HDen A_69)(y:HDen R_69)(h:F_69 x.1=some y):rnF sm_69 1 69 A_69 R_69 x y:=runG noO_ok (os:=[O_69_0]) ⟨OK_69_0,trivial⟩ (Eq.trans (by kernel_rfl) h)
end
noncomputable section
abbrev A_70:List Ty:=[(.arr 32 (.int .u8)),(.int .i64),(.int .i64)]
abbrev R_70:List Ty:=[(.arr 32 (.int .u8))]
noncomputable def sm_70:Nat->Option Summ:=smL [(35,s_35)]
noncomputable def T_70_0:PS:=⟨21,[(2,.hv (.int .i64)),(3,.kc (.ptr 0 [])),(6,.kc (.ptr 1 [])),(7,.hv (.int .i64))],[.mem (.hv (.arr 32 (.int .u8))),.mem (.hv (.arr 32 (.int .u8)))],0⟩
inductive Sp.E_70_0 where
 |e0 (p2 p3:List Int)
noncomputable def Sp.B_70_0{R:Type}(r:Option E_70_0)(k0:List Int->List Int->Option R):Option R:=match r with
 |none=>none
 |some (.e0 p2 p3)=>k0 p2 p3
noncomputable def Y_70_0{R:Type}(k:Ex->St->Option R):E_70_0->Option R
 | .e0 p2 p3=>k (Ex.exit 0) (sx 21 [(3,CV.ptr 0 []),(6,CV.ptr 1 [])] [Blk.mem (CV.pure (Ty.arr 32 (Ty.int u8)) p2),Blk.mem (CV.pure (Ty.arr 32 (Ty.int u8)) p3)])
noncomputable def Sp.S_70_0{R:Type}(K:Int->Int->List Int->List Int->Option R)(k:E_70_0->Option R)(p0 p1:Int)(p2 p3:List Int):Option R:=
 bif decide (p1<p0)then gd (room (1+length (take 32 (drop 0 p2))) 1) (gd (p_35 ([wrap u8 p1]++take 32 (drop 0 p2))) (K p0 (wrap i64 (p1+1)) ((v_35 ([wrap u8 p1]++take 32 (drop 0 p2))).1) p3))else k (E_70_0.e0 p2 p3)
noncomputable def Sp.L_70_0:Nat->Int->Int->List Int->List Int->Option E_70_0
 |0,_,_,_,_=>none
 |m+1,p0,p1,p2,p3=>S_70_0 (L_70_0 m) some p0 p1 p2 p3
noncomputable def l_70_0(m:Nat)(a:T_70_0.E):Option E_70_0:=L_70_0 m a.1 a.2.1 a.2.2.1 a.2.2.2.1
noncomputable def O_70_0{R:Type}:Orc R:=orL T_70_0 (l_70_0 FU) Y_70_0
theorem OK_70_0{R:Type}:okF (R:=R) sm_70 0 (nf 70 0) O_70_0:=lp0 T_70_0 l_70_0 (fun R K k a=>S_70_0 (fun p0 p1 p2 p3=>K (p0,p1,p2,p3,())) k a.1 a.2.1 a.2.2.1 a.2.2.2.1) Y_70_0 (fun _ _ _=>by kernel_rfl) (fun _ _ _=>by
 unfold S_70_0
 repeat' first|apply gdN|apply condN|rfl) (ok0 _)
noncomputable def F_70(a0:(List Int))(a1 a2:Int):Option ((List Int)×Unit) :=
 B_70_0 (L_70_0 4611686018427387904 a2 a1 a0 (replicate 32 (0:Int))) fun y2 y3=>some (y2,PUnit.unit)
noncomputable def Sp.p_70(a0:(List Int))(a1 a2:Int):Bool:=(F_70 a0 a1 a2).isSome
noncomputable def Sp.v_70(a0:(List Int))(a1 a2:Int):(List Int)×Unit:=(F_70 a0 a1 a2).getD (dfH R_70)
noncomputable def s_70:Summ:=shN A_70 R_70 (fun x=>p_70 x.1 x.2.1 x.2.2.1) (fun x=>v_70 x.1 x.2.1 x.2.2.1)
theorem pv_70(a0:(List Int))(a1 a2:Int){y:(List Int)×Unit}(h:F_70 a0 a1 a2=some y):p_70 a0 a1 a2=true/\v_70 a0 a1 a2=y:=pvG h
theorem run_70(x:HDen A_70)(y:HDen R_70)(h:F_70 x.1 x.2.1 x.2.2.1=some y):rnF sm_70 1 70 A_70 R_70 x y:=runG noO_ok (os:=[O_70_0]) ⟨OK_70_0,trivial⟩ (Eq.trans (by kernel_rfl) h)
end
noncomputable section
abbrev A_73:List Ty:=[(.arr 32 (.int .u8)),(.arr 32 (.int .u8))]
abbrev R_73:List Ty:=[(.arr 32 (.int .u8))]
noncomputable def sm_73:Nat->Option Summ:=smL [(35,s_35)]
noncomputable def F_73(a0 a1:(List Int)):Option ((List Int)×Unit) :=
 gd (room (1+length (take 32 (drop 0 a0))) 1) (gd (room (length ([255]++take 32 (drop 0 a0))+length (take 32 (drop 0 a1))) 1) (gd (p_35 ([255]++take 32 (drop 0 a0)++take 32 (drop 0 a1))) (some ((v_35 ([255]++take 32 (drop 0 a0)++take 32 (drop 0 a1))).1,PUnit.unit))))
noncomputable def Sp.p_73(a0 a1:(List Int)):Bool:=(F_73 a0 a1).isSome
noncomputable def Sp.v_73(a0 a1:(List Int)):(List Int)×Unit:=(F_73 a0 a1).getD (dfH R_73)
noncomputable def s_73:Summ:=shN A_73 R_73 (fun x=>p_73 x.1 x.2.1) (fun x=>v_73 x.1 x.2.1)
theorem pv_73(a0 a1:(List Int)){y:(List Int)×Unit}(h:F_73 a0 a1=some y):p_73 a0 a1=true/\v_73 a0 a1=y:=pvG h
theorem run_73(x:HDen A_73)(y:HDen R_73)(h:F_73 x.1 x.2.1=some y):rnF sm_73 1 73 A_73 R_73 x y:=runG noO_ok (os:=[]) trivial (Eq.trans (by kernel_rfl) h)
end
noncomputable section
abbrev A_78:List Ty:=[(.pair (.int .i64) (.pair (.slice (.arr 32 (.int .u8))) (.pair (.slice (.arr 32 (.int .u8))) .unit)))]
abbrev R_78:List Ty:=[.bool]
noncomputable def sm_78:Nat->Option Summ:=smL []
noncomputable def F_78(a0:(Int×((List (List Int))×((List (List Int))×Unit)))):Option (Bool×Unit) :=
 bif decide (a0.1>=0)then bif decide (a0.1<4)then bif(↑(length (a0.2.1)):Int)==67 then some ((↑(length (a0.2.2.1)):Int)==2,PUnit.unit)else some (false,PUnit.unit)else some (false,PUnit.unit)else some (false,PUnit.unit)
noncomputable def Sp.p_78(a0:(Int×((List (List Int))×((List (List Int))×Unit)))):Bool:=(F_78 a0).isSome
noncomputable def Sp.v_78(a0:(Int×((List (List Int))×((List (List Int))×Unit)))):Bool×Unit:=(F_78 a0).getD (dfH R_78)
noncomputable def s_78:Summ:=shN A_78 R_78 (fun x=>p_78 x.1) (fun x=>v_78 x.1)
theorem pv_78(a0:(Int×((List (List Int))×((List (List Int))×Unit)))){y:Bool×Unit}(h:F_78 a0=some y):p_78 a0=true/\v_78 a0=y:=pvG h
theorem run_78(x:HDen A_78)(y:HDen R_78)(h:F_78 x.1=some y):rnF sm_78 1 78 A_78 R_78 x y:=runG noO_ok (os:=[]) trivial (Eq.trans (by kernel_rfl) h)
end
noncomputable section
abbrev A_79:List Ty:=[(.slice (.arr 32 (.int .u8)))]
abbrev R_79:List Ty:=[(.arr 32 (.int .u8))]
noncomputable def sm_79:Nat->Option Summ:=smL [(35,s_35)]
noncomputable def T_79_0:PS:=⟨18,[(2,.kc (.ptr 0 [])),(3,.kc (.whole 1)),(6,.hv (.slice (.arr 32 (.int .u8)))),(7,.hv (.int .i64)),(8,.hv (.int .i64))],[.mem (.hv (.arr 32 (.int .u8))),.vec 5 (.int .u8)],0⟩
inductive Sp.E_79_0 where
 |e0 (p3 p4:List Int)
noncomputable def Sp.B_79_0{R:Type}(r:Option E_79_0)(k0:List Int->List Int->Option R):Option R:=match r with
 |none=>none
 |some (.e0 p3 p4)=>k0 p3 p4
noncomputable def Y_79_0{R:Type}(k:Ex->St->Option R):E_79_0->Option R
 | .e0 p3 p4=>k (Ex.exit 0) (sx 18 [(2,CV.ptr 0 []),(3,CV.whole 1)] [Blk.mem (CV.pure (Ty.arr 32 (Ty.int u8)) p3),Blk.vec 5 (Ty.int u8) p4])
noncomputable def Sp.S_79_0{R:Type}(K:List (List Int)->Int->Int->List Int->List Int->Option R)(k:E_79_0->Option R)(p0:List (List Int))(p1 p2:Int)(p3 p4:List Int):Option R:=
 bif decide (p2<p1)then gd (inB p2 (length p0)) (gd (room (length p4+length (take 32 (drop 0 (getD p0 (toNat p2) (Ty.dflt (Ty.arr 32 (Ty.int u8))))))) 1) (K p0 p1 (wrap i64 (p2+1)) p3 (p4++take 32 (drop 0 (getD p0 (toNat p2) (Ty.dflt (Ty.arr 32 (Ty.int u8))))))))else k (E_79_0.e0 p3 p4)
noncomputable def Sp.L_79_0:Nat->List (List Int)->Int->Int->List Int->List Int->Option E_79_0
 |0,_,_,_,_,_=>none
 |m+1,p0,p1,p2,p3,p4=>S_79_0 (L_79_0 m) some p0 p1 p2 p3 p4
noncomputable def l_79_0(m:Nat)(a:T_79_0.E):Option E_79_0:=L_79_0 m a.1 a.2.1 a.2.2.1 a.2.2.2.1 a.2.2.2.2.1
noncomputable def O_79_0{R:Type}:Orc R:=orL T_79_0 (l_79_0 FU) Y_79_0
theorem OK_79_0{R:Type}:okF (R:=R) sm_79 0 (nf 79 0) O_79_0:=lp0 T_79_0 l_79_0 (fun R K k a=>S_79_0 (fun p0 p1 p2 p3 p4=>K (p0,p1,p2,p3,p4,())) k a.1 a.2.1 a.2.2.1 a.2.2.2.1 a.2.2.2.2.1) Y_79_0 (fun _ _ _=>by kernel_rfl) (fun _ _ _=>by
 unfold S_79_0
 repeat' first|apply gdN|apply condN|rfl) (ok0 _)
noncomputable def F_79(a0:(List (List Int))):Option ((List Int)×Unit) :=
 B_79_0 (L_79_0 4611686018427387904 a0 (↑(length a0):Int) 0 (replicate 32 (0:Int)) []) fun y2 y3=>gd (p_35 y3) (some ((v_35 y3).1,PUnit.unit))
noncomputable def Sp.p_79(a0:(List (List Int))):Bool:=(F_79 a0).isSome
noncomputable def Sp.v_79(a0:(List (List Int))):(List Int)×Unit:=(F_79 a0).getD (dfH R_79)
noncomputable def s_79:Summ:=shN A_79 R_79 (fun x=>p_79 x.1) (fun x=>v_79 x.1)
theorem pv_79(a0:(List (List Int))){y:(List Int)×Unit}(h:F_79 a0=some y):p_79 a0=true/\v_79 a0=y:=pvG h
theorem run_79(x:HDen A_79)(y:HDen R_79)(h:F_79 x.1=some y):rnF sm_79 1 79 A_79 R_79 x y:=runG noO_ok (os:=[O_79_0]) ⟨OK_79_0,trivial⟩ (Eq.trans (by kernel_rfl) h)
end
noncomputable section
abbrev Zy45_0:Ty:=(.pair (.int .i64) (.pair (.slice (.arr 32 (.int .u8))) (.pair (.slice (.arr 32 (.int .u8))) .unit)))
abbrev Zt45_1:Type:=Int×List (List Int)×List (List Int)×Unit
abbrev A_45:List Ty:=[(.arr 32 (.int .u8)),(.arr 32 (.int .u8)),(.pair (.int .i64) (.pair (.slice (.arr 32 (.int .u8))) (.pair (.slice (.arr 32 (.int .u8))) .unit)))]
abbrev R_45:List Ty:=[.bool]
noncomputable def sm_45:Nat->Option Summ:=smL [(69,s_69),(70,s_70),(73,s_73),(78,s_78),(79,s_79)]
noncomputable def T_45_0:PS:=⟨61,[(3,.kc (.ptr 0 [])),(5,.kc (.ptr 1 [])),(7,.kc (.whole 2)),(17,.hv (.slice (.int .i64))),(18,.hv (.int .i64)),(19,.hv (.int .i64))],[.mem (.hv (.arr 32 (.int .u8))),.mem (.hv Zy45_0),.vec 27 (.arr 32 (.int .u8))],0⟩
inductive Sp.E_45_0 where
 |e0 (p3:List Int) (p4:Zt45_1) (p5:List (List Int))
noncomputable def Sp.B_45_0{R:Type}(r:Option E_45_0)(k0:List Int->Zt45_1->List (List Int)->Option R):Option R:=match r with
 |none=>none
 |some (.e0 p3 p4 p5)=>k0 p3 p4 p5
noncomputable def Y_45_0{R:Type}(k:Ex->St->Option R):E_45_0->Option R
 | .e0 p3 p4 p5=>k (Ex.exit 0) (sx 61 [(3,CV.ptr 0 []),(5,CV.ptr 1 []),(7,CV.whole 2)] [Blk.mem (CV.pure (Ty.arr 32 (Ty.int u8)) p3),Blk.mem (CV.pure (Ty.pair (Ty.int i64) (Ty.pair (Ty.slice (Ty.arr 32 (Ty.int u8))) (Ty.pair (Ty.slice (Ty.arr 32 (Ty.int u8))) Ty.unit))) p4),Blk.vec 27 (Ty.arr 32 (Ty.int u8)) p5])
noncomputable def Sp.S_45_0{R:Type}(K:List Int->Int->Int->List Int->(Int×List (List Int)×List (List Int)×Unit)->List (List Int)->Option R)(k:E_45_0->Option R)(p0:List Int)(p1 p2:Int)(p3:List Int)(p4:Int×List (List Int)×List (List Int)×Unit)(p5:List (List Int)):Option R:=
 bif decide (p2<p1)then gd (inB p2 (length p0)) (gd (inB p2 (length (p4.2.1))) (gd (p_70 (getD (p4.2.1) (toNat p2) (Ty.dflt (Ty.arr 32 (Ty.int u8)))) (getD p0 (toNat p2) 0) 15) (gd (room (length p5+1) 32) (K p0 p1 (wrap i64 (p2+1)) p3 p4 (p5++[(v_70 (getD (p4.2.1) (toNat p2) (Ty.dflt (Ty.arr 32 (Ty.int u8)))) (getD p0 (toNat p2) 0) 15).1])))))else k (E_45_0.e0 p3 p4 p5)
noncomputable def Sp.L_45_0:Nat->List Int->Int->Int->List Int->(Int×List (List Int)×List (List Int)×Unit)->List (List Int)->Option E_45_0
 |0,_,_,_,_,_,_=>none
 |m+1,p0,p1,p2,p3,p4,p5=>S_45_0 (L_45_0 m) some p0 p1 p2 p3 p4 p5
noncomputable def l_45_0(m:Nat)(a:T_45_0.E):Option E_45_0:=L_45_0 m a.1 a.2.1 a.2.2.1 a.2.2.2.1 a.2.2.2.2.1 a.2.2.2.2.2.1
noncomputable def O_45_0{R:Type}:Orc R:=orL T_45_0 (l_45_0 FU) Y_45_0
theorem OK_45_0{R:Type}:okF (R:=R) sm_45 0 (nf 45 0) O_45_0:=lp0 T_45_0 l_45_0 (fun R K k a=>S_45_0 (fun p0 p1 p2 p3 p4 p5=>K (p0,p1,p2,p3,p4,p5,())) k a.1 a.2.1 a.2.2.1 a.2.2.2.1 a.2.2.2.2.1 a.2.2.2.2.2.1) Y_45_0 (fun _ _ _=>by kernel_rfl) (fun _ _ _=>by
 unfold S_45_0
 repeat' first|apply gdN|apply condN|rfl) (ok0 _)
noncomputable def T_45_1:PS:=⟨61,[(3,.kc (.ptr 0 [])),(5,.kc (.ptr 1 [])),(10,.kc (.ptr 2 [])),(38,.hv (.slice (.arr 32 (.int .u8)))),(39,.hv (.int .i64)),(40,.hv (.int .i64))],[.mem (.hv (.arr 32 (.int .u8))),.mem (.hv Zy45_0),.mem (.hv (.arr 32 (.int .u8)))],0⟩
inductive Sp.E_45_1 where
 |e0 (p3 p5:List Int)
noncomputable def Sp.B_45_1{R:Type}(r:Option E_45_1)(k0:List Int->List Int->Option R):Option R:=match r with
 |none=>none
 |some (.e0 p3 p5)=>k0 p3 p5
noncomputable def Y_45_1{R:Type}(k:Ex->St->Option R):E_45_1->Option R
 | .e0 p3 p5=>k (Ex.exit 2) (sx 61 [(3,CV.ptr 0 []),(10,CV.ptr 1 [])] [Blk.mem (CV.pure (Ty.arr 32 (Ty.int u8)) p3),Blk.mem (CV.pure (Ty.arr 32 (Ty.int u8)) p5)])
noncomputable def Sp.S_45_1{R:Type}(K:List (List Int)->Int->Int->List Int->(Int×List (List Int)×List (List Int)×Unit)->List Int->Option R)(k:E_45_1->Option R)(p0:List (List Int))(p1 p2:Int)(p3:List Int)(p4:Int×List (List Int)×List (List Int)×Unit)(p5:List Int):Option R:=
 bif decide (p2<p1)then gd (inB p2 (length p0)) (gd (decide (0<=p2)) (bif Sp.andI i64 (Int.fdiv (p4.1) (2^Nat.min (toNat p2) 64)) (1:Int)==(1:Int)then gd (p_73 (getD p0 (toNat p2) (Ty.dflt (Ty.arr 32 (Ty.int u8)))) p5) (K p0 p1 (wrap i64 (p2+1)) p3 p4 ((v_73 (getD p0 (toNat p2) (Ty.dflt (Ty.arr 32 (Ty.int u8)))) p5).1))else gd (p_73 p5 (getD p0 (toNat p2) (Ty.dflt (Ty.arr 32 (Ty.int u8))))) (K p0 p1 (wrap i64 (p2+1)) p3 p4 ((v_73 p5 (getD p0 (toNat p2) (Ty.dflt (Ty.arr 32 (Ty.int u8))))).1))))else k (E_45_1.e0 p3 p5)
noncomputable def Sp.L_45_1:Nat->List (List Int)->Int->Int->List Int->(Int×List (List Int)×List (List Int)×Unit)->List Int->Option E_45_1
 |0,_,_,_,_,_,_=>none
 |m+1,p0,p1,p2,p3,p4,p5=>S_45_1 (L_45_1 m) some p0 p1 p2 p3 p4 p5
noncomputable def l_45_1(m:Nat)(a:T_45_1.E):Option E_45_1:=L_45_1 m a.1 a.2.1 a.2.2.1 a.2.2.2.1 a.2.2.2.2.1 a.2.2.2.2.2.1
noncomputable def O_45_1{R:Type}:Orc R:=orL T_45_1 (l_45_1 FU) Y_45_1
theorem OK_45_1{R:Type}:okF (R:=R) sm_45 0 (nf 45 1) O_45_1:=lp0 T_45_1 l_45_1 (fun R K k a=>S_45_1 (fun p0 p1 p2 p3 p4 p5=>K (p0,p1,p2,p3,p4,p5,())) k a.1 a.2.1 a.2.2.1 a.2.2.2.1 a.2.2.2.2.1 a.2.2.2.2.2.1) Y_45_1 (fun _ _ _=>by kernel_rfl) (fun _ _ _=>by
 unfold S_45_1
 repeat' first|apply gdN|apply condN|rfl) (ok0 _)
noncomputable def F_45(a0 a1:(List Int))(a2:(Int×((List (List Int))×((List (List Int))×Unit)))):Option (Bool×Unit) :=
 gd (p_78 a2) (bif !(v_78 a2).1 then some (false,PUnit.unit)else gd (p_69 a1) (B_45_0 (L_45_0 4611686018427387904 ((v_69 a1).1) (↑(length ((v_69 a1).1)):Int) 0 a0 a2 []) fun y5 y6 y7=>gd (p_79 y7) (B_45_1 (L_45_1 4611686018427387904 (y6.2.2.1) (↑(length (y6.2.2.1)):Int) 0 y5 y6 ((v_79 y7).1)) fun y8 y9=>some (Ty.beq (Ty.arr 32 (Ty.int u8)) y9 y8,PUnit.unit))))
noncomputable def Sp.p_45(a0 a1:(List Int))(a2:(Int×((List (List Int))×((List (List Int))×Unit)))):Bool:=(F_45 a0 a1 a2).isSome
noncomputable def Sp.v_45(a0 a1:(List Int))(a2:(Int×((List (List Int))×((List (List Int))×Unit)))):Bool×Unit:=(F_45 a0 a1 a2).getD (dfH R_45)
noncomputable def s_45:Summ:=shN A_45 R_45 (fun x=>p_45 x.1 x.2.1 x.2.2.1) (fun x=>v_45 x.1 x.2.1 x.2.2.1)
theorem pv_45(a0 a1:(List Int))(a2:(Int×((List (List Int))×((List (List Int))×Unit)))){y:Bool×Unit}(h:F_45 a0 a1 a2=some y):p_45 a0 a1 a2=true/\v_45 a0 a1 a2=y:=pvG h
theorem run_45(x:HDen A_45)(y:HDen R_45)(h:F_45 x.1 x.2.1 x.2.2.1=some y):rnF sm_45 1 45 A_45 R_45 x y:=runG noO_ok (os:=[O_45_0,O_45_1]) ⟨OK_45_0,OK_45_1,trivial⟩ (Eq.trans (by kernel_rfl) h)
end
noncomputable section
abbrev A_13:List Ty:=[(.pair (.pair (.slice (.int .u32)) (.pair (.slice (.int .i64)) (.pair (.int .i64) .unit))) (.pair (.arr 32 (.int .u8)) .unit)),(.int .i64)]
abbrev R_13:List Ty:=[.bool]
noncomputable def sm_13:Nat->Option Summ:=smL [(14,s_14),(35,s_35),(42,s_42),(43,s_43),(44,s_44),(45,s_45)]
noncomputable def F_13(a0:(((List Int)×((List Int)×(Int×Unit)))×((List Int)×Unit)))(a1:Int):Option (Bool×Unit) :=
 gd (p_14 a0 a1) (bif !(v_14 a0 a1).2.1 then some (false,PUnit.unit)else gd (p_42 a0 a1) (gd (sl3 1 3 (↑(length ((v_42 a0 a1).1)):Int)) (gd (sl3 564 (wrap i64 (564+(v_14 a0 a1).1.2.1)) (↑(length ((v_42 a0 a1).1)):Int)) (gd (p_43 [take 2 (drop 1 ((v_42 a0 a1).1)),take (toNat (wrap i64 (564+(v_14 a0 a1).1.2.1))-564) (drop 564 ((v_42 a0 a1).1))]) (gd (p_44 ((v_43 [take 2 (drop 1 ((v_42 a0 a1).1)),take (toNat (wrap i64 (564+(v_14 a0 a1).1.2.1))-564) (drop 564 ((v_42 a0 a1).1))]).1)) (gd (p_35 ((v_44 ((v_43 [take 2 (drop 1 ((v_42 a0 a1).1)),take (toNat (wrap i64 (564+(v_14 a0 a1).1.2.1))-564) (drop 564 ((v_42 a0 a1).1))]).1)).1)) (bif Ty.beq (Ty.arr 32 (Ty.int u8)) ((v_35 ((v_44 ((v_43 [take 2 (drop 1 ((v_42 a0 a1).1)),take (toNat (wrap i64 (564+(v_14 a0 a1).1.2.1))-564) (drop 564 ((v_42 a0 a1).1))]).1)).1)).1) ((v_14 a0 a1).1.2.2.1)then gd (p_45 (a0.2.1) ((v_14 a0 a1).1.2.2.1) ((v_14 a0 a1).1.2.2.2.1)) (some ((v_45 (a0.2.1) ((v_14 a0 a1).1.2.2.1) ((v_14 a0 a1).1.2.2.2.1)).1,PUnit.unit))else some (false,PUnit.unit))))))))
noncomputable def Sp.p_13(a0:(((List Int)×((List Int)×(Int×Unit)))×((List Int)×Unit)))(a1:Int):Bool:=(F_13 a0 a1).isSome
noncomputable def Sp.v_13(a0:(((List Int)×((List Int)×(Int×Unit)))×((List Int)×Unit)))(a1:Int):Bool×Unit:=(F_13 a0 a1).getD (dfH R_13)
noncomputable def s_13:Summ:=shN A_13 R_13 (fun x=>p_13 x.1 x.2.1) (fun x=>v_13 x.1 x.2.1)
theorem pv_13(a0:(((List Int)×((List Int)×(Int×Unit)))×((List Int)×Unit)))(a1:Int){y:Bool×Unit}(h:F_13 a0 a1=some y):p_13 a0 a1=true/\v_13 a0 a1=y:=pvG h
theorem run_13(x:HDen A_13)(y:HDen R_13)(h:F_13 x.1 x.2.1=some y):rnF sm_13 1 13 A_13 R_13 x y:=runG noO_ok (os:=[]) trivial (Eq.trans (by kernel_rfl) h)
end
noncomputable section
abbrev A_51:List Ty:=[(.pair (.pair (.slice (.int .u32)) (.pair (.slice (.int .i64)) (.pair (.int .i64) .unit))) (.pair (.arr 32 (.int .u8)) .unit)),(.int .i64)]
abbrev R_51:List Ty:=[.bool]
noncomputable def sm_51:Nat->Option Summ:=smL [(42,s_42)]
noncomputable def F_51(a0:(((List Int)×((List Int)×(Int×Unit)))×((List Int)×Unit)))(a1:Int):Option (Bool×Unit) :=
 gd (p_42 a0 a1) (gd (inB 0 (length ((v_42 a0 a1).1))) (some (getD ((v_42 a0 a1).1) 0 (0:Int)==(0:Int),PUnit.unit)))
noncomputable def Sp.p_51(a0:(((List Int)×((List Int)×(Int×Unit)))×((List Int)×Unit)))(a1:Int):Bool:=(F_51 a0 a1).isSome
noncomputable def Sp.v_51(a0:(((List Int)×((List Int)×(Int×Unit)))×((List Int)×Unit)))(a1:Int):Bool×Unit:=(F_51 a0 a1).getD (dfH R_51)
noncomputable def s_51:Summ:=shN A_51 R_51 (fun x=>p_51 x.1 x.2.1) (fun x=>v_51 x.1 x.2.1)
theorem pv_51(a0:(((List Int)×((List Int)×(Int×Unit)))×((List Int)×Unit)))(a1:Int){y:Bool×Unit}(h:F_51 a0 a1=some y):p_51 a0 a1=true/\v_51 a0 a1=y:=pvG h
theorem run_51(x:HDen A_51)(y:HDen R_51)(h:F_51 x.1 x.2.1=some y):rnF sm_51 1 51 A_51 R_51 x y:=runG noO_ok (os:=[]) trivial (Eq.trans (by kernel_rfl) h)
end
noncomputable section
abbrev A_17:List Ty:=[(.pair (.pair (.slice (.int .u32)) (.pair (.slice (.int .i64)) (.pair (.int .i64) .unit))) (.pair (.arr 32 (.int .u8)) .unit))]
abbrev R_17:List Ty:=[(.int .i64),(.int .i64)]
noncomputable def sm_17:Nat->Option Summ:=smL [(12,s_12),(13,s_13),(14,s_14),(51,s_51)]
noncomputable def T_17_0:PS:=⟨45,[(1,.kc (.ptr 0 [])),(4,.hv (.int .i64)),(5,.hv (.int .i64)),(12,.hv (.int .i64))],[.mem (.hv (.pair (.pair (.slice (.int .u32)) (.pair (.slice (.int .i64)) (.pair (.int .i64) .unit))) (.pair (.arr 32 (.int .u8)) .unit)))],0⟩
inductive Sp.E_17_0 where
 |e0 (p0 p1:Int)
noncomputable def Sp.B_17_0{R:Type}(r:Option E_17_0)(k0:Int->Int->Option R):Option R:=match r with
 |none=>none
 |some (.e0 p0 p1)=>k0 p0 p1
noncomputable def Y_17_0{R:Type}(k:Ex->St->Option R):E_17_0->Option R
 | .e0 p0 p1=>k (Ex.exit 0) (sx 45 [(4,CV.int i64 p0),(5,CV.int i64 p1)] [])
noncomputable def Sp.S_17_0{R:Type}(K:Int->Int->Int->((List Int×List Int×Int×Unit)×List Int×Unit)->Option R)(k:E_17_0->Option R)(p0 p1 p2:Int)(p3:(List Int×List Int×Int×Unit)×List Int×Unit):Option R:=
 bif decide (p2<2)then gd (p_14 p3 p2) (bif(v_14 p3 p2).2.1 then bif decide ((v_14 p3 p2).1.1>p1)then gd (p_51 p3 p2) (bif(v_51 p3 p2).1 then gd (p_13 p3 p2) (bif(v_13 p3 p2).1 then K p2 ((v_14 p3 p2).1.1) (wrap i64 (p2+1)) p3 else K p0 p1 (wrap i64 (p2+1)) p3)else K p0 p1 (wrap i64 (p2+1)) p3)else K p0 p1 (wrap i64 (p2+1)) p3 else K p0 p1 (wrap i64 (p2+1)) p3)else k (E_17_0.e0 p0 p1)
noncomputable def Sp.L_17_0:Nat->Int->Int->Int->((List Int×List Int×Int×Unit)×List Int×Unit)->Option E_17_0
 |0,_,_,_,_=>none
 |m+1,p0,p1,p2,p3=>S_17_0 (L_17_0 m) some p0 p1 p2 p3
noncomputable def l_17_0(m:Nat)(a:T_17_0.E):Option E_17_0:=L_17_0 m a.1 a.2.1 a.2.2.1 a.2.2.2.1
noncomputable def O_17_0{R:Type}:Orc R:=orL T_17_0 (l_17_0 FU) Y_17_0
theorem OK_17_0{R:Type}:okF (R:=R) sm_17 0 (nf 17 0) O_17_0:=lp0 T_17_0 l_17_0 (fun R K k a=>S_17_0 (fun p0 p1 p2 p3=>K (p0,p1,p2,p3,())) k a.1 a.2.1 a.2.2.1 a.2.2.2.1) Y_17_0 (fun _ _ _=>by kernel_rfl) (fun _ _ _=>by
 unfold S_17_0
 repeat' first|apply gdN|apply condN|rfl) (ok0 _)
noncomputable def F_17(a0:(((List Int)×((List Int)×(Int×Unit)))×((List Int)×Unit))):Option (Int×Int×Unit) :=
 gd (p_12 a0) (bif !(v_12 a0).1 then some (0,1,PUnit.unit)else B_17_0 (L_17_0 4611686018427387904 0 0 0 a0) fun y2 y3=>bif y3==0 then some (0,7,PUnit.unit)else some (y2,0,PUnit.unit))
noncomputable def Sp.p_17(a0:(((List Int)×((List Int)×(Int×Unit)))×((List Int)×Unit))):Bool:=(F_17 a0).isSome
noncomputable def Sp.v_17(a0:(((List Int)×((List Int)×(Int×Unit)))×((List Int)×Unit))):Int×Int×Unit:=(F_17 a0).getD (dfH R_17)
noncomputable def s_17:Summ:=shN A_17 R_17 (fun x=>p_17 x.1) (fun x=>v_17 x.1)
theorem pv_17(a0:(((List Int)×((List Int)×(Int×Unit)))×((List Int)×Unit))){y:Int×Int×Unit}(h:F_17 a0=some y):p_17 a0=true/\v_17 a0=y:=pvG h
theorem run_17(x:HDen A_17)(y:HDen R_17)(h:F_17 x.1=some y):rnF sm_17 1 17 A_17 R_17 x y:=runG noO_ok (os:=[O_17_0]) ⟨OK_17_0,trivial⟩ (Eq.trans (by kernel_rfl) h)
end
noncomputable section
abbrev A_107:List Ty:=[(.int .u32),(.int .u32)]
abbrev R_107:List Ty:=[(.int .u32),(.int .u32)]
noncomputable def sm_107:Nat->Option Summ:=smL []
noncomputable def F_107(a0 a1:Int):Option (Int×Int×Unit) :=
 some (wrap u32 (Int.fdiv (wrap u64 (wrap u64 a0*wrap u64 a1)) 4294967296),wrap u32 (wrap u64 (wrap u64 a0*wrap u64 a1)),PUnit.unit)
noncomputable def Sp.p_107(a0 a1:Int):Bool:=(F_107 a0 a1).isSome
noncomputable def Sp.v_107(a0 a1:Int):Int×Int×Unit:=(F_107 a0 a1).getD (dfH R_107)
noncomputable def s_107:Summ:=shN A_107 R_107 (fun x=>p_107 x.1 x.2.1) (fun x=>v_107 x.1 x.2.1)
theorem run_107(x:HDen A_107)(y:HDen R_107)(h:F_107 x.1 x.2.1=some y):rnF sm_107 1 107 A_107 R_107 x y:=runG noO_ok (os:=[]) trivial (Eq.trans (by kernel_rfl) h)
end
noncomputable section
abbrev A_108:List Ty:=[(.int .u64),(.int .u64)]
abbrev R_108:List Ty:=[(.int .u64),(.int .u64)]
noncomputable def sm_108:Nat->Option Summ:=smL []
noncomputable def F_108(a0 a1:Int):Option (Int×Int×Unit) :=
 some (wrap u64 (wrap u64 (wrap u64 (Int.fdiv a0 4294967296*Int.fdiv a1 4294967296)+Int.fdiv (wrap u64 (wrap u64 (Int.fdiv a0 4294967296*Sp.andI u64 a1 4294967295)+Int.fdiv (wrap u64 (Sp.andI u64 a0 4294967295*Sp.andI u64 a1 4294967295)) 4294967296)) 4294967296)+Int.fdiv (wrap u64 (Sp.andI u64 (wrap u64 (wrap u64 (Int.fdiv a0 4294967296*Sp.andI u64 a1 4294967295)+Int.fdiv (wrap u64 (Sp.andI u64 a0 4294967295*Sp.andI u64 a1 4294967295)) 4294967296)) 4294967295+wrap u64 (Sp.andI u64 a0 4294967295*Int.fdiv a1 4294967296))) 4294967296),wrap u64 (a0*a1),PUnit.unit)
noncomputable def Sp.p_108(a0 a1:Int):Bool:=(F_108 a0 a1).isSome
noncomputable def Sp.v_108(a0 a1:Int):Int×Int×Unit:=(F_108 a0 a1).getD (dfH R_108)
noncomputable def s_108:Summ:=shN A_108 R_108 (fun x=>p_108 x.1 x.2.1) (fun x=>v_108 x.1 x.2.1)
theorem run_108(x:HDen A_108)(y:HDen R_108)(h:F_108 x.1 x.2.1=some y):rnF sm_108 1 108 A_108 R_108 x y:=runG noO_ok (os:=[]) trivial (Eq.trans (by kernel_rfl) h)
end
noncomputable section
abbrev A_102:List Ty:=[(.int .u64),(.int .u64)]
abbrev R_102:List Ty:=[(.int .u64),(.int .u64)]
noncomputable def sm_102:Nat->Option Summ:=smL [(107,s_107),(108,s_108)]
noncomputable def F_102(a0 a1:Int):Option (Int×Int×Unit) :=
 gd (p_108 a0 a1) (some ((v_108 a0 a1).1,(v_108 a0 a1).2.1,PUnit.unit))
noncomputable def Sp.p_102(a0 a1:Int):Bool:=(F_102 a0 a1).isSome
noncomputable def Sp.v_102(a0 a1:Int):Int×Int×Unit:=(F_102 a0 a1).getD (dfH R_102)
noncomputable def s_102:Summ:=shN A_102 R_102 (fun x=>p_102 x.1 x.2.1) (fun x=>v_102 x.1 x.2.1)
theorem run_102(x:HDen A_102)(y:HDen R_102)(h:F_102 x.1 x.2.1=some y):rnF sm_102 1 102 A_102 R_102 x y:=runG noO_ok (os:=[]) trivial (Eq.trans (by kernel_rfl) h)
end
noncomputable section
abbrev A_89:List Ty:=[(.slice (.int .u32)),(.int .i64)]
abbrev R_89:List Ty:=[(.slice (.int .u32))]
noncomputable def sm_89:Nat->Option Summ:=smL [(102,s_102)]
noncomputable def T_89_2:PS:=⟨48,[(7,.kc (.whole 0)),(8,.hv (.int .i64))],[.vec 42 (.int .u32)],0⟩
inductive Sp.E_89_2 where
 |e0 (p1:List Int)
noncomputable def Sp.B_89_2{R:Type}(r:Option E_89_2)(k0:List Int->Option R):Option R:=match r with
 |none=>none
 |some (.e0 p1)=>k0 p1
theorem Bn_89_2{A R:Type}{r:Option E_89_2}{f:A->Option R}{k0:List Int->Option A}{l0:List Int->Option R}(h0:∀p1,(k0 p1).bind f=l0 p1):(B_89_2 r k0).bind f=B_89_2 r l0:=by
 cases r with
 |none=>rfl
 |some e=>cases e<;>first|apply h0
noncomputable def Y_89_2{R:Type}(k:Ex->St->Option R):E_89_2->Option R
 | .e0 p1=>k (Ex.exit 0) (sx 48 [(7,CV.whole 0)] [Blk.vec 42 (Ty.int u32) p1])
noncomputable def Sp.S_89_2{R:Type}(K:Int->List Int->Option R)(k:E_89_2->Option R)(p0:Int)(p1:List Int):Option R:=
 bif decide (p0<(↑(length p1):Int))then gd (sl3 p0 (↑(length p1):Int) (↑(length p1):Int)) (gd (sl3 0 p0 (↑(length p1):Int)) (gd (decide (0+(toNat p0-0)<=length p1)&&(decide (toNat p0+(toNat (↑(length p1):Int)-toNat p0)<=length p1)&&decide (0<length p1))) (K (wrap i64 (p0+(↑(Nat.min (length (take (toNat p0-0) (drop 0 p1))) (toNat (↑(length p1):Int)-toNat p0)):Int))) (over p1 (toNat p0) (take (toNat (↑(length p1):Int)-toNat p0) (take (toNat p0-0) (drop 0 p1)))))))else k (E_89_2.e0 p1)
noncomputable def Sp.L_89_2:Nat->Int->List Int->Option E_89_2
 |0,_,_=>none
 |m+1,p0,p1=>S_89_2 (L_89_2 m) some p0 p1
noncomputable def l_89_2(m:Nat)(a:T_89_2.E):Option E_89_2:=L_89_2 m a.1 a.2.1
noncomputable def O_89_2{R:Type}:Orc R:=orL T_89_2 (l_89_2 FU) Y_89_2
theorem OK_89_2{R:Type}:okF (R:=R) sm_89 0 (ni (ni (nf 89 0) 0) 0) O_89_2:=lp0 T_89_2 l_89_2 (fun R K k a=>S_89_2 (fun p0 p1=>K (p0,p1,())) k a.1 a.2.1) Y_89_2 (fun _ _ _=>by kernel_rfl) (fun _ _ _=>by
 unfold S_89_2
 repeat' first|apply gdN|apply condN|rfl) (ok0 _)
noncomputable def T_89_1:PS:=⟨48,[(0,.hv (.slice (.int .u32))),(6,.hv (.int .u64))],[],0⟩
inductive Sp.E_89_1 where
 |e0 (y5:List Int)
noncomputable def Sp.B_89_1{R:Type}(r:Option E_89_1)(k0:List Int->Option R):Option R:=match r with
 |none=>none
 |some (.e0 y5)=>k0 y5
theorem Bn_89_1{A R:Type}{r:Option E_89_1}{f:A->Option R}{k0:List Int->Option A}{l0:List Int->Option R}(h0:∀y5,(k0 y5).bind f=l0 y5):(B_89_1 r k0).bind f=B_89_1 r l0:=by
 cases r with
 |none=>rfl
 |some e=>cases e<;>first|apply h0
noncomputable def Y_89_1{R:Type}(k:Ex->St->Option R):E_89_1->Option R
 | .e0 y5=>k Ex.ret (sx 48 [(4,CV.whole 0)] [Blk.vec 42 (Ty.int u32) y5])
noncomputable def Sp.S_89_1{R:Type}(k:E_89_1->Option R)(p0:List Int)(p1:Int):Option R:=
 gd (decide (0<=wrap i64 p1)&&(wrap i64 p1==wrap i64 p1&&room (toNat (wrap i64 p1)) 4)) (gd (decide (0+length (replicate (toNat (wrap i64 p1)) (0:Int))<=length (replicate (toNat (wrap i64 p1)) (0:Int)))&&decide (0<length (replicate (toNat (wrap i64 p1)) (0:Int)))) (B_89_2 (L_89_2 4611686018427387904 (↑(Nat.min (length p0) (length (replicate (toNat (wrap i64 p1)) (0:Int)))):Int) (over (replicate (toNat (wrap i64 p1)) (0:Int)) 0 (take (length (replicate (toNat (wrap i64 p1)) (0:Int))) p0))) fun y5=>k (E_89_1.e0 y5)))
noncomputable def Sp.J_89_1(p0:List Int)(p1:Int):Option E_89_1:=S_89_1 some p0 p1
noncomputable def O_89_1{R:Type}:Orc R:=orL T_89_1 (fun a=>J_89_1 a.1 a.2.1) Y_89_1
theorem OK_89_1{R:Type}:okF (R:=R) sm_89 0 (ni (nf 89 0) 0) O_89_1:=jp noO_ok (os:=[O_89_2]) ⟨OK_89_2,trivial⟩ T_89_1 (fun R k a=>S_89_1 k a.1 a.2.1) Y_89_1 (fun k a=>by kernel_rfl) (fun Y a=>by
 unfold S_89_1
 repeat' first|apply gdN|apply condN|(apply Bn_89_2<;>intros)|rfl) (ok0 _)
noncomputable def T_89_0:PS:=⟨48,[(0,.hv (.slice (.int .u32))),(1,.hv (.int .i64))],[],0⟩
inductive Sp.E_89_0 where
 |e0 (y1:List Int)
noncomputable def Sp.B_89_0{R:Type}(r:Option E_89_0)(k0:List Int->Option R):Option R:=match r with
 |none=>none
 |some (.e0 y1)=>k0 y1
noncomputable def Y_89_0{R:Type}(k:Ex->St->Option R):E_89_0->Option R
 | .e0 y1=>k Ex.ret (sx 48 [(4,CV.whole 0)] [Blk.vec 42 (Ty.int u32) y1])
noncomputable def Sp.S_89_0{R:Type}(k:E_89_0->Option R)(p0:List Int)(p1:Int):Option R:=
 gd (p_102 (wrap u64 (↑(length p0):Int)) (wrap u64 p1)) (bif decide ((v_102 (wrap u64 (↑(length p0):Int)) (wrap u64 p1)).1>0)then none else bif decide ((v_102 (wrap u64 (↑(length p0):Int)) (wrap u64 p1)).2.1>9223372036854775807)then none else B_89_1 (J_89_1 p0 ((v_102 (wrap u64 (↑(length p0):Int)) (wrap u64 p1)).2.1)) fun y1=>k (E_89_0.e0 y1))
noncomputable def Sp.J_89_0(p0:List Int)(p1:Int):Option E_89_0:=S_89_0 some p0 p1
noncomputable def O_89_0{R:Type}:Orc R:=orL T_89_0 (fun a=>J_89_0 a.1 a.2.1) Y_89_0
theorem OK_89_0{R:Type}:okF (R:=R) sm_89 0 (nf 89 0) O_89_0:=jp noO_ok (os:=[O_89_1]) ⟨OK_89_1,trivial⟩ T_89_0 (fun R k a=>S_89_0 k a.1 a.2.1) Y_89_0 (fun k a=>by kernel_rfl) (fun Y a=>by
 unfold S_89_0
 repeat' first|apply gdN|apply condN|(apply Bn_89_1<;>intros)|rfl) (ok0 _)
noncomputable def F_89(a0:(List Int))(a1:Int):Option ((List Int)×Unit) :=
 bif decide (a1<0)then none else B_89_0 (J_89_0 a0 a1) fun y1=>some (y1,PUnit.unit)
noncomputable def Sp.p_89(a0:(List Int))(a1:Int):Bool:=(F_89 a0 a1).isSome
noncomputable def Sp.v_89(a0:(List Int))(a1:Int):(List Int)×Unit:=(F_89 a0 a1).getD (dfH R_89)
noncomputable def s_89:Summ:=shS A_89 R_89 (fun x=>p_89 x.1 x.2.1) (fun x=>v_89 x.1 x.2.1)
theorem run_89(x:HDen A_89)(y:HDen R_89)(h:F_89 x.1 x.2.1=some y):rnF sm_89 1 89 A_89 R_89 x y:=runG noO_ok (os:=[O_89_0]) ⟨OK_89_0,trivial⟩ (Eq.trans (by kernel_rfl) h)
end
noncomputable section
abbrev A_53:List Ty:=[(.int .i64),(.int .i64)]
abbrev R_53:List Ty:=[(.pair (.slice (.int .u32)) (.pair (.slice (.int .i64)) (.pair (.int .i64) .unit))),(.int .i64)]
noncomputable def sm_53:Nat->Option Summ:=smL [(89,s_89)]
noncomputable def F_53(a0 a1:Int):Option (((List Int)×((List Int)×(Int×Unit)))×Int×Unit) :=
 bif decide (a0<1)then some (([],[],0,PUnit.unit),2,PUnit.unit)else bif decide (a0>64)then some (([],[],0,PUnit.unit),2,PUnit.unit)else bif decide (a1<1)then some (([],[],0,PUnit.unit),2,PUnit.unit)else bif decide (a1>1000000)then some (([],[],0,PUnit.unit),2,PUnit.unit)else gd (p_89 [4294967295] (wrap i64 (a0*64))) (gd (decide (0<=a0)&&(a0==a0&&room (toNat a0) 8)) (some (((v_89 [4294967295] (wrap i64 (a0*64))).1,replicate (toNat a0) (0:Int),a1,PUnit.unit),0,PUnit.unit)))
noncomputable def Sp.p_53(a0 a1:Int):Bool:=(F_53 a0 a1).isSome
noncomputable def Sp.v_53(a0 a1:Int):((List Int)×((List Int)×(Int×Unit)))×Int×Unit:=(F_53 a0 a1).getD (dfH R_53)
noncomputable def s_53:Summ:=shS A_53 R_53 (fun x=>p_53 x.1 x.2.1) (fun x=>v_53 x.1 x.2.1)
theorem run_53(x:HDen A_53)(y:HDen R_53)(h:F_53 x.1 x.2.1=some y):rnF sm_53 1 53 A_53 R_53 x y:=runG noO_ok (os:=[]) trivial (Eq.trans (by kernel_rfl) h)
end
noncomputable section
abbrev A_22:List Ty:=[(.int .i64),(.int .i64),(.arr 32 (.int .u8))]
abbrev R_22:List Ty:=[(.pair (.pair (.slice (.int .u32)) (.pair (.slice (.int .i64)) (.pair (.int .i64) .unit))) (.pair (.arr 32 (.int .u8)) .unit)),(.int .i64)]
noncomputable def sm_22:Nat->Option Summ:=smL [(41,s_41),(53,s_53)]
noncomputable def F_22(a0 a1:Int)(a2:(List Int)):Option ((((List Int)×((List Int)×(Int×Unit)))×((List Int)×Unit))×Int×Unit) :=
 gd (p_41 a0) (bif !(v_41 a0).1 then some ((([],[],0,PUnit.unit),replicate 32 (0:Int),PUnit.unit),2,PUnit.unit)else gd (p_53 a0 a1) (bif(v_53 a0 a1).2.1 !=0 then some ((([],[],0,PUnit.unit),replicate 32 (0:Int),PUnit.unit),2,PUnit.unit)else some (((v_53 a0 a1).1,a2,PUnit.unit),0,PUnit.unit)))
noncomputable def Sp.p_22(a0 a1:Int)(a2:(List Int)):Bool:=(F_22 a0 a1 a2).isSome
noncomputable def Sp.v_22(a0 a1:Int)(a2:(List Int)):(((List Int)×((List Int)×(Int×Unit)))×((List Int)×Unit))×Int×Unit:=(F_22 a0 a1 a2).getD (dfH R_22)
noncomputable def s_22:Summ:=shS A_22 R_22 (fun x=>p_22 x.1 x.2.1 x.2.2.1) (fun x=>v_22 x.1 x.2.1 x.2.2.1)
theorem run_22(x:HDen A_22)(y:HDen R_22)(h:F_22 x.1 x.2.1 x.2.2.1=some y):rnF sm_22 1 22 A_22 R_22 x y:=runG noO_ok (os:=[]) trivial (Eq.trans (by kernel_rfl) h)
end
noncomputable section
abbrev A_10:List Ty:=[]
abbrev R_10:List Ty:=[.bool]
noncomputable def sm_10:Nat->Option Summ:=smL [(14,s_14),(17,s_17),(22,s_22)]
noncomputable def F_10:Option (Bool×Unit) :=
 gd (p_22 18 10 ([1]++replicate 31 (0:Int))) (gd (p_14 ((v_22 18 10 ([1]++replicate 31 (0:Int))).1) 0) (gd (p_17 ((v_22 18 10 ([1]++replicate 31 (0:Int))).1)) (bif(v_22 18 10 ([1]++replicate 31 (0:Int))).2.1==0 then bif(↑(length ((v_22 18 10 ([1]++replicate 31 (0:Int))).1.1.1)):Int)==1152 then bif !(v_14 ((v_22 18 10 ([1]++replicate 31 (0:Int))).1) 0).2.1 then some ((v_17 ((v_22 18 10 ([1]++replicate 31 (0:Int))).1)).2.1==7,PUnit.unit)else some (false,PUnit.unit)else some (false,PUnit.unit)else some (false,PUnit.unit))))
noncomputable def Sp.p_10:Bool:=(F_10).isSome
noncomputable def Sp.v_10:Bool×Unit:=(F_10).getD (dfH R_10)
noncomputable def s_10:Summ:=shN A_10 R_10 (fun x=>p_10) (fun x=>v_10)
theorem pv_10{y:Bool×Unit}(h:F_10=some y):p_10=true/\v_10=y:=pvG h
theorem run_10(x:HDen A_10)(y:HDen R_10)(h:F_10=some y):rnF sm_10 1 10 A_10 R_10 x y:=runG noO_ok (os:=[]) trivial (Eq.trans (by kernel_rfl) h)
end
noncomputable section
abbrev A_11:List Ty:=[(.pair (.pair (.slice (.int .u32)) (.pair (.slice (.int .i64)) (.pair (.int .i64) .unit))) (.pair (.arr 32 (.int .u8)) .unit))]
abbrev R_11:List Ty:=[.bool]
noncomputable def sm_11:Nat->Option Summ:=smL []
noncomputable def F_11(a0:(((List Int)×((List Int)×(Int×Unit)))×((List Int)×Unit))):Option (Bool×Unit) :=
 bif decide ((↑(length (a0.1.2.1)):Int)<=70)then some (decide ((↑(length (a0.1.1)):Int)<=4480),PUnit.unit)else some (false,PUnit.unit)
noncomputable def Sp.p_11(a0:(((List Int)×((List Int)×(Int×Unit)))×((List Int)×Unit))):Bool:=(F_11 a0).isSome
noncomputable def Sp.v_11(a0:(((List Int)×((List Int)×(Int×Unit)))×((List Int)×Unit))):Bool×Unit:=(F_11 a0).getD (dfH R_11)
noncomputable def s_11:Summ:=shN A_11 R_11 (fun x=>p_11 x.1) (fun x=>v_11 x.1)
theorem pv_11(a0:(((List Int)×((List Int)×(Int×Unit)))×((List Int)×Unit))){y:Bool×Unit}(h:F_11 a0=some y):p_11 a0=true/\v_11 a0=y:=pvG h
theorem run_11(x:HDen A_11)(y:HDen R_11)(h:F_11 x.1=some y):rnF sm_11 1 11 A_11 R_11 x y:=runG noO_ok (os:=[]) trivial (Eq.trans (by kernel_rfl) h)
end
noncomputable section
abbrev Zy15_0:Ty:=(.pair (.slice (.int .u32)) (.pair (.slice (.int .i64)) (.pair (.int .i64) .unit)))
abbrev Zt15_1:Type:=List Int×List Int×Int×Unit
abbrev A_15:List Ty:=[(.pair (.slice (.int .u32)) (.pair (.slice (.int .i64)) (.pair (.int .i64) .unit)))]
abbrev R_15:List Ty:=[(.pair (.slice (.int .u32)) (.pair (.slice (.int .i64)) (.pair (.int .i64) .unit)))]
noncomputable def sm_15:Nat->Option Summ:=smL []
noncomputable def T_15_0:PS:=⟨44,[(1,.kc (.ptr 0 [])),(2,.kc (.ptr 1 [])),(3,.kc (.ptr 4 [])),(4,.hv (.int .i64))],[.mem (.hv Zy15_0),.mem (.pr (.kc (.whole 2)) (.pr (.kc (.whole 3)) (.hv (.pair (.int .i64) .unit)))),.vec 42 (.int .u32),.vec 3 (.int .i64),.mem (.pr (.kc (.whole 5)) (.pr (.kc (.whole 6)) (.hv (.pair (.int .i64) .unit)))),.vec 42 (.int .u32),.vec 3 (.int .i64)],0⟩
inductive Sp.E_15_0 where
 |e0 (p1:Zt15_1) (p2:Int×Unit) (p3 p4:List Int) (p5:Int×Unit) (p6 p7:List Int)
noncomputable def Sp.B_15_0{R:Type}(r:Option E_15_0)(k0:Zt15_1->(Int×Unit)->List Int->List Int->(Int×Unit)->List Int->List Int->Option R):Option R:=match r with
 |none=>none
 |some (.e0 p1 p2 p3 p4 p5 p6 p7)=>k0 p1 p2 p3 p4 p5 p6 p7
noncomputable def Y_15_0{R:Type}(k:Ex->St->Option R):E_15_0->Option R
 | .e0 p1 p2 p3 p4 p5 p6 p7=>k (Ex.exit 0) (sx 44 [(1,CV.ptr 0 []),(2,CV.ptr 1 []),(3,CV.ptr 4 [])] [Blk.mem (CV.pure (Ty.pair (Ty.slice (Ty.int u32)) (Ty.pair (Ty.slice (Ty.int i64)) (Ty.pair (Ty.int i64) Ty.unit))) p1),Blk.mem (CV.pair (CV.whole 2) (CV.pair (CV.whole 3) (CV.pure (Ty.pair (Ty.int i64) Ty.unit) p2))),Blk.vec 42 (Ty.int u32) p3,Blk.vec 3 (Ty.int i64) p4,Blk.mem (CV.pair (CV.whole 5) (CV.pair (CV.whole 6) (CV.pure (Ty.pair (Ty.int i64) Ty.unit) p5))),Blk.vec 42 (Ty.int u32) p6,Blk.vec 3 (Ty.int i64) p7])
noncomputable def Sp.S_15_0{R:Type}(K:Int->(List Int×List Int×Int×Unit)->(Int×Unit)->List Int->List Int->(Int×Unit)->List Int->List Int->Option R)(k:E_15_0->Option R)(p0:Int)(p1:List Int×List Int×Int×Unit)(p2:Int×Unit)(p3 p4:List Int)(p5:Int×Unit)(p6 p7:List Int):Option R:=
 bif decide (p0<(↑(length (p1.1)):Int))then gd (inB p0 (length (p1.1))) (gd (room (length p6+1) 4) (K (wrap i64 (p0+1)) p1 p2 p3 p4 p5 (p6++[getD (p1.1) (toNat p0) 0]) p7))else k (E_15_0.e0 p1 p2 p3 p4 p5 p6 p7)
noncomputable def Sp.L_15_0:Nat->Int->(List Int×List Int×Int×Unit)->(Int×Unit)->List Int->List Int->(Int×Unit)->List Int->List Int->Option E_15_0
 |0,_,_,_,_,_,_,_,_=>none
 |m+1,p0,p1,p2,p3,p4,p5,p6,p7=>S_15_0 (L_15_0 m) some p0 p1 p2 p3 p4 p5 p6 p7
noncomputable def l_15_0(m:Nat)(a:T_15_0.E):Option E_15_0:=L_15_0 m a.1 a.2.1 a.2.2.1 a.2.2.2.1 a.2.2.2.2.1 a.2.2.2.2.2.1 a.2.2.2.2.2.2.1 a.2.2.2.2.2.2.2.1
noncomputable def O_15_0{R:Type}:Orc R:=orL T_15_0 (l_15_0 FU) Y_15_0
theorem OK_15_0{R:Type}:okF (R:=R) sm_15 0 (nf 15 0) O_15_0:=lp0 T_15_0 l_15_0 (fun R K k a=>S_15_0 (fun p0 p1 p2 p3 p4 p5 p6 p7=>K (p0,p1,p2,p3,p4,p5,p6,p7,())) k a.1 a.2.1 a.2.2.1 a.2.2.2.1 a.2.2.2.2.1 a.2.2.2.2.2.1 a.2.2.2.2.2.2.1 a.2.2.2.2.2.2.2.1) Y_15_0 (fun _ _ _=>by kernel_rfl) (fun _ _ _=>by
 unfold S_15_0
 repeat' first|apply gdN|apply condN|rfl) (ok0 _)
noncomputable def T_15_1:PS:=⟨44,[(1,.kc (.ptr 0 [])),(2,.kc (.ptr 1 [])),(3,.kc (.ptr 4 [])),(5,.hv (.int .i64))],[.mem (.hv Zy15_0),.mem (.pr (.kc (.whole 2)) (.pr (.kc (.whole 3)) (.hv (.pair (.int .i64) .unit)))),.vec 42 (.int .u32),.vec 3 (.int .i64),.mem (.pr (.kc (.whole 5)) (.pr (.kc (.whole 6)) (.hv (.pair (.int .i64) .unit)))),.vec 42 (.int .u32),.vec 3 (.int .i64)],0⟩
inductive Sp.E_15_1 where
 |e0 (p2:Int×Unit) (p3 p4:List Int) (p5:Int×Unit) (p6 p7:List Int)
noncomputable def Sp.B_15_1{R:Type}(r:Option E_15_1)(k0:(Int×Unit)->List Int->List Int->(Int×Unit)->List Int->List Int->Option R):Option R:=match r with
 |none=>none
 |some (.e0 p2 p3 p4 p5 p6 p7)=>k0 p2 p3 p4 p5 p6 p7
noncomputable def Y_15_1{R:Type}(k:Ex->St->Option R):E_15_1->Option R
 | .e0 p2 p3 p4 p5 p6 p7=>k (Ex.exit 2) (sx 44 [(2,CV.ptr 0 []),(3,CV.ptr 3 [])] [Blk.mem (CV.pair (CV.whole 1) (CV.pair (CV.whole 2) (CV.pure (Ty.pair (Ty.int i64) Ty.unit) p2))),Blk.vec 42 (Ty.int u32) p3,Blk.vec 3 (Ty.int i64) p4,Blk.mem (CV.pair (CV.whole 4) (CV.pair (CV.whole 5) (CV.pure (Ty.pair (Ty.int i64) Ty.unit) p5))),Blk.vec 42 (Ty.int u32) p6,Blk.vec 3 (Ty.int i64) p7])
noncomputable def Sp.S_15_1{R:Type}(K:Int->(List Int×List Int×Int×Unit)->(Int×Unit)->List Int->List Int->(Int×Unit)->List Int->List Int->Option R)(k:E_15_1->Option R)(p0:Int)(p1:List Int×List Int×Int×Unit)(p2:Int×Unit)(p3 p4:List Int)(p5:Int×Unit)(p6 p7:List Int):Option R:=
 bif decide (p0<(↑(length (p1.2.1)):Int))then gd (inB p0 (length (p1.2.1))) (gd (room (length p7+1) 8) (K (wrap i64 (p0+1)) p1 p2 p3 p4 p5 p6 (p7++[getD (p1.2.1) (toNat p0) 0])))else k (E_15_1.e0 p2 p3 p4 p5 p6 p7)
noncomputable def Sp.L_15_1:Nat->Int->(List Int×List Int×Int×Unit)->(Int×Unit)->List Int->List Int->(Int×Unit)->List Int->List Int->Option E_15_1
 |0,_,_,_,_,_,_,_,_=>none
 |m+1,p0,p1,p2,p3,p4,p5,p6,p7=>S_15_1 (L_15_1 m) some p0 p1 p2 p3 p4 p5 p6 p7
noncomputable def l_15_1(m:Nat)(a:T_15_1.E):Option E_15_1:=L_15_1 m a.1 a.2.1 a.2.2.1 a.2.2.2.1 a.2.2.2.2.1 a.2.2.2.2.2.1 a.2.2.2.2.2.2.1 a.2.2.2.2.2.2.2.1
noncomputable def O_15_1{R:Type}:Orc R:=orL T_15_1 (l_15_1 FU) Y_15_1
theorem OK_15_1{R:Type}:okF (R:=R) sm_15 0 (nf 15 1) O_15_1:=lp0 T_15_1 l_15_1 (fun R K k a=>S_15_1 (fun p0 p1 p2 p3 p4 p5 p6 p7=>K (p0,p1,p2,p3,p4,p5,p6,p7,())) k a.1 a.2.1 a.2.2.1 a.2.2.2.1 a.2.2.2.2.1 a.2.2.2.2.2.1 a.2.2.2.2.2.2.1 a.2.2.2.2.2.2.2.1) Y_15_1 (fun _ _ _=>by kernel_rfl) (fun _ _ _=>by
 unfold S_15_1
 repeat' first|apply gdN|apply condN|rfl) (ok0 _)
noncomputable def F_15(a0:((List Int)×((List Int)×(Int×Unit)))):Option (((List Int)×((List Int)×(Int×Unit)))×Unit) :=
 B_15_0 (L_15_0 4611686018427387904 0 a0 (0,PUnit.unit) [] [] (a0.2.2.1,PUnit.unit) [] []) fun y13 y14 y15 y16 y17 y18 y19=>B_15_1 (L_15_1 4611686018427387904 0 y13 y14 y15 y16 y17 y18 y19) fun y20 y21 y22 y23 y24 y25=>some ((y24,y25,y23),PUnit.unit)
noncomputable def Sp.p_15(a0:((List Int)×((List Int)×(Int×Unit)))):Bool:=(F_15 a0).isSome
noncomputable def Sp.v_15(a0:((List Int)×((List Int)×(Int×Unit)))):((List Int)×((List Int)×(Int×Unit)))×Unit:=(F_15 a0).getD (dfH R_15)
noncomputable def s_15:Summ:=ownS A_15 42 [] Zy15_0 [] (fun x=>p_15 x.1) (fun x=>v_15 x.1)
theorem pv_15(a0:((List Int)×((List Int)×(Int×Unit)))){y:((List Int)×((List Int)×(Int×Unit)))×Unit}(h:F_15 a0=some y):p_15 a0=true/\v_15 a0=y:=pvG h
theorem run_15(x:HDen A_15)(y:HDen R_15)(h:F_15 x.1=some y):evFn sm_15 fns FU 1 15 (ofH A_15 x) [] (ownK 42 [] Zy15_0 [])=some y:=runG noO_ok (os:=[O_15_0,O_15_1]) ⟨OK_15_0,OK_15_1,trivial⟩ (Eq.trans (by kernel_rfl) h)
end
noncomputable section
abbrev A_54:List Ty:=[(.int .i64)]
abbrev R_54:List Ty:=[.bool]
noncomputable def sm_54:Nat->Option Summ:=smL []
noncomputable def F_54(a0:Int):Option (Bool×Unit) :=
 bif decide (a0>=18)then bif decide (a0<=64)then some (Int.tmod a0 (2:Int)==(0:Int),PUnit.unit)else some (false,PUnit.unit)else some (false,PUnit.unit)
noncomputable def Sp.p_54(a0:Int):Bool:=(F_54 a0).isSome
noncomputable def Sp.v_54(a0:Int):Bool×Unit:=(F_54 a0).getD (dfH R_54)
noncomputable def s_54:Summ:=shN A_54 R_54 (fun x=>p_54 x.1) (fun x=>v_54 x.1)
theorem pv_54(a0:Int){y:Bool×Unit}(h:F_54 a0=some y):p_54 a0=true/\v_54 a0=y:=pvG h
theorem run_54(x:HDen A_54)(y:HDen R_54)(h:F_54 x.1=some y):rnF sm_54 1 54 A_54 R_54 x y:=runG noO_ok (os:=[]) trivial (Eq.trans (by kernel_rfl) h)
end
noncomputable section
abbrev A_90:List Ty:=[(.int .i64)]
abbrev R_90:List Ty:=[.bool]
noncomputable def sm_90:Nat->Option Summ:=smL []
noncomputable def F_90(a0:Int):Option (Bool×Unit) :=
 bif decide (a0>=1)then some (decide (a0<=1000000),PUnit.unit)else some (false,PUnit.unit)
noncomputable def Sp.p_90(a0:Int):Bool:=(F_90 a0).isSome
noncomputable def Sp.v_90(a0:Int):Bool×Unit:=(F_90 a0).getD (dfH R_90)
noncomputable def s_90:Summ:=shN A_90 R_90 (fun x=>p_90 x.1) (fun x=>v_90 x.1)
theorem pv_90(a0:Int){y:Bool×Unit}(h:F_90 a0=some y):p_90 a0=true/\v_90 a0=y:=pvG h
theorem run_90(x:HDen A_90)(y:HDen R_90)(h:F_90 x.1=some y):rnF sm_90 1 90 A_90 R_90 x y:=runG noO_ok (os:=[]) trivial (Eq.trans (by kernel_rfl) h)
end
noncomputable section
abbrev A_56:List Ty:=[(.pair (.slice (.int .u32)) (.pair (.slice (.int .i64)) (.pair (.int .i64) .unit)))]
abbrev R_56:List Ty:=[.bool]
noncomputable def sm_56:Nat->Option Summ:=smL [(90,s_90)]
noncomputable def T_56_0:PS:=⟨49,[(1,.kc (.ptr 0 [])),(3,.hv (.int .i64)),(4,.hv (.int .i64))],[.mem (.hv (.pair (.slice (.int .u32)) (.pair (.slice (.int .i64)) (.pair (.int .i64) .unit))))],0⟩
inductive Sp.E_56_0 where
 |e0
 |e1
noncomputable def Sp.B_56_0{R:Type}(r:Option E_56_0)(k0 k1:Option R):Option R:=match r with
 |none=>none
 |some (.e0)=>k0
 |some (.e1)=>k1
noncomputable def Y_56_0{R:Type}(k:Ex->St->Option R):E_56_0->Option R
 | .e0=>k Ex.ret (sx 49 [(2,CV.bool false)] [])
 | .e1=>k (Ex.exit 0) (sx 49 [] [])
noncomputable def Sp.S_56_0{R:Type}(K:Int->Int->(List Int×List Int×Int×Unit)->Option R)(k:E_56_0->Option R)(p0 p1:Int)(p2:List Int×List Int×Int×Unit):Option R:=
 bif decide (p1<p0)then gd (inB p1 (length (p2.2.1))) (bif decide (getD (p2.2.1) (toNat p1) (0:Int)<(0:Int))then k (E_56_0.e0)else gd (inB p1 (length (p2.2.1))) (bif decide (getD (p2.2.1) (toNat p1) 0>p2.2.2.1)then k (E_56_0.e0)else K p0 (wrap i64 (p1+1)) p2))else k (E_56_0.e1)
noncomputable def Sp.L_56_0:Nat->Int->Int->(List Int×List Int×Int×Unit)->Option E_56_0
 |0,_,_,_=>none
 |m+1,p0,p1,p2=>S_56_0 (L_56_0 m) some p0 p1 p2
noncomputable def l_56_0(m:Nat)(a:T_56_0.E):Option E_56_0:=L_56_0 m a.1 a.2.1 a.2.2.1
noncomputable def O_56_0{R:Type}:Orc R:=orL T_56_0 (l_56_0 FU) Y_56_0
theorem OK_56_0{R:Type}:okF (R:=R) sm_56 0 (nf 56 0) O_56_0:=lp0 T_56_0 l_56_0 (fun R K k a=>S_56_0 (fun p0 p1 p2=>K (p0,p1,p2,())) k a.1 a.2.1 a.2.2.1) Y_56_0 (fun _ _ _=>by kernel_rfl) (fun _ _ _=>by
 unfold S_56_0
 repeat' first|apply gdN|apply condN|rfl) (ok0 _)
noncomputable def F_56(a0:((List Int)×((List Int)×(Int×Unit)))):Option (Bool×Unit) :=
 bif decide ((↑(length (a0.2.1)):Int)<1)then some (false,PUnit.unit)else bif decide ((↑(length (a0.2.1)):Int)>64)then some (false,PUnit.unit)else bif(↑(length (a0.1)):Int)!=wrap i64 ((↑(length (a0.2.1)):Int)*64)then some (false,PUnit.unit)else gd (p_90 (a0.2.2.1)) (bif !(v_90 (a0.2.2.1)).1 then some (false,PUnit.unit)else B_56_0 (L_56_0 4611686018427387904 (↑(length (a0.2.1)):Int) 0 a0) (some (false,PUnit.unit)) (some (true,PUnit.unit)))
noncomputable def Sp.p_56(a0:((List Int)×((List Int)×(Int×Unit)))):Bool:=(F_56 a0).isSome
noncomputable def Sp.v_56(a0:((List Int)×((List Int)×(Int×Unit)))):Bool×Unit:=(F_56 a0).getD (dfH R_56)
noncomputable def s_56:Summ:=shN A_56 R_56 (fun x=>p_56 x.1) (fun x=>v_56 x.1)
theorem pv_56(a0:((List Int)×((List Int)×(Int×Unit)))){y:Bool×Unit}(h:F_56 a0=some y):p_56 a0=true/\v_56 a0=y:=pvG h
theorem run_56(x:HDen A_56)(y:HDen R_56)(h:F_56 x.1=some y):rnF sm_56 1 56 A_56 R_56 x y:=runG noO_ok (os:=[O_56_0]) ⟨OK_56_0,trivial⟩ (Eq.trans (by kernel_rfl) h)
end
noncomputable section
abbrev A_25:List Ty:=[(.pair (.pair (.slice (.int .u32)) (.pair (.slice (.int .i64)) (.pair (.int .i64) .unit))) (.pair (.arr 32 (.int .u8)) .unit))]
abbrev R_25:List Ty:=[.bool]
noncomputable def sm_25:Nat->Option Summ:=smL [(54,s_54),(56,s_56)]
noncomputable def F_25(a0:(((List Int)×((List Int)×(Int×Unit)))×((List Int)×Unit))):Option (Bool×Unit) :=
 gd (p_56 (a0.1)) (bif(v_56 (a0.1)).1 then gd (p_54 (↑(length (a0.1.2.1)):Int)) (some ((v_54 (↑(length (a0.1.2.1)):Int)).1,PUnit.unit))else some (false,PUnit.unit))
noncomputable def Sp.p_25(a0:(((List Int)×((List Int)×(Int×Unit)))×((List Int)×Unit))):Bool:=(F_25 a0).isSome
noncomputable def Sp.v_25(a0:(((List Int)×((List Int)×(Int×Unit)))×((List Int)×Unit))):Bool×Unit:=(F_25 a0).getD (dfH R_25)
noncomputable def s_25:Summ:=shN A_25 R_25 (fun x=>p_25 x.1) (fun x=>v_25 x.1)
theorem pv_25(a0:(((List Int)×((List Int)×(Int×Unit)))×((List Int)×Unit))){y:Bool×Unit}(h:F_25 a0=some y):p_25 a0=true/\v_25 a0=y:=pvG h
theorem run_25(x:HDen A_25)(y:HDen R_25)(h:F_25 x.1=some y):rnF sm_25 1 25 A_25 R_25 x y:=runG noO_ok (os:=[]) trivial (Eq.trans (by kernel_rfl) h)
end
noncomputable section
abbrev A_48:List Ty:=[(.pair (.pair (.slice (.int .u32)) (.pair (.slice (.int .i64)) (.pair (.int .i64) .unit))) (.pair (.arr 32 (.int .u8)) .unit)),(.int .i64)]
abbrev R_48:List Ty:=[(.slice (.int .u32))]
noncomputable def sm_48:Nat->Option Summ:=smL []
noncomputable def F_48(a0:(((List Int)×((List Int)×(Int×Unit)))×((List Int)×Unit)))(a1:Int):Option ((List Int)×Unit) :=
 gd (sl3 (wrap i64 (a1*wrap i64 (Int.tdiv (↑(length (a0.1.1)):Int) 2))) (wrap i64 (wrap i64 (a1+1)*wrap i64 (Int.tdiv (↑(length (a0.1.1)):Int) 2))) (↑(length (a0.1.1)):Int)) (some (take (toNat (wrap i64 (wrap i64 (a1+1)*wrap i64 (Int.tdiv (↑(length (a0.1.1)):Int) 2)))-toNat (wrap i64 (a1*wrap i64 (Int.tdiv (↑(length (a0.1.1)):Int) 2)))) (drop (toNat (wrap i64 (a1*wrap i64 (Int.tdiv (↑(length (a0.1.1)):Int) 2)))) (a0.1.1)),PUnit.unit))
noncomputable def Sp.p_48(a0:(((List Int)×((List Int)×(Int×Unit)))×((List Int)×Unit)))(a1:Int):Bool:=(F_48 a0 a1).isSome
noncomputable def Sp.v_48(a0:(((List Int)×((List Int)×(Int×Unit)))×((List Int)×Unit)))(a1:Int):(List Int)×Unit:=(F_48 a0 a1).getD (dfH R_48)
noncomputable def s_48:Summ:=shS A_48 R_48 (fun x=>p_48 x.1 x.2.1) (fun x=>v_48 x.1 x.2.1)
theorem pv_48(a0:(((List Int)×((List Int)×(Int×Unit)))×((List Int)×Unit)))(a1:Int){y:(List Int)×Unit}(h:F_48 a0 a1=some y):p_48 a0 a1=true/\v_48 a0 a1=y:=pvG h
theorem run_48(x:HDen A_48)(y:HDen R_48)(h:F_48 x.1 x.2.1=some y):rnF sm_48 1 48 A_48 R_48 x y:=runG noO_ok (os:=[]) trivial (Eq.trans (by kernel_rfl) h)
end
noncomputable section
abbrev A_57:List Ty:=[(.int .i64)]
abbrev R_57:List Ty:=[.bool]
noncomputable def sm_57:Nat->Option Summ:=smL []
noncomputable def F_57(a0:Int):Option (Bool×Unit) :=
 bif a0==0 then some (true,PUnit.unit)else some (a0==1,PUnit.unit)
noncomputable def Sp.p_57(a0:Int):Bool:=(F_57 a0).isSome
noncomputable def Sp.v_57(a0:Int):Bool×Unit:=(F_57 a0).getD (dfH R_57)
noncomputable def s_57:Summ:=shN A_57 R_57 (fun x=>p_57 x.1) (fun x=>v_57 x.1)
theorem pv_57(a0:Int){y:Bool×Unit}(h:F_57 a0=some y):p_57 a0=true/\v_57 a0=y:=pvG h
theorem run_57(x:HDen A_57)(y:HDen R_57)(h:F_57 x.1=some y):rnF sm_57 1 57 A_57 R_57 x y:=runG noO_ok (os:=[]) trivial (Eq.trans (by kernel_rfl) h)
end
noncomputable section
abbrev A_58:List Ty:=[(.slice (.int .u32))]
abbrev R_58:List Ty:=[(.arr 32 (.int .u8))]
noncomputable def sm_58:Nat->Option Summ:=smL []
noncomputable def T_58_1:PS:=⟨29,[(0,.hv (.slice (.int .u32))),(2,.kc (.ptr 0 [])),(3,.kc (.ptr 1 [])),(4,.hv (.int .i64)),(5,.hv (.int .i64))],[.mem (.hv (.arr 32 (.int .u8))),.mem (.hv (.arr 32 (.int .u8)))],0⟩
inductive Sp.E_58_1 where
 |e0 (p0:List Int) (p1:Int) (p3 p4:List Int)
noncomputable def Sp.B_58_1{R:Type}(r:Option E_58_1)(k0:List Int->Int->List Int->List Int->Option R):Option R:=match r with
 |none=>none
 |some (.e0 p0 p1 p3 p4)=>k0 p0 p1 p3 p4
theorem Bn_58_1{A R:Type}{r:Option E_58_1}{f:A->Option R}{k0:List Int->Int->List Int->List Int->Option A}{l0:List Int->Int->List Int->List Int->Option R}(h0:∀p0 p1 p3 p4,(k0 p0 p1 p3 p4).bind f=l0 p0 p1 p3 p4):(B_58_1 r k0).bind f=B_58_1 r l0:=by
 cases r with
 |none=>rfl
 |some e=>cases e<;>first|apply h0
noncomputable def Y_58_1{R:Type}(k:Ex->St->Option R):E_58_1->Option R
 | .e0 p0 p1 p3 p4=>k (Ex.exit 2) (sx 29 [(0,CV.pure (Ty.slice (Ty.int u32)) p0),(2,CV.ptr 0 []),(3,CV.ptr 1 []),(4,CV.int i64 p1)] [Blk.mem (CV.pure (Ty.arr 32 (Ty.int u8)) p3),Blk.mem (CV.pure (Ty.arr 32 (Ty.int u8)) p4)])
noncomputable def Sp.S_58_1{R:Type}(K:List Int->Int->Int->List Int->List Int->Option R)(k:E_58_1->Option R)(p0:List Int)(p1 p2:Int)(p3 p4:List Int):Option R:=
 bif decide (p2<4)then gd (inB p1 (length p0)) (gd (decide (0<=wrap i64 (24-wrap i64 (8*p2)))) (gd (inB (wrap i64 (wrap i64 (4*p1)+p2)) 32) (gd (decide (toNat (wrap i64 (wrap i64 (4*p1)+p2))<32)&&true) (K p0 p1 (wrap i64 (p2+1)) p3 (List.set p4 (toNat (wrap i64 (wrap i64 (4*p1)+p2))) (wrap u8 (Int.fdiv (getD p0 (toNat p1) 0) (2^Nat.min (toNat (wrap i64 (24-wrap i64 (8*p2)))) 32))))))))else k (E_58_1.e0 p0 p1 p3 p4)
noncomputable def Sp.L_58_1:Nat->List Int->Int->Int->List Int->List Int->Option E_58_1
 |0,_,_,_,_,_=>none
 |m+1,p0,p1,p2,p3,p4=>S_58_1 (L_58_1 m) some p0 p1 p2 p3 p4
noncomputable def l_58_1(m:Nat)(a:T_58_1.E):Option E_58_1:=L_58_1 m a.1 a.2.1 a.2.2.1 a.2.2.2.1 a.2.2.2.2.1
noncomputable def O_58_1{R:Type}:Orc R:=orL T_58_1 (l_58_1 FU) Y_58_1
theorem OK_58_1{R:Type}:okF (R:=R) sm_58 0 (ni (nf 58 0) 0) O_58_1:=lp0 T_58_1 l_58_1 (fun R K k a=>S_58_1 (fun p0 p1 p2 p3 p4=>K (p0,p1,p2,p3,p4,())) k a.1 a.2.1 a.2.2.1 a.2.2.2.1 a.2.2.2.2.1) Y_58_1 (fun _ _ _=>by kernel_rfl) (fun _ _ _=>by
 unfold S_58_1
 repeat' first|apply gdN|apply condN|rfl) (ok0 _)
noncomputable def T_58_0:PS:=⟨29,[(0,.hv (.slice (.int .u32))),(2,.kc (.ptr 0 [])),(3,.kc (.ptr 1 [])),(4,.hv (.int .i64))],[.mem (.hv (.arr 32 (.int .u8))),.mem (.hv (.arr 32 (.int .u8)))],0⟩
inductive Sp.E_58_0 where
 |e0 (p2 p3:List Int)
noncomputable def Sp.B_58_0{R:Type}(r:Option E_58_0)(k0:List Int->List Int->Option R):Option R:=match r with
 |none=>none
 |some (.e0 p2 p3)=>k0 p2 p3
noncomputable def Y_58_0{R:Type}(k:Ex->St->Option R):E_58_0->Option R
 | .e0 p2 p3=>k (Ex.exit 0) (sx 29 [(2,CV.ptr 0 []),(3,CV.ptr 1 [])] [Blk.mem (CV.pure (Ty.arr 32 (Ty.int u8)) p2),Blk.mem (CV.pure (Ty.arr 32 (Ty.int u8)) p3)])
noncomputable def Sp.S_58_0{R:Type}(K:List Int->Int->List Int->List Int->Option R)(k:E_58_0->Option R)(p0:List Int)(p1:Int)(p2 p3:List Int):Option R:=
 bif decide (p1<8)then B_58_1 (L_58_1 4611686018427387904 p0 p1 0 p2 p3) fun y4 y5 y6 y7=>K y4 (wrap i64 (y5+1)) y6 y7 else k (E_58_0.e0 p2 p3)
noncomputable def Sp.L_58_0:Nat->List Int->Int->List Int->List Int->Option E_58_0
 |0,_,_,_,_=>none
 |m+1,p0,p1,p2,p3=>S_58_0 (L_58_0 m) some p0 p1 p2 p3
noncomputable def l_58_0(m:Nat)(a:T_58_0.E):Option E_58_0:=L_58_0 m a.1 a.2.1 a.2.2.1 a.2.2.2.1
noncomputable def O_58_0{R:Type}:Orc R:=orL T_58_0 (l_58_0 FU) Y_58_0
theorem OK_58_0{R:Type}:okF (R:=R) sm_58 0 (nf 58 0) O_58_0:=lp noO_ok (os:=[O_58_1]) ⟨OK_58_1,trivial⟩ T_58_0 l_58_0 (fun R K k a=>S_58_0 (fun p0 p1 p2 p3=>K (p0,p1,p2,p3,())) k a.1 a.2.1 a.2.2.1 a.2.2.2.1) Y_58_0 (fun _=>rfl) (fun _ _=>rfl) (fun k K a=>by kernel_rfl) (fun Y K a=>by
 unfold S_58_0
 repeat' first|apply gdN|apply condN|(apply Bn_58_1<;>intros)|rfl) (ok0 _)
noncomputable def F_58(a0:(List Int)):Option ((List Int)×Unit) :=
 B_58_0 (L_58_0 4611686018427387904 a0 0 (replicate 32 (0:Int)) (replicate 32 (0:Int))) fun y2 y3=>some (y3,PUnit.unit)
noncomputable def Sp.p_58(a0:(List Int)):Bool:=(F_58 a0).isSome
noncomputable def Sp.v_58(a0:(List Int)):(List Int)×Unit:=(F_58 a0).getD (dfH R_58)
noncomputable def s_58:Summ:=shN A_58 R_58 (fun x=>p_58 x.1) (fun x=>v_58 x.1)
theorem pv_58(a0:(List Int)){y:(List Int)×Unit}(h:F_58 a0=some y):p_58 a0=true/\v_58 a0=y:=pvG h
theorem run_58(x:HDen A_58)(y:HDen R_58)(h:F_58 x.1=some y):rnF sm_58 1 58 A_58 R_58 x y:=runG noO_ok (os:=[O_58_0]) ⟨OK_58_0,trivial⟩ (Eq.trans (by kernel_rfl) h)
end
noncomputable section
abbrev Zt59_0:Type:=List (List Int)
abbrev A_59:List Ty:=[(.slice (.int .u32))]
abbrev R_59:List Ty:=[(.pair (.int .i64) (.pair (.slice (.arr 32 (.int .u8))) (.pair (.slice (.arr 32 (.int .u8))) .unit))),.bool]
noncomputable def sm_59:Nat->Option Summ:=smL []
noncomputable def T_59_1:PS:=⟨64,[(0,.hv (.slice (.int .u32))),(2,.kc (.ptr 0 [])),(4,.kc (.ptr 3 [])),(5,.hv (.int .i64)),(6,.kc (.ptr 6 [])),(7,.hv (.int .i64))],[.mem (.pr (.hv (.int .i64)) (.kc (.pair (.whole 1) (.pair (.whole 2) (.pure .unit PUnit.unit))))),.vec 27 (.arr 32 (.int .u8)),.vec 27 (.arr 32 (.int .u8)),.mem (.pr (.hv (.int .i64)) (.kc (.pair (.whole 4) (.pair (.whole 5) (.pure .unit PUnit.unit))))),.vec 27 (.arr 32 (.int .u8)),.vec 27 (.arr 32 (.int .u8)),.mem (.hv (.arr 32 (.int .u8)))],0⟩
inductive Sp.E_59_1 where
 |e0 (p0:List Int) (p1 p3:Int) (p4 p5:Zt59_0) (p6:Int) (p7 p8:Zt59_0) (p9:List Int)
noncomputable def Sp.B_59_1{R:Type}(r:Option E_59_1)(k0:List Int->Int->Int->Zt59_0->Zt59_0->Int->Zt59_0->Zt59_0->List Int->Option R):Option R:=match r with
 |none=>none
 |some (.e0 p0 p1 p3 p4 p5 p6 p7 p8 p9)=>k0 p0 p1 p3 p4 p5 p6 p7 p8 p9
theorem Bn_59_1{A R:Type}{r:Option E_59_1}{f:A->Option R}{k0:List Int->Int->Int->Zt59_0->Zt59_0->Int->Zt59_0->Zt59_0->List Int->Option A}{l0:List Int->Int->Int->Zt59_0->Zt59_0->Int->Zt59_0->Zt59_0->List Int->Option R}(h0:∀p0 p1 p3 p4 p5 p6 p7 p8 p9,(k0 p0 p1 p3 p4 p5 p6 p7 p8 p9).bind f=l0 p0 p1 p3 p4 p5 p6 p7 p8 p9):(B_59_1 r k0).bind f=B_59_1 r l0:=by
 cases r with
 |none=>rfl
 |some e=>cases e<;>first|apply h0
noncomputable def Y_59_1{R:Type}(k:Ex->St->Option R):E_59_1->Option R
 | .e0 p0 p1 p3 p4 p5 p6 p7 p8 p9=>k (Ex.exit 2) (sx 64 [(0,CV.pure (Ty.slice (Ty.int u32)) p0),(2,CV.ptr 0 []),(4,CV.ptr 3 []),(5,CV.int i64 p1),(6,CV.ptr 6 [])] [Blk.mem (CV.pair (CV.int i64 p3) (CV.pair (CV.whole 1) (CV.pair (CV.whole 2) (CV.pure Ty.unit PUnit.unit)))),Blk.vec 27 (Ty.arr 32 (Ty.int u8)) p4,Blk.vec 27 (Ty.arr 32 (Ty.int u8)) p5,Blk.mem (CV.pair (CV.int i64 p6) (CV.pair (CV.whole 4) (CV.pair (CV.whole 5) (CV.pure Ty.unit PUnit.unit)))),Blk.vec 27 (Ty.arr 32 (Ty.int u8)) p7,Blk.vec 27 (Ty.arr 32 (Ty.int u8)) p8,Blk.mem (CV.pure (Ty.arr 32 (Ty.int u8)) p9)])
noncomputable def Sp.S_59_1{R:Type}(K:List Int->Int->Int->Int->List (List Int)->List (List Int)->Int->List (List Int)->List (List Int)->List Int->Option R)(k:E_59_1->Option R)(p0:List Int)(p1 p2 p3:Int)(p4 p5:List (List Int))(p6:Int)(p7 p8:List (List Int))(p9:List Int):Option R:=
 bif decide (p2<32)then gd (inB (wrap i64 (wrap i64 (1+wrap i64 (8*p1))+wrap i64 (Int.tdiv p2 4))) (length p0)) (gd (decide (0<=wrap u64 (wrap i64 (24-wrap i64 (Int.tmod p2 (4:Int)*(8:Int)))))) (gd (inB p2 32) (gd (decide (toNat p2<32)&&true) (K p0 p1 (wrap i64 (p2+1)) p3 p4 p5 p6 p7 p8 (List.set p9 (toNat p2) (wrap u8 (Int.fdiv (getD p0 (toNat (wrap i64 (wrap i64 (1+wrap i64 (8*p1))+wrap i64 (Int.tdiv p2 4)))) 0) (2^Nat.min (toNat (wrap u64 (wrap i64 (24-wrap i64 (Int.tmod p2 (4:Int)*(8:Int)))))) 32))))))))else k (E_59_1.e0 p0 p1 p3 p4 p5 p6 p7 p8 p9)
noncomputable def Sp.L_59_1:Nat->List Int->Int->Int->Int->List (List Int)->List (List Int)->Int->List (List Int)->List (List Int)->List Int->Option E_59_1
 |0,_,_,_,_,_,_,_,_,_,_=>none
 |m+1,p0,p1,p2,p3,p4,p5,p6,p7,p8,p9=>S_59_1 (L_59_1 m) some p0 p1 p2 p3 p4 p5 p6 p7 p8 p9
noncomputable def l_59_1(m:Nat)(a:T_59_1.E):Option E_59_1:=L_59_1 m a.1 a.2.1 a.2.2.1 a.2.2.2.1 a.2.2.2.2.1 a.2.2.2.2.2.1 a.2.2.2.2.2.2.1 a.2.2.2.2.2.2.2.1 a.2.2.2.2.2.2.2.2.1 a.2.2.2.2.2.2.2.2.2.1
noncomputable def O_59_1{R:Type}:Orc R:=orL T_59_1 (l_59_1 FU) Y_59_1
theorem OK_59_1{R:Type}:okF (R:=R) sm_59 0 (ni (nf 59 0) 0) O_59_1:=lp0 T_59_1 l_59_1 (fun R K k a=>S_59_1 (fun p0 p1 p2 p3 p4 p5 p6 p7 p8 p9=>K (p0,p1,p2,p3,p4,p5,p6,p7,p8,p9,())) k a.1 a.2.1 a.2.2.1 a.2.2.2.1 a.2.2.2.2.1 a.2.2.2.2.2.1 a.2.2.2.2.2.2.1 a.2.2.2.2.2.2.2.1 a.2.2.2.2.2.2.2.2.1 a.2.2.2.2.2.2.2.2.2.1) Y_59_1 (fun _ _ _=>by kernel_rfl) (fun _ _ _=>by
 unfold S_59_1
 repeat' first|apply gdN|apply condN|rfl) (ok0 _)
noncomputable def T_59_0:PS:=⟨64,[(0,.hv (.slice (.int .u32))),(2,.kc (.ptr 0 [])),(4,.kc (.ptr 3 [])),(5,.hv (.int .i64))],[.mem (.pr (.hv (.int .i64)) (.kc (.pair (.whole 1) (.pair (.whole 2) (.pure .unit PUnit.unit))))),.vec 27 (.arr 32 (.int .u8)),.vec 27 (.arr 32 (.int .u8)),.mem (.pr (.hv (.int .i64)) (.kc (.pair (.whole 4) (.pair (.whole 5) (.pure .unit PUnit.unit))))),.vec 27 (.arr 32 (.int .u8)),.vec 27 (.arr 32 (.int .u8))],0⟩
inductive Sp.E_59_0 where
 |e0 (p2:Int) (p3 p4:Zt59_0) (p5:Int) (p6 p7:Zt59_0)
noncomputable def Sp.B_59_0{R:Type}(r:Option E_59_0)(k0:Int->Zt59_0->Zt59_0->Int->Zt59_0->Zt59_0->Option R):Option R:=match r with
 |none=>none
 |some (.e0 p2 p3 p4 p5 p6 p7)=>k0 p2 p3 p4 p5 p6 p7
noncomputable def Y_59_0{R:Type}(k:Ex->St->Option R):E_59_0->Option R
 | .e0 p2 p3 p4 p5 p6 p7=>k (Ex.exit 0) (sx 64 [(2,CV.ptr 0 []),(4,CV.ptr 3 [])] [Blk.mem (CV.pair (CV.int i64 p2) (CV.pair (CV.whole 1) (CV.pair (CV.whole 2) (CV.pure Ty.unit PUnit.unit)))),Blk.vec 27 (Ty.arr 32 (Ty.int u8)) p3,Blk.vec 27 (Ty.arr 32 (Ty.int u8)) p4,Blk.mem (CV.pair (CV.int i64 p5) (CV.pair (CV.whole 4) (CV.pair (CV.whole 5) (CV.pure Ty.unit PUnit.unit)))),Blk.vec 27 (Ty.arr 32 (Ty.int u8)) p6,Blk.vec 27 (Ty.arr 32 (Ty.int u8)) p7])
noncomputable def Sp.S_59_0{R:Type}(K:List Int->Int->Int->List (List Int)->List (List Int)->Int->List (List Int)->List (List Int)->Option R)(k:E_59_0->Option R)(p0:List Int)(p1 p2:Int)(p3 p4:List (List Int))(p5:Int)(p6 p7:List (List Int)):Option R:=
 bif decide (p1<69)then B_59_1 (L_59_1 4611686018427387904 p0 p1 0 p2 p3 p4 p5 p6 p7 (replicate 32 (0:Int))) fun y9 y10 y11 y12 y13 y14 y15 y16 y17=>bif decide (y10<67)then gd (room (length y15+1) 32) (K y9 (wrap i64 (y10+1)) y11 y12 y13 y14 (y15++[y17]) y16)else gd (room (length y16+1) 32) (K y9 (wrap i64 (y10+1)) y11 y12 y13 y14 y15 (y16++[y17]))else k (E_59_0.e0 p2 p3 p4 p5 p6 p7)
noncomputable def Sp.L_59_0:Nat->List Int->Int->Int->List (List Int)->List (List Int)->Int->List (List Int)->List (List Int)->Option E_59_0
 |0,_,_,_,_,_,_,_,_=>none
 |m+1,p0,p1,p2,p3,p4,p5,p6,p7=>S_59_0 (L_59_0 m) some p0 p1 p2 p3 p4 p5 p6 p7
noncomputable def l_59_0(m:Nat)(a:T_59_0.E):Option E_59_0:=L_59_0 m a.1 a.2.1 a.2.2.1 a.2.2.2.1 a.2.2.2.2.1 a.2.2.2.2.2.1 a.2.2.2.2.2.2.1 a.2.2.2.2.2.2.2.1
noncomputable def O_59_0{R:Type}:Orc R:=orL T_59_0 (l_59_0 FU) Y_59_0
theorem OK_59_0{R:Type}:okF (R:=R) sm_59 0 (nf 59 0) O_59_0:=lp noO_ok (os:=[O_59_1]) ⟨OK_59_1,trivial⟩ T_59_0 l_59_0 (fun R K k a=>S_59_0 (fun p0 p1 p2 p3 p4 p5 p6 p7=>K (p0,p1,p2,p3,p4,p5,p6,p7,())) k a.1 a.2.1 a.2.2.1 a.2.2.2.1 a.2.2.2.2.1 a.2.2.2.2.2.1 a.2.2.2.2.2.2.1 a.2.2.2.2.2.2.2.1) Y_59_0 (fun _=>rfl) (fun _ _=>rfl) (fun k K a=>by kernel_rfl) (fun Y K a=>by
 unfold S_59_0
 repeat' first|apply gdN|apply condN|(apply Bn_59_1<;>intros)|rfl) (ok0 _)
noncomputable def F_59(a0:(List Int)):Option ((Int×((List (List Int))×((List (List Int))×Unit)))×Bool×Unit) :=
 bif(↑(length a0):Int)!=553 then some ((0,[],[],PUnit.unit),false,PUnit.unit)else gd (inB 0 (length a0)) (bif decide (getD a0 0 (0:Int)>(3:Int))then some ((0,[],[],PUnit.unit),false,PUnit.unit)else gd (inB 0 (length a0)) (B_59_0 (L_59_0 4611686018427387904 a0 0 0 [] [] (wrap i64 (getD a0 0 0)) [] []) fun y6 y7 y8 y9 y10 y11=>some ((y9,y10,y11,PUnit.unit),true,PUnit.unit)))
noncomputable def Sp.p_59(a0:(List Int)):Bool:=(F_59 a0).isSome
noncomputable def Sp.v_59(a0:(List Int)):(Int×((List (List Int))×((List (List Int))×Unit)))×Bool×Unit:=(F_59 a0).getD (dfH R_59)
noncomputable def s_59:Summ:=shS A_59 R_59 (fun x=>p_59 x.1) (fun x=>v_59 x.1)
theorem pv_59(a0:(List Int)){y:(Int×((List (List Int))×((List (List Int))×Unit)))×Bool×Unit}(h:F_59 a0=some y):p_59 a0=true/\v_59 a0=y:=pvG h
theorem run_59(x:HDen A_59)(y:HDen R_59)(h:F_59 x.1=some y):rnF sm_59 1 59 A_59 R_59 x y:=runG noO_ok (os:=[O_59_0]) ⟨OK_59_0,trivial⟩ (Eq.trans (by kernel_rfl) h)
end
noncomputable section
abbrev A_26:List Ty:=[(.pair (.pair (.slice (.int .u32)) (.pair (.slice (.int .i64)) (.pair (.int .i64) .unit))) (.pair (.arr 32 (.int .u8)) .unit)),(.int .i64)]
abbrev R_26:List Ty:=[(.pair (.int .i64) (.pair (.int .i64) (.pair (.arr 32 (.int .u8)) (.pair (.pair (.int .i64) (.pair (.slice (.arr 32 (.int .u8))) (.pair (.slice (.arr 32 (.int .u8))) .unit))) .unit)))),.bool]
noncomputable def sm_26:Nat->Option Summ:=smL [(25,s_25),(48,s_48),(57,s_57),(58,s_58),(59,s_59)]
noncomputable def F_26(a0:(((List Int)×((List Int)×(Int×Unit)))×((List Int)×Unit)))(a1:Int):Option ((Int×(Int×((List Int)×((Int×((List (List Int))×((List (List Int))×Unit)))×Unit))))×Bool×Unit) :=
 gd (p_25 a0) (bif !(v_25 a0).1 then some ((0,0,replicate 32 (0:Int),(0,[],[],PUnit.unit),PUnit.unit),false,PUnit.unit)else gd (p_57 a1) (bif !(v_57 a1).1 then some ((0,0,replicate 32 (0:Int),(0,[],[],PUnit.unit),PUnit.unit),false,PUnit.unit)else gd (p_48 a0 a1) (gd (inB 1 (length ((v_48 a0 a1).1))) (gd (inB 2 (length ((v_48 a0 a1).1))) (gd (sl3 3 11 (↑(length ((v_48 a0 a1).1)):Int)) (gd (p_58 (take 8 (drop 3 ((v_48 a0 a1).1)))) (bif decide (wrap i64 (getD ((v_48 a0 a1).1) 1 0)<1)then some ((0,0,replicate 32 (0:Int),(0,[],[],PUnit.unit),PUnit.unit),false,PUnit.unit)else bif decide (wrap i64 (getD ((v_48 a0 a1).1) 1 0)>=2147483648)then some ((0,0,replicate 32 (0:Int),(0,[],[],PUnit.unit),PUnit.unit),false,PUnit.unit)else bif decide (wrap i64 (getD ((v_48 a0 a1).1) 2 0)<1)then some ((0,0,replicate 32 (0:Int),(0,[],[],PUnit.unit),PUnit.unit),false,PUnit.unit)else bif decide (wrap i64 (getD ((v_48 a0 a1).1) 2 0)>wrap i64 ((↑(length ((v_48 a0 a1).1)):Int)-564))then some ((0,0,replicate 32 (0:Int),(0,[],[],PUnit.unit),PUnit.unit),false,PUnit.unit)else gd (sl3 11 564 (↑(length ((v_48 a0 a1).1)):Int)) (gd (p_59 (take 553 (drop 11 ((v_48 a0 a1).1)))) (bif !(v_59 (take 553 (drop 11 ((v_48 a0 a1).1)))).2.1 then some ((0,0,replicate 32 (0:Int),(0,[],[],PUnit.unit),PUnit.unit),false,PUnit.unit)else some ((wrap i64 (getD ((v_48 a0 a1).1) 1 0),wrap i64 (getD ((v_48 a0 a1).1) 2 0),(v_58 (take 8 (drop 3 ((v_48 a0 a1).1)))).1,(v_59 (take 553 (drop 11 ((v_48 a0 a1).1)))).1,PUnit.unit),true,PUnit.unit))))))))))
noncomputable def Sp.p_26(a0:(((List Int)×((List Int)×(Int×Unit)))×((List Int)×Unit)))(a1:Int):Bool:=(F_26 a0 a1).isSome
noncomputable def Sp.v_26(a0:(((List Int)×((List Int)×(Int×Unit)))×((List Int)×Unit)))(a1:Int):(Int×(Int×((List Int)×((Int×((List (List Int))×((List (List Int))×Unit)))×Unit))))×Bool×Unit:=(F_26 a0 a1).getD (dfH R_26)
noncomputable def s_26:Summ:=shS A_26 R_26 (fun x=>p_26 x.1 x.2.1) (fun x=>v_26 x.1 x.2.1)
theorem pv_26(a0:(((List Int)×((List Int)×(Int×Unit)))×((List Int)×Unit)))(a1:Int){y:(Int×(Int×((List Int)×((Int×((List (List Int))×((List (List Int))×Unit)))×Unit))))×Bool×Unit}(h:F_26 a0 a1=some y):p_26 a0 a1=true/\v_26 a0 a1=y:=pvG h
theorem run_26(x:HDen A_26)(y:HDen R_26)(h:F_26 x.1 x.2.1=some y):rnF sm_26 1 26 A_26 R_26 x y:=runG noO_ok (os:=[]) trivial (Eq.trans (by kernel_rfl) h)
end
noncomputable section
abbrev A_100:List Ty:=[(.slice (.int .u8))]
abbrev R_100:List Ty:=[(.slice (.int .u8))]
noncomputable def sm_100:Nat->Option Summ:=smL []
noncomputable def T_100_0:PS:=⟨36,[(0,.hv (.slice (.int .u8))),(3,.kc (.whole 0))],[.vec 5 (.int .u8)],0⟩
inductive Sp.E_100_0 where
 |e0 (p0 p1:List Int)
noncomputable def Sp.B_100_0{R:Type}(r:Option E_100_0)(k0:List Int->List Int->Option R):Option R:=match r with
 |none=>none
 |some (.e0 p0 p1)=>k0 p0 p1
noncomputable def Y_100_0{R:Type}(k:Ex->St->Option R):E_100_0->Option R
 | .e0 p0 p1=>k (Ex.exit 0) (sx 36 [(0,CV.pure (Ty.slice (Ty.int u8)) p0),(3,CV.whole 0)] [Blk.vec 5 (Ty.int u8) p1])
noncomputable def Sp.S_100_0{R:Type}(K:List Int->List Int->Option R)(k:E_100_0->Option R)(p0 p1:List Int):Option R:=
 bif Int.tmod (↑(length p1):Int) (64:Int)!=(56:Int)then gd (room (length p1+1) 1) (K p0 (p1++[0]))else k (E_100_0.e0 p0 p1)
noncomputable def Sp.L_100_0:Nat->List Int->List Int->Option E_100_0
 |0,_,_=>none
 |m+1,p0,p1=>S_100_0 (L_100_0 m) some p0 p1
noncomputable def l_100_0(m:Nat)(a:T_100_0.E):Option E_100_0:=L_100_0 m a.1 a.2.1
noncomputable def O_100_0{R:Type}:Orc R:=orL T_100_0 (l_100_0 FU) Y_100_0
theorem OK_100_0{R:Type}:okF (R:=R) sm_100 0 (nf 100 0) O_100_0:=lp0 T_100_0 l_100_0 (fun R K k a=>S_100_0 (fun p0 p1=>K (p0,p1,())) k a.1 a.2.1) Y_100_0 (fun _ _ _=>by kernel_rfl) (fun _ _ _=>by
 unfold S_100_0
 repeat' first|apply gdN|apply condN|rfl) (ok0 _)
noncomputable def T_100_1:PS:=⟨36,[(3,.kc (.whole 0)),(4,.hv (.int .u64)),(5,.hv (.int .i64))],[.vec 5 (.int .u8)],0⟩
inductive Sp.E_100_1 where
 |e0 (p2:List Int)
noncomputable def Sp.B_100_1{R:Type}(r:Option E_100_1)(k0:List Int->Option R):Option R:=match r with
 |none=>none
 |some (.e0 p2)=>k0 p2
noncomputable def Y_100_1{R:Type}(k:Ex->St->Option R):E_100_1->Option R
 | .e0 p2=>k (Ex.exit 2) (sx 36 [(3,CV.whole 0)] [Blk.vec 5 (Ty.int u8) p2])
noncomputable def Sp.S_100_1{R:Type}(K:Int->Int->List Int->Option R)(k:E_100_1->Option R)(p0 p1:Int)(p2:List Int):Option R:=
 bif decide (p1>=0)then gd (decide (0<=wrap u64 p1)) (gd (room (length p2+1) 1) (K p0 (wrap i64 (p1-8)) (p2++[wrap u8 (Int.fdiv p0 (2^Nat.min (toNat (wrap u64 p1)) 64))])))else k (E_100_1.e0 p2)
noncomputable def Sp.L_100_1:Nat->Int->Int->List Int->Option E_100_1
 |0,_,_,_=>none
 |m+1,p0,p1,p2=>S_100_1 (L_100_1 m) some p0 p1 p2
noncomputable def l_100_1(m:Nat)(a:T_100_1.E):Option E_100_1:=L_100_1 m a.1 a.2.1 a.2.2.1
noncomputable def O_100_1{R:Type}:Orc R:=orL T_100_1 (l_100_1 FU) Y_100_1
theorem OK_100_1{R:Type}:okF (R:=R) sm_100 0 (nf 100 1) O_100_1:=lp0 T_100_1 l_100_1 (fun R K k a=>S_100_1 (fun p0 p1 p2=>K (p0,p1,p2,())) k a.1 a.2.1 a.2.2.1) Y_100_1 (fun _ _ _=>by kernel_rfl) (fun _ _ _=>by
 unfold S_100_1
 repeat' first|apply gdN|apply condN|rfl) (ok0 _)
noncomputable def F_100(a0:(List Int)):Option ((List Int)×Unit) :=
 gd (room (0+length a0) 1) (gd (room (length ([]++a0)+1) 1) (B_100_0 (L_100_0 4611686018427387904 a0 ([]++a0++[128])) fun y3 y4=>B_100_1 (L_100_1 4611686018427387904 (wrap u64 (wrap u64 (↑(length y3):Int)*8)) 56 y4) fun y5=>some (y5,PUnit.unit)))
noncomputable def Sp.p_100(a0:(List Int)):Bool:=(F_100 a0).isSome
noncomputable def Sp.v_100(a0:(List Int)):(List Int)×Unit:=(F_100 a0).getD (dfH R_100)
noncomputable def s_100:Summ:=shS A_100 R_100 (fun x=>p_100 x.1) (fun x=>v_100 x.1)
theorem pv_100(a0:(List Int)){y:(List Int)×Unit}(h:F_100 a0=some y):p_100 a0=true/\v_100 a0=y:=pvG h
theorem run_100(x:HDen A_100)(y:HDen R_100)(h:F_100 x.1=some y):rnF sm_100 1 100 A_100 R_100 x y:=runG noO_ok (os:=[O_100_0,O_100_1]) ⟨OK_100_0,OK_100_1,trivial⟩ (Eq.trans (by kernel_rfl) h)
end
noncomputable section
abbrev A_105:List Ty:=[(.int .u32),(.int .u64)]
abbrev R_105:List Ty:=[(.int .u32)]
noncomputable def sm_105:Nat->Option Summ:=smL []
noncomputable def F_105(a0 a1:Int):Option (Int×Unit) :=
 gd (decide (0<=a1)) (gd (decide (0<=wrap u64 (32-a1))) (some (Sp.orI u32 (Int.fdiv a0 (2^Nat.min (toNat a1) 32)) (wrap u32 (a0*2^Nat.min (toNat (wrap u64 (32-a1))) 32)),PUnit.unit)))
noncomputable def Sp.p_105(a0 a1:Int):Bool:=(F_105 a0 a1).isSome
noncomputable def Sp.v_105(a0 a1:Int):Int×Unit:=(F_105 a0 a1).getD (dfH R_105)
noncomputable def s_105:Summ:=shN A_105 R_105 (fun x=>p_105 x.1 x.2.1) (fun x=>v_105 x.1 x.2.1)
theorem pv_105(a0 a1:Int){y:Int×Unit}(h:F_105 a0 a1=some y):p_105 a0 a1=true/\v_105 a0 a1=y:=pvG h
theorem run_105(x:HDen A_105)(y:HDen R_105)(h:F_105 x.1 x.2.1=some y):rnF sm_105 1 105 A_105 R_105 x y:=runG noO_ok (os:=[]) trivial (Eq.trans (by kernel_rfl) h)
end
noncomputable section
abbrev A_106:List Ty:=[]
abbrev R_106:List Ty:=[(.arr 64 (.int .u32))]
noncomputable def sm_106:Nat->Option Summ:=smL []
noncomputable def F_106:Option ((List Int)×Unit) :=
 some ([1116352408,1899447441,3049323471,3921009573,961987163,1508970993,2453635748,2870763221,3624381080,310598401,607225278,1426881987,1925078388,2162078206,2614888103,3248222580,3835390401,4022224774,264347078,604807628,770255983,1249150122,1555081692,1996064986,2554220882,2821834349,2952996808,3210313671,3336571891,3584528711,113926993,338241895,666307205,773529912,1294757372,1396182291,1695183700,1986661051,2177026350,2456956037,2730485921,2820302411,3259730800,3345764771,3516065817,3600352804,4094571909,275423344,430227734,506948616,659060556,883997877,958139571,1322822218,1537002063,1747873779,1955562222,2024104815,2227730452,2361852424,2428436474,2756734187,3204031479,3329325298],PUnit.unit)
noncomputable def Sp.p_106:Bool:=(F_106).isSome
noncomputable def Sp.v_106:(List Int)×Unit:=(F_106).getD (dfH R_106)
noncomputable def s_106:Summ:=shN A_106 R_106 (fun x=>p_106) (fun x=>v_106)
theorem run_106(x:HDen A_106)(y:HDen R_106)(h:F_106=some y):rnF sm_106 1 106 A_106 R_106 x y:=runG noO_ok (os:=[]) trivial (Eq.trans (by kernel_rfl) h)
end
noncomputable section
abbrev A_101:List Ty:=[(.arr 8 (.int .u32)),(.slice (.int .u8))]
abbrev R_101:List Ty:=[(.arr 8 (.int .u32))]
noncomputable def sm_101:Nat->Option Summ:=smL [(105,s_105),(106,s_106)]
noncomputable def T_101_0:PS:=⟨196,[(1,.hv (.slice (.int .u8))),(2,.kc (.ptr 0 [])),(4,.kc (.ptr 1 [])),(5,.kc (.ptr 2 [])),(6,.hv (.int .i64))],[.mem (.hv (.arr 8 (.int .u32))),.mem (.hv (.arr 8 (.int .u32))),.mem (.hv (.arr 64 (.int .u32)))],0⟩
inductive Sp.E_101_0 where
 |e0 (p2 p3 p4:List Int)
noncomputable def Sp.B_101_0{R:Type}(r:Option E_101_0)(k0:List Int->List Int->List Int->Option R):Option R:=match r with
 |none=>none
 |some (.e0 p2 p3 p4)=>k0 p2 p3 p4
noncomputable def Y_101_0{R:Type}(k:Ex->St->Option R):E_101_0->Option R
 | .e0 p2 p3 p4=>k (Ex.exit 0) (sx 196 [(2,CV.ptr 0 []),(4,CV.ptr 1 []),(5,CV.ptr 2 [])] [Blk.mem (CV.pure (Ty.arr 8 (Ty.int u32)) p2),Blk.mem (CV.pure (Ty.arr 8 (Ty.int u32)) p3),Blk.mem (CV.pure (Ty.arr 64 (Ty.int u32)) p4)])
noncomputable def Sp.S_101_0{R:Type}(K:List Int->Int->List Int->List Int->List Int->Option R)(k:E_101_0->Option R)(p0:List Int)(p1:Int)(p2 p3 p4:List Int):Option R:=
 bif decide (p1<16)then gd (inB (wrap i64 (4*p1)) (length p0)) (gd (inB (wrap i64 (wrap i64 (4*p1)+1)) (length p0)) (gd (inB (wrap i64 (wrap i64 (4*p1)+2)) (length p0)) (gd (inB (wrap i64 (wrap i64 (4*p1)+3)) (length p0)) (gd (inB p1 64) (gd (decide (toNat p1<64)&&true) (K p0 (wrap i64 (p1+1)) p2 p3 (List.set p4 (toNat p1) (Sp.orI u32 (Sp.orI u32 (Sp.orI u32 (wrap u32 (wrap u32 (getD p0 (toNat (wrap i64 (4*p1))) 0)*16777216)) (wrap u32 (wrap u32 (getD p0 (toNat (wrap i64 (wrap i64 (4*p1)+1))) 0)*65536))) (wrap u32 (wrap u32 (getD p0 (toNat (wrap i64 (wrap i64 (4*p1)+2))) 0)*256))) (wrap u32 (getD p0 (toNat (wrap i64 (wrap i64 (4*p1)+3))) 0))))))))))else k (E_101_0.e0 p2 p3 p4)
noncomputable def Sp.L_101_0:Nat->List Int->Int->List Int->List Int->List Int->Option E_101_0
 |0,_,_,_,_,_=>none
 |m+1,p0,p1,p2,p3,p4=>S_101_0 (L_101_0 m) some p0 p1 p2 p3 p4
noncomputable def l_101_0(m:Nat)(a:T_101_0.E):Option E_101_0:=L_101_0 m a.1 a.2.1 a.2.2.1 a.2.2.2.1 a.2.2.2.2.1
noncomputable def O_101_0{R:Type}:Orc R:=orL T_101_0 (l_101_0 FU) Y_101_0
theorem OK_101_0{R:Type}:okF (R:=R) sm_101 0 (nf 101 0) O_101_0:=lp0 T_101_0 l_101_0 (fun R K k a=>S_101_0 (fun p0 p1 p2 p3 p4=>K (p0,p1,p2,p3,p4,())) k a.1 a.2.1 a.2.2.1 a.2.2.2.1 a.2.2.2.2.1) Y_101_0 (fun _ _ _=>by kernel_rfl) (fun _ _ _=>by
 unfold S_101_0
 repeat' first|apply gdN|apply condN|rfl) (ok0 _)
noncomputable def T_101_1:PS:=⟨196,[(2,.kc (.ptr 0 [])),(4,.kc (.ptr 1 [])),(5,.kc (.ptr 2 [])),(7,.hv (.int .i64))],[.mem (.hv (.arr 8 (.int .u32))),.mem (.hv (.arr 8 (.int .u32))),.mem (.hv (.arr 64 (.int .u32)))],0⟩
inductive Sp.E_101_1 where
 |e0 (p1 p2 p3:List Int)
noncomputable def Sp.B_101_1{R:Type}(r:Option E_101_1)(k0:List Int->List Int->List Int->Option R):Option R:=match r with
 |none=>none
 |some (.e0 p1 p2 p3)=>k0 p1 p2 p3
noncomputable def Y_101_1{R:Type}(k:Ex->St->Option R):E_101_1->Option R
 | .e0 p1 p2 p3=>k (Ex.exit 2) (sx 196 [(2,CV.ptr 0 []),(4,CV.ptr 1 []),(5,CV.ptr 2 [])] [Blk.mem (CV.pure (Ty.arr 8 (Ty.int u32)) p1),Blk.mem (CV.pure (Ty.arr 8 (Ty.int u32)) p2),Blk.mem (CV.pure (Ty.arr 64 (Ty.int u32)) p3)])
noncomputable def Sp.S_101_1{R:Type}(K:Int->List Int->List Int->List Int->Option R)(k:E_101_1->Option R)(p0:Int)(p1 p2 p3:List Int):Option R:=
 bif decide (p0<64)then gd (inB (wrap i64 (p0-15)) 64) (gd (decide (toNat (wrap i64 (p0-15))<64)&&true) (gd (inB (wrap i64 (p0-2)) 64) (gd (decide (toNat (wrap i64 (p0-2))<64)&&true) (gd (p_105 (getD p3 (toNat (wrap i64 (p0-2))) 0) 17) (gd (p_105 (getD p3 (toNat (wrap i64 (p0-2))) 0) 19) (gd (inB (wrap i64 (p0-7)) 64) (gd (decide (toNat (wrap i64 (p0-7))<64)&&true) (gd (p_105 (getD p3 (toNat (wrap i64 (p0-15))) 0) 7) (gd (p_105 (getD p3 (toNat (wrap i64 (p0-15))) 0) 18) (gd (inB (wrap i64 (p0-16)) 64) (gd (decide (toNat (wrap i64 (p0-16))<64)&&true) (gd (inB p0 64) (gd (decide (toNat p0<64)&&true) (K (wrap i64 (p0+1)) p1 p2 (List.set p3 (toNat p0) (wrap u32 (wrap u32 (wrap u32 (Sp.xorI u32 (Sp.xorI u32 ((v_105 (getD p3 (toNat (wrap i64 (p0-2))) 0) 17).1) ((v_105 (getD p3 (toNat (wrap i64 (p0-2))) 0) 19).1)) (Int.fdiv (getD p3 (toNat (wrap i64 (p0-2))) 0) 1024)+getD p3 (toNat (wrap i64 (p0-7))) 0)+Sp.xorI u32 (Sp.xorI u32 ((v_105 (getD p3 (toNat (wrap i64 (p0-15))) 0) 7).1) ((v_105 (getD p3 (toNat (wrap i64 (p0-15))) 0) 18).1)) (Int.fdiv (getD p3 (toNat (wrap i64 (p0-15))) 0) 8))+getD p3 (toNat (wrap i64 (p0-16))) 0)))))))))))))))))else k (E_101_1.e0 p1 p2 p3)
noncomputable def Sp.L_101_1:Nat->Int->List Int->List Int->List Int->Option E_101_1
 |0,_,_,_,_=>none
 |m+1,p0,p1,p2,p3=>S_101_1 (L_101_1 m) some p0 p1 p2 p3
noncomputable def l_101_1(m:Nat)(a:T_101_1.E):Option E_101_1:=L_101_1 m a.1 a.2.1 a.2.2.1 a.2.2.2.1
noncomputable def O_101_1{R:Type}:Orc R:=orL T_101_1 (l_101_1 FU) Y_101_1
theorem OK_101_1{R:Type}:okF (R:=R) sm_101 0 (nf 101 1) O_101_1:=lp0 T_101_1 l_101_1 (fun R K k a=>S_101_1 (fun p0 p1 p2 p3=>K (p0,p1,p2,p3,())) k a.1 a.2.1 a.2.2.1 a.2.2.2.1) Y_101_1 (fun _ _ _=>by kernel_rfl) (fun _ _ _=>by
 unfold S_101_1
 repeat' first|apply gdN|apply condN|rfl) (ok0 _)
noncomputable def T_101_2:PS:=⟨196,[(2,.kc (.ptr 0 [])),(4,.kc (.ptr 1 [])),(5,.kc (.ptr 2 [])),(10,.kc (.ptr 3 [])),(11,.kc (.ptr 4 [])),(12,.hv (.int .i64))],[.mem (.hv (.arr 8 (.int .u32))),.mem (.hv (.arr 8 (.int .u32))),.mem (.hv (.arr 64 (.int .u32))),.mem (.hv (.arr 64 (.int .u32))),.mem (.hv (.arr 8 (.int .u32)))],0⟩
inductive Sp.E_101_2 where
 |e0 (p1 p2 p5:List Int)
noncomputable def Sp.B_101_2{R:Type}(r:Option E_101_2)(k0:List Int->List Int->List Int->Option R):Option R:=match r with
 |none=>none
 |some (.e0 p1 p2 p5)=>k0 p1 p2 p5
noncomputable def Y_101_2{R:Type}(k:Ex->St->Option R):E_101_2->Option R
 | .e0 p1 p2 p5=>k (Ex.exit 4) (sx 196 [(2,CV.ptr 0 []),(4,CV.ptr 1 []),(11,CV.ptr 2 [])] [Blk.mem (CV.pure (Ty.arr 8 (Ty.int u32)) p1),Blk.mem (CV.pure (Ty.arr 8 (Ty.int u32)) p2),Blk.mem (CV.pure (Ty.arr 8 (Ty.int u32)) p5)])
noncomputable def Sp.S_101_2{R:Type}(K:Int->List Int->List Int->List Int->List Int->List Int->Option R)(k:E_101_2->Option R)(p0:Int)(p1 p2 p3 p4 p5:List Int):Option R:=
 bif decide (p0<64)then gd (p_105 (getD p5 4 0) 6) (gd (p_105 (getD p5 4 0) 11) (gd (p_105 (getD p5 4 0) 25) (gd (inB p0 64) (gd (decide (toNat p0<64)&&true) (gd (inB p0 64) (gd (decide (toNat p0<64)&&true) (gd (p_105 (getD p5 0 0) 2) (gd (p_105 (getD p5 0 0) 13) (gd (p_105 (getD p5 0 0) 22) (K (wrap i64 (p0+1)) p1 p2 p3 p4 [wrap u32 (wrap u32 (wrap u32 (wrap u32 (wrap u32 (getD p5 7 0+Sp.xorI u32 (Sp.xorI u32 ((v_105 (getD p5 4 0) 6).1) ((v_105 (getD p5 4 0) 11).1)) ((v_105 (getD p5 4 0) 25).1))+Sp.xorI u32 (Sp.andI u32 (getD p5 4 0) (getD p5 5 0)) (Sp.andI u32 (Sp.xorI u32 4294967295 (getD p5 4 0)) (getD p5 6 0)))+getD p4 (toNat p0) 0)+getD p3 (toNat p0) 0)+wrap u32 (Sp.xorI u32 (Sp.xorI u32 ((v_105 (getD p5 0 0) 2).1) ((v_105 (getD p5 0 0) 13).1)) ((v_105 (getD p5 0 0) 22).1)+Sp.xorI u32 (Sp.xorI u32 (Sp.andI u32 (getD p5 0 0) (getD p5 1 0)) (Sp.andI u32 (getD p5 0 0) (getD p5 2 0))) (Sp.andI u32 (getD p5 1 0) (getD p5 2 0)))),getD p5 0 0,getD p5 1 0,getD p5 2 0,wrap u32 (getD p5 3 0+wrap u32 (wrap u32 (wrap u32 (wrap u32 (getD p5 7 0+Sp.xorI u32 (Sp.xorI u32 ((v_105 (getD p5 4 0) 6).1) ((v_105 (getD p5 4 0) 11).1)) ((v_105 (getD p5 4 0) 25).1))+Sp.xorI u32 (Sp.andI u32 (getD p5 4 0) (getD p5 5 0)) (Sp.andI u32 (Sp.xorI u32 4294967295 (getD p5 4 0)) (getD p5 6 0)))+getD p4 (toNat p0) 0)+getD p3 (toNat p0) 0)),getD p5 4 0,getD p5 5 0,getD p5 6 0]))))))))))else k (E_101_2.e0 p1 p2 p5)
noncomputable def Sp.L_101_2:Nat->Int->List Int->List Int->List Int->List Int->List Int->Option E_101_2
 |0,_,_,_,_,_,_=>none
 |m+1,p0,p1,p2,p3,p4,p5=>S_101_2 (L_101_2 m) some p0 p1 p2 p3 p4 p5
noncomputable def l_101_2(m:Nat)(a:T_101_2.E):Option E_101_2:=L_101_2 m a.1 a.2.1 a.2.2.1 a.2.2.2.1 a.2.2.2.2.1 a.2.2.2.2.2.1
noncomputable def O_101_2{R:Type}:Orc R:=orL T_101_2 (l_101_2 FU) Y_101_2
theorem OK_101_2{R:Type}:okF (R:=R) sm_101 0 (nf 101 2) O_101_2:=lp0 T_101_2 l_101_2 (fun R K k a=>S_101_2 (fun p0 p1 p2 p3 p4 p5=>K (p0,p1,p2,p3,p4,p5,())) k a.1 a.2.1 a.2.2.1 a.2.2.2.1 a.2.2.2.2.1 a.2.2.2.2.2.1) Y_101_2 (fun _ _ _=>by kernel_rfl) (fun _ _ _=>by
 unfold S_101_2
 repeat' first|apply gdN|apply condN|rfl) (ok0 _)
noncomputable def T_101_3:PS:=⟨196,[(2,.kc (.ptr 0 [])),(4,.kc (.ptr 1 [])),(11,.kc (.ptr 2 [])),(21,.hv (.int .i64))],[.mem (.hv (.arr 8 (.int .u32))),.mem (.hv (.arr 8 (.int .u32))),.mem (.hv (.arr 8 (.int .u32)))],0⟩
inductive Sp.E_101_3 where
 |e0 (p1 p2:List Int)
noncomputable def Sp.B_101_3{R:Type}(r:Option E_101_3)(k0:List Int->List Int->Option R):Option R:=match r with
 |none=>none
 |some (.e0 p1 p2)=>k0 p1 p2
noncomputable def Y_101_3{R:Type}(k:Ex->St->Option R):E_101_3->Option R
 | .e0 p1 p2=>k (Ex.exit 6) (sx 196 [(2,CV.ptr 0 []),(4,CV.ptr 1 [])] [Blk.mem (CV.pure (Ty.arr 8 (Ty.int u32)) p1),Blk.mem (CV.pure (Ty.arr 8 (Ty.int u32)) p2)])
noncomputable def Sp.S_101_3{R:Type}(K:Int->List Int->List Int->List Int->Option R)(k:E_101_3->Option R)(p0:Int)(p1 p2 p3:List Int):Option R:=
 bif decide (p0<8)then gd (inB p0 8) (gd (decide (toNat p0<8)&&true) (gd (inB p0 8) (gd (decide (toNat p0<8)&&true) (gd (inB p0 8) (gd (decide (toNat p0<8)&&true) (K (wrap i64 (p0+1)) (List.set p1 (toNat p0) (wrap u32 (getD p1 (toNat p0) 0+getD p3 (toNat p0) 0))) p2 p3))))))else k (E_101_3.e0 p1 p2)
noncomputable def Sp.L_101_3:Nat->Int->List Int->List Int->List Int->Option E_101_3
 |0,_,_,_,_=>none
 |m+1,p0,p1,p2,p3=>S_101_3 (L_101_3 m) some p0 p1 p2 p3
noncomputable def l_101_3(m:Nat)(a:T_101_3.E):Option E_101_3:=L_101_3 m a.1 a.2.1 a.2.2.1 a.2.2.2.1
noncomputable def O_101_3{R:Type}:Orc R:=orL T_101_3 (l_101_3 FU) Y_101_3
theorem OK_101_3{R:Type}:okF (R:=R) sm_101 0 (nf 101 3) O_101_3:=lp0 T_101_3 l_101_3 (fun R K k a=>S_101_3 (fun p0 p1 p2 p3=>K (p0,p1,p2,p3,())) k a.1 a.2.1 a.2.2.1 a.2.2.2.1) Y_101_3 (fun _ _ _=>by kernel_rfl) (fun _ _ _=>by
 unfold S_101_3
 repeat' first|apply gdN|apply condN|rfl) (ok0 _)
noncomputable def F_101(a0 a1:(List Int)):Option ((List Int)×Unit) :=
 B_101_0 (L_101_0 4611686018427387904 a1 0 a0 (replicate 8 (0:Int)) (replicate 64 (0:Int))) fun y11 y12 y13=>B_101_1 (L_101_1 4611686018427387904 16 y11 y12 y13) fun y14 y15 y16=>gd p_106 (B_101_2 (L_101_2 4611686018427387904 0 y14 y15 y16 (v_106.1) y14) fun y17 y18 y19=>B_101_3 (L_101_3 4611686018427387904 0 y17 y18 y19) fun y20 y21=>some (y20,PUnit.unit))
noncomputable def Sp.p_101(a0 a1:(List Int)):Bool:=(F_101 a0 a1).isSome
noncomputable def Sp.v_101(a0 a1:(List Int)):(List Int)×Unit:=(F_101 a0 a1).getD (dfH R_101)
noncomputable def s_101:Summ:=shN A_101 R_101 (fun x=>p_101 x.1 x.2.1) (fun x=>v_101 x.1 x.2.1)
theorem pv_101(a0 a1:(List Int)){y:(List Int)×Unit}(h:F_101 a0 a1=some y):p_101 a0 a1=true/\v_101 a0 a1=y:=pvG h
theorem run_101(x:HDen A_101)(y:HDen R_101)(h:F_101 x.1 x.2.1=some y):rnF sm_101 1 101 A_101 R_101 x y:=runG noO_ok (os:=[O_101_0,O_101_1,O_101_2,O_101_3]) ⟨OK_101_0,OK_101_1,OK_101_2,OK_101_3,trivial⟩ (Eq.trans (by kernel_rfl) h)
end
noncomputable section
abbrev A_83:List Ty:=[(.slice (.int .u8))]
abbrev R_83:List Ty:=[(.arr 32 (.int .u8))]
noncomputable def sm_83:Nat->Option Summ:=smL [(100,s_100),(101,s_101)]
noncomputable def T_83_0:PS:=⟨42,[(2,.kc (.ptr 0 [])),(3,.kc (.ptr 1 [])),(4,.hv (.slice (.int .u8))),(5,.hv (.int .i64))],[.mem (.hv (.arr 32 (.int .u8))),.mem (.hv (.arr 8 (.int .u32)))],0⟩
inductive Sp.E_83_0 where
 |e0 (p2 p3:List Int)
noncomputable def Sp.B_83_0{R:Type}(r:Option E_83_0)(k0:List Int->List Int->Option R):Option R:=match r with
 |none=>none
 |some (.e0 p2 p3)=>k0 p2 p3
noncomputable def Y_83_0{R:Type}(k:Ex->St->Option R):E_83_0->Option R
 | .e0 p2 p3=>k (Ex.exit 0) (sx 42 [(2,CV.ptr 0 []),(3,CV.ptr 1 [])] [Blk.mem (CV.pure (Ty.arr 32 (Ty.int u8)) p2),Blk.mem (CV.pure (Ty.arr 8 (Ty.int u32)) p3)])
noncomputable def Sp.S_83_0{R:Type}(K:List Int->Int->List Int->List Int->Option R)(k:E_83_0->Option R)(p0:List Int)(p1:Int)(p2 p3:List Int):Option R:=
 bif decide (p1<(↑(length p0):Int))then gd (sl3 p1 (wrap i64 (p1+64)) (↑(length p0):Int)) (gd (p_101 p3 (take (toNat (wrap i64 (p1+64))-toNat p1) (drop (toNat p1) p0))) (K p0 (wrap i64 (p1+64)) p2 ((v_101 p3 (take (toNat (wrap i64 (p1+64))-toNat p1) (drop (toNat p1) p0))).1)))else k (E_83_0.e0 p2 p3)
noncomputable def Sp.L_83_0:Nat->List Int->Int->List Int->List Int->Option E_83_0
 |0,_,_,_,_=>none
 |m+1,p0,p1,p2,p3=>S_83_0 (L_83_0 m) some p0 p1 p2 p3
noncomputable def l_83_0(m:Nat)(a:T_83_0.E):Option E_83_0:=L_83_0 m a.1 a.2.1 a.2.2.1 a.2.2.2.1
noncomputable def O_83_0{R:Type}:Orc R:=orL T_83_0 (l_83_0 FU) Y_83_0
theorem OK_83_0{R:Type}:okF (R:=R) sm_83 0 (nf 83 0) O_83_0:=lp0 T_83_0 l_83_0 (fun R K k a=>S_83_0 (fun p0 p1 p2 p3=>K (p0,p1,p2,p3,())) k a.1 a.2.1 a.2.2.1 a.2.2.2.1) Y_83_0 (fun _ _ _=>by kernel_rfl) (fun _ _ _=>by
 unfold S_83_0
 repeat' first|apply gdN|apply condN|rfl) (ok0 _)
noncomputable def T_83_1:PS:=⟨42,[(2,.kc (.ptr 0 [])),(3,.kc (.ptr 1 [])),(6,.kc (.ptr 2 [])),(7,.hv (.int .i64))],[.mem (.hv (.arr 32 (.int .u8))),.mem (.hv (.arr 8 (.int .u32))),.mem (.hv (.arr 32 (.int .u8)))],0⟩
inductive Sp.E_83_1 where
 |e0 (p1 p3:List Int)
noncomputable def Sp.B_83_1{R:Type}(r:Option E_83_1)(k0:List Int->List Int->Option R):Option R:=match r with
 |none=>none
 |some (.e0 p1 p3)=>k0 p1 p3
noncomputable def Y_83_1{R:Type}(k:Ex->St->Option R):E_83_1->Option R
 | .e0 p1 p3=>k (Ex.exit 2) (sx 42 [(2,CV.ptr 0 []),(6,CV.ptr 1 [])] [Blk.mem (CV.pure (Ty.arr 32 (Ty.int u8)) p1),Blk.mem (CV.pure (Ty.arr 32 (Ty.int u8)) p3)])
noncomputable def Sp.S_83_1{R:Type}(K:Int->List Int->List Int->List Int->Option R)(k:E_83_1->Option R)(p0:Int)(p1 p2 p3:List Int):Option R:=
 bif decide (p0<32)then gd (inB (wrap i64 (Int.tdiv p0 4)) 8) (gd (decide (toNat (wrap i64 (Int.tdiv p0 4))<8)&&true) (gd (decide (0<=wrap u64 (wrap i64 (24-wrap i64 (Int.tmod p0 (4:Int)*(8:Int)))))) (gd (inB p0 32) (gd (decide (toNat p0<32)&&true) (K (wrap i64 (p0+1)) p1 p2 (List.set p3 (toNat p0) (wrap u8 (Int.fdiv (getD p2 (toNat (wrap i64 (Int.tdiv p0 4))) 0) (2^Nat.min (toNat (wrap u64 (wrap i64 (24-wrap i64 (Int.tmod p0 (4:Int)*(8:Int)))))) 32)))))))))else k (E_83_1.e0 p1 p3)
noncomputable def Sp.L_83_1:Nat->Int->List Int->List Int->List Int->Option E_83_1
 |0,_,_,_,_=>none
 |m+1,p0,p1,p2,p3=>S_83_1 (L_83_1 m) some p0 p1 p2 p3
noncomputable def l_83_1(m:Nat)(a:T_83_1.E):Option E_83_1:=L_83_1 m a.1 a.2.1 a.2.2.1 a.2.2.2.1
noncomputable def O_83_1{R:Type}:Orc R:=orL T_83_1 (l_83_1 FU) Y_83_1
theorem OK_83_1{R:Type}:okF (R:=R) sm_83 0 (nf 83 1) O_83_1:=lp0 T_83_1 l_83_1 (fun R K k a=>S_83_1 (fun p0 p1 p2 p3=>K (p0,p1,p2,p3,())) k a.1 a.2.1 a.2.2.1 a.2.2.2.1) Y_83_1 (fun _ _ _=>by kernel_rfl) (fun _ _ _=>by
 unfold S_83_1
 repeat' first|apply gdN|apply condN|rfl) (ok0 _)
noncomputable def F_83(a0:(List Int)):Option ((List Int)×Unit) :=
 gd (p_100 a0) (B_83_0 (L_83_0 4611686018427387904 ((v_100 a0).1) 0 (replicate 32 (0:Int)) [1779033703,3144134277,1013904242,2773480762,1359893119,2600822924,528734635,1541459225]) fun y4 y5=>B_83_1 (L_83_1 4611686018427387904 0 y4 y5 (replicate 32 (0:Int))) fun y6 y7=>some (y7,PUnit.unit))
noncomputable def Sp.p_83(a0:(List Int)):Bool:=(F_83 a0).isSome
noncomputable def Sp.v_83(a0:(List Int)):(List Int)×Unit:=(F_83 a0).getD (dfH R_83)
noncomputable def s_83:Summ:=shN A_83 R_83 (fun x=>p_83 x.1) (fun x=>v_83 x.1)
theorem pv_83(a0:(List Int)){y:(List Int)×Unit}(h:F_83 a0=some y):p_83 a0=true/\v_83 a0=y:=pvG h
theorem run_83(x:HDen A_83)(y:HDen R_83)(h:F_83 x.1=some y):rnF sm_83 1 83 A_83 R_83 x y:=runG noO_ok (os:=[O_83_0,O_83_1]) ⟨OK_83_0,OK_83_1,trivial⟩ (Eq.trans (by kernel_rfl) h)
end
noncomputable section
abbrev A_49:List Ty:=[(.int .i64),(.slice (.int .u32))]
abbrev R_49:List Ty:=[(.arr 32 (.int .u8))]
noncomputable def sm_49:Nat->Option Summ:=smL [(83,s_83)]
noncomputable def T_49_82_1_0:PS:=⟨30,[(0,.kc (.whole 2)),(1,.kc (.whole 1)),(5,.hv (.int .i64)),(6,.hv (.int .i64))],[.mem (.hv (.arr 32 (.int .u8))),.vec 42 (.int .u32),.vec 5 (.int .u8)],2⟩
inductive Sp.E_49_82_1_0 where
 |e0 (p0:Int) (p2 p3 p4:List Int)
noncomputable def Sp.B_49_82_1_0{R:Type}(r:Option E_49_82_1_0)(k0:Int->List Int->List Int->List Int->Option R):Option R:=match r with
 |none=>none
 |some (.e0 p0 p2 p3 p4)=>k0 p0 p2 p3 p4
theorem Bn_49_82_1_0{A R:Type}{r:Option E_49_82_1_0}{f:A->Option R}{k0:Int->List Int->List Int->List Int->Option A}{l0:Int->List Int->List Int->List Int->Option R}(h0:∀p0 p2 p3 p4,(k0 p0 p2 p3 p4).bind f=l0 p0 p2 p3 p4):(B_49_82_1_0 r k0).bind f=B_49_82_1_0 r l0:=by
 cases r with
 |none=>rfl
 |some e=>cases e<;>first|apply h0
noncomputable def Y_49_82_1_0{R:Type}(k:Ex->St->Option R):E_49_82_1_0->Option R
 | .e0 p0 p2 p3 p4=>k (Ex.exit 2) (sx 30 [(0,CV.whole 2),(1,CV.whole 1),(5,CV.int i64 p0)] [Blk.mem (CV.pure (Ty.arr 32 (Ty.int u8)) p2),Blk.vec 42 (Ty.int u32) p3,Blk.vec 5 (Ty.int u8) p4] 2)
noncomputable def Sp.S_49_82_1_0{R:Type}(K:Int->Int->List Int->List Int->List Int->Option R)(k:E_49_82_1_0->Option R)(p0 p1:Int)(p2 p3 p4:List Int):Option R:=
 bif decide (p1<4)then gd (inB p0 (length p3)) (gd (decide (toNat p0<length p3)&&true) (gd (decide (0<=wrap i64 (24-wrap i64 (8*p1)))) (gd (room (length p4+1) 1) (K p0 (wrap i64 (p1+1)) p2 p3 (p4++[wrap u8 (Int.fdiv (getD p3 (toNat p0) 0) (2^Nat.min (toNat (wrap i64 (24-wrap i64 (8*p1)))) 32))])))))else k (E_49_82_1_0.e0 p0 p2 p3 p4)
noncomputable def Sp.L_49_82_1_0:Nat->Int->Int->List Int->List Int->List Int->Option E_49_82_1_0
 |0,_,_,_,_,_=>none
 |m+1,p0,p1,p2,p3,p4=>S_49_82_1_0 (L_49_82_1_0 m) some p0 p1 p2 p3 p4
noncomputable def l_49_82_1_0(m:Nat)(a:T_49_82_1_0.E):Option E_49_82_1_0:=L_49_82_1_0 m a.1 a.2.1 a.2.2.1 a.2.2.2.1 a.2.2.2.2.1
noncomputable def O_49_82_1_0{R:Type}:Orc R:=orL T_49_82_1_0 (l_49_82_1_0 FU) Y_49_82_1_0
theorem OK_49_82_1_0{R:Type}:okF (R:=R) sm_49 0 (ni (nf 82 0) 0) O_49_82_1_0:=lp0 T_49_82_1_0 l_49_82_1_0 (fun R K k a=>S_49_82_1_0 (fun p0 p1 p2 p3 p4=>K (p0,p1,p2,p3,p4,())) k a.1 a.2.1 a.2.2.1 a.2.2.2.1 a.2.2.2.2.1) Y_49_82_1_0 (fun _ _ _=>by kernel_rfl) (fun _ _ _=>by
 unfold S_49_82_1_0
 repeat' first|apply gdN|apply condN|rfl) (ok0 _)
noncomputable def T_49_82_1_2:PS:=⟨30,[(0,.kc (.whole 3)),(1,.hv (.slice (.int .u32))),(5,.hv (.int .i64)),(6,.hv (.int .i64))],[.mem (.hv (.arr 32 (.int .u8))),.vec 42 (.int .u32),.dead,.vec 5 (.int .u8)],3⟩
inductive Sp.E_49_82_1_2 where
 |e0 (p0:List Int) (p1:Int) (p3 p4 p5:List Int)
noncomputable def Sp.B_49_82_1_2{R:Type}(r:Option E_49_82_1_2)(k0:List Int->Int->List Int->List Int->List Int->Option R):Option R:=match r with
 |none=>none
 |some (.e0 p0 p1 p3 p4 p5)=>k0 p0 p1 p3 p4 p5
theorem Bn_49_82_1_2{A R:Type}{r:Option E_49_82_1_2}{f:A->Option R}{k0:List Int->Int->List Int->List Int->List Int->Option A}{l0:List Int->Int->List Int->List Int->List Int->Option R}(h0:∀p0 p1 p3 p4 p5,(k0 p0 p1 p3 p4 p5).bind f=l0 p0 p1 p3 p4 p5):(B_49_82_1_2 r k0).bind f=B_49_82_1_2 r l0:=by
 cases r with
 |none=>rfl
 |some e=>cases e<;>first|apply h0
noncomputable def Y_49_82_1_2{R:Type}(k:Ex->St->Option R):E_49_82_1_2->Option R
 | .e0 p0 p1 p3 p4 p5=>k (Ex.exit 2) (sx 30 [(0,CV.whole 3),(1,CV.pure (Ty.slice (Ty.int u32)) p0),(5,CV.int i64 p1)] [Blk.mem (CV.pure (Ty.arr 32 (Ty.int u8)) p3),Blk.vec 42 (Ty.int u32) p4,Blk.dead,Blk.vec 5 (Ty.int u8) p5] 3)
noncomputable def Sp.S_49_82_1_2{R:Type}(K:List Int->Int->Int->List Int->List Int->List Int->Option R)(k:E_49_82_1_2->Option R)(p0:List Int)(p1 p2:Int)(p3 p4 p5:List Int):Option R:=
 bif decide (p2<4)then gd (inB p1 (length p0)) (gd (decide (0<=wrap i64 (24-wrap i64 (8*p2)))) (gd (room (length p5+1) 1) (K p0 p1 (wrap i64 (p2+1)) p3 p4 (p5++[wrap u8 (Int.fdiv (getD p0 (toNat p1) 0) (2^Nat.min (toNat (wrap i64 (24-wrap i64 (8*p2)))) 32))]))))else k (E_49_82_1_2.e0 p0 p1 p3 p4 p5)
noncomputable def Sp.L_49_82_1_2:Nat->List Int->Int->Int->List Int->List Int->List Int->Option E_49_82_1_2
 |0,_,_,_,_,_,_=>none
 |m+1,p0,p1,p2,p3,p4,p5=>S_49_82_1_2 (L_49_82_1_2 m) some p0 p1 p2 p3 p4 p5
noncomputable def l_49_82_1_2(m:Nat)(a:T_49_82_1_2.E):Option E_49_82_1_2:=L_49_82_1_2 m a.1 a.2.1 a.2.2.1 a.2.2.2.1 a.2.2.2.2.1 a.2.2.2.2.2.1
noncomputable def O_49_82_1_2{R:Type}:Orc R:=orL T_49_82_1_2 (l_49_82_1_2 FU) Y_49_82_1_2 O_49_82_1_0
theorem loop_49_82_1_2{R:Type}(k:Ex->St->Option R):∀m a,evLoopN (evCodeL sm_49 FU (ovr noO (evFn sm_49 fns FU 0)) (mkT (inner (ni (nf 82 0) 0)) []) (inner (ni (nf 82 0) 0))) (St.norm (lv (ni (nf 82 0) 0))) m (T_49_82_1_2.inst a) k=(l_49_82_1_2 m a).bind (Y_49_82_1_2 k):=lpN l_49_82_1_2 (fun R K k a=>S_49_82_1_2 (fun p0 p1 p2 p3 p4 p5=>K (p0,p1,p2,p3,p4,p5,())) k a.1 a.2.1 a.2.2.1 a.2.2.2.1 a.2.2.2.2.1 a.2.2.2.2.2.1) (fun _=>rfl) (fun _ _=>rfl) (fun K a=>by kernel_rfl) (fun K a=>by
 unfold S_49_82_1_2
 repeat' first|apply gdN|apply condN|rfl)
theorem OK_49_82_1_2{R:Type}:okF (R:=R) sm_49 0 (ni (nf 82 0) 0) O_49_82_1_2:=lp0 T_49_82_1_2 l_49_82_1_2 (fun R K k a=>S_49_82_1_2 (fun p0 p1 p2 p3 p4 p5=>K (p0,p1,p2,p3,p4,p5,())) k a.1 a.2.1 a.2.2.1 a.2.2.2.1 a.2.2.2.2.1 a.2.2.2.2.2.1) Y_49_82_1_2 (fun _ _ _=>by kernel_rfl) (fun _ _ _=>by
 unfold S_49_82_1_2
 repeat' first|apply gdN|apply condN|rfl) OK_49_82_1_0
noncomputable def T_49_82_1_1:PS:=⟨30,[(0,.kc (.whole 2)),(1,.hv (.slice (.int .u32))),(5,.hv (.int .i64)),(6,.hv (.int .i64))],[.mem (.hv (.arr 32 (.int .u8))),.vec 42 (.int .u32),.vec 5 (.int .u8)],3⟩
inductive Sp.E_49_82_1_1 where
 |e0 (p0:List Int) (p1:Int) (p3 p4 p5:List Int)
 |e1 (p0:List Int) (p1:Int) (p3 p4 p5:List Int)
noncomputable def Sp.B_49_82_1_1{R:Type}(r:Option E_49_82_1_1)(k0 k1:List Int->Int->List Int->List Int->List Int->Option R):Option R:=match r with
 |none=>none
 |some (.e0 p0 p1 p3 p4 p5)=>k0 p0 p1 p3 p4 p5
 |some (.e1 p0 p1 p3 p4 p5)=>k1 p0 p1 p3 p4 p5
theorem Bn_49_82_1_1{A R:Type}{r:Option E_49_82_1_1}{f:A->Option R}{k0:List Int->Int->List Int->List Int->List Int->Option A}{k1:List Int->Int->List Int->List Int->List Int->Option A}{l0:List Int->Int->List Int->List Int->List Int->Option R}{l1:List Int->Int->List Int->List Int->List Int->Option R}(h0:∀p0 p1 p3 p4 p5,(k0 p0 p1 p3 p4 p5).bind f=l0 p0 p1 p3 p4 p5)(h1:∀p0 p1 p3 p4 p5,(k1 p0 p1 p3 p4 p5).bind f=l1 p0 p1 p3 p4 p5):(B_49_82_1_1 r k0 k1).bind f=B_49_82_1_1 r l0 l1:=by
 cases r with
 |none=>rfl
 |some e=>cases e<;>first|apply h0|apply h1
noncomputable def Y_49_82_1_1{R:Type}(k:Ex->St->Option R):E_49_82_1_1->Option R
 | .e0 p0 p1 p3 p4 p5=>k (Ex.exit 2) (sx 30 [(0,CV.whole 2),(1,CV.pure (Ty.slice (Ty.int u32)) p0),(5,CV.int i64 p1)] [Blk.mem (CV.pure (Ty.arr 32 (Ty.int u8)) p3),Blk.vec 42 (Ty.int u32) p4,Blk.vec 5 (Ty.int u8) p5] 3)
 | .e1 p0 p1 p3 p4 p5=>k (Ex.exit 2) (sx 30 [(0,CV.whole 3),(1,CV.pure (Ty.slice (Ty.int u32)) p0),(5,CV.int i64 p1)] [Blk.mem (CV.pure (Ty.arr 32 (Ty.int u8)) p3),Blk.vec 42 (Ty.int u32) p4,Blk.dead,Blk.vec 5 (Ty.int u8) p5] 3)
noncomputable def Sp.S_49_82_1_1{R:Type}(K KB:List Int->Int->Int->List Int->List Int->List Int->Option R)(k:E_49_82_1_1->Option R)(p0:List Int)(p1 p2:Int)(p3 p4 p5:List Int):Option R:=
 bif decide (p2<4)then gd (inB p1 (length p0)) (gd (decide (0<=wrap i64 (24-wrap i64 (8*p2)))) (gd (room (length p5+1) 1) (KB p0 p1 (wrap i64 (p2+1)) p3 p4 (p5++[wrap u8 (Int.fdiv (getD p0 (toNat p1) 0) (2^Nat.min (toNat (wrap i64 (24-wrap i64 (8*p2)))) 32))]))))else k (E_49_82_1_1.e0 p0 p1 p3 p4 p5)
noncomputable def C_49_82_1_1:E_49_82_1_2->E_49_82_1_1
 | .e0 p0 p1 p3 p4 p5=> .e1 p0 p1 p3 p4 p5
theorem BC_49_82_1_1(r:Option E_49_82_1_2):B_49_82_1_2 r (fun p0 p1 p3 p4 p5=>some (E_49_82_1_1.e1 p0 p1 p3 p4 p5))=r.bind fun e=>some (C_49_82_1_1 e):=by
 cases r with
 |none=>rfl
 |some e=>cases e<;>rfl
noncomputable def Sp.L_49_82_1_1:Nat->List Int->Int->Int->List Int->List Int->List Int->Option E_49_82_1_1
 |0,_,_,_,_,_,_=>none
 |m+1,p0,p1,p2,p3,p4,p5=>S_49_82_1_1 (L_49_82_1_1 m) (fun q0 q1 q2 q3 q4 q5=>B_49_82_1_2 (L_49_82_1_2 m q0 q1 q2 q3 q4 q5) (fun p0 p1 p3 p4 p5=>some (E_49_82_1_1.e1 p0 p1 p3 p4 p5))) some p0 p1 p2 p3 p4 p5
noncomputable def l_49_82_1_1(m:Nat)(a:T_49_82_1_1.E):Option E_49_82_1_1:=L_49_82_1_1 m a.1 a.2.1 a.2.2.1 a.2.2.2.1 a.2.2.2.2.1 a.2.2.2.2.2.1
noncomputable def O_49_82_1_1{R:Type}:Orc R:=orL T_49_82_1_1 (l_49_82_1_1 FU) Y_49_82_1_1 O_49_82_1_2
theorem OK_49_82_1_1{R:Type}:okF (R:=R) sm_49 0 (ni (nf 82 0) 0) O_49_82_1_1:=lp2 noO_ok (os:=[]) trivial T_49_82_1_1 T_49_82_1_2 l_49_82_1_1 l_49_82_1_2 (fun R K KB k a=>S_49_82_1_1 (fun p0 p1 p2 p3 p4 p5=>K (p0,p1,p2,p3,p4,p5,())) (fun q0 q1 q2 q3 q4 q5=>KB (q0,q1,q2,q3,q4,q5,())) k a.1 a.2.1 a.2.2.1 a.2.2.2.1 a.2.2.2.2.1 a.2.2.2.2.2.1) Y_49_82_1_1 Y_49_82_1_2 C_49_82_1_1 (fun _=>rfl) (fun m a=>by
 unfold l_49_82_1_1
 rw[L_49_82_1_1]
 simp only[BC_49_82_1_1]
 rfl) (fun k e=>by cases e<;>rfl) (fun k=>loop_49_82_1_2 k) (fun k K a=>by kernel_rfl) (fun Y K KB a=>by
 unfold S_49_82_1_1
 repeat' first|apply gdN|apply condN|rfl) OK_49_82_1_2
noncomputable def T_49_82_0_0:PS:=⟨30,[(0,.kc (.whole 2)),(1,.kc (.whole 1)),(5,.hv (.int .i64))],[.mem (.hv (.arr 32 (.int .u8))),.vec 42 (.int .u32),.vec 5 (.int .u8)],2⟩
inductive Sp.E_49_82_0_0 where
 |e0 (p1 p2 p3:List Int)
noncomputable def Sp.B_49_82_0_0{R:Type}(r:Option E_49_82_0_0)(k0:List Int->List Int->List Int->Option R):Option R:=match r with
 |none=>none
 |some (.e0 p1 p2 p3)=>k0 p1 p2 p3
noncomputable def Y_49_82_0_0{R:Type}(k:Ex->St->Option R):E_49_82_0_0->Option R
 | .e0 p1 p2 p3=>k (Ex.exit 0) (sx 30 [(0,CV.whole 2)] [Blk.mem (CV.pure (Ty.arr 32 (Ty.int u8)) p1),Blk.vec 42 (Ty.int u32) p2,Blk.vec 5 (Ty.int u8) p3] 2)
noncomputable def Sp.S_49_82_0_0{R:Type}(K:Int->List Int->List Int->List Int->Option R)(k:E_49_82_0_0->Option R)(p0:Int)(p1 p2 p3:List Int):Option R:=
 bif decide (p0<(↑(length p2):Int))then B_49_82_1_0 (L_49_82_1_0 4611686018427387904 p0 0 p1 p2 p3) fun y8 y9 y10 y11=>K (wrap i64 (y8+1)) y9 y10 y11 else k (E_49_82_0_0.e0 p1 p2 p3)
noncomputable def Sp.L_49_82_0_0:Nat->Int->List Int->List Int->List Int->Option E_49_82_0_0
 |0,_,_,_,_=>none
 |m+1,p0,p1,p2,p3=>S_49_82_0_0 (L_49_82_0_0 m) some p0 p1 p2 p3
noncomputable def l_49_82_0_0(m:Nat)(a:T_49_82_0_0.E):Option E_49_82_0_0:=L_49_82_0_0 m a.1 a.2.1 a.2.2.1 a.2.2.2.1
noncomputable def O_49_82_0_0{R:Type}:Orc R:=orL T_49_82_0_0 (l_49_82_0_0 FU) Y_49_82_0_0
theorem OK_49_82_0_0{R:Type}:okF (R:=R) sm_49 0 (nf 82 0) O_49_82_0_0:=lp noO_ok (os:=[O_49_82_1_1]) ⟨OK_49_82_1_1,trivial⟩ T_49_82_0_0 l_49_82_0_0 (fun R K k a=>S_49_82_0_0 (fun p0 p1 p2 p3=>K (p0,p1,p2,p3,())) k a.1 a.2.1 a.2.2.1 a.2.2.2.1) Y_49_82_0_0 (fun _=>rfl) (fun _ _=>rfl) (fun k K a=>by kernel_rfl) (fun Y K a=>by
 unfold S_49_82_0_0
 repeat' first|apply gdN|apply condN|(apply Bn_49_82_1_0<;>intros)|rfl) (ok0 _)
noncomputable def T_49_82_0_2:PS:=⟨30,[(0,.kc (.whole 3)),(1,.hv (.slice (.int .u32))),(5,.hv (.int .i64))],[.mem (.hv (.arr 32 (.int .u8))),.vec 42 (.int .u32),.dead,.vec 5 (.int .u8)],3⟩
inductive Sp.E_49_82_0_2 where
 |e0 (p2 p3 p4:List Int)
noncomputable def Sp.B_49_82_0_2{R:Type}(r:Option E_49_82_0_2)(k0:List Int->List Int->List Int->Option R):Option R:=match r with
 |none=>none
 |some (.e0 p2 p3 p4)=>k0 p2 p3 p4
noncomputable def Y_49_82_0_2{R:Type}(k:Ex->St->Option R):E_49_82_0_2->Option R
 | .e0 p2 p3 p4=>k (Ex.exit 0) (sx 30 [(0,CV.whole 3)] [Blk.mem (CV.pure (Ty.arr 32 (Ty.int u8)) p2),Blk.vec 42 (Ty.int u32) p3,Blk.dead,Blk.vec 5 (Ty.int u8) p4] 3)
noncomputable def Sp.S_49_82_0_2{R:Type}(K:List Int->Int->List Int->List Int->List Int->Option R)(k:E_49_82_0_2->Option R)(p0:List Int)(p1:Int)(p2 p3 p4:List Int):Option R:=
 bif decide (p1<(↑(length p0):Int))then B_49_82_1_2 (L_49_82_1_2 4611686018427387904 p0 p1 0 p2 p3 p4) fun y9 y10 y11 y12 y13=>K y9 (wrap i64 (y10+1)) y11 y12 y13 else k (E_49_82_0_2.e0 p2 p3 p4)
noncomputable def Sp.L_49_82_0_2:Nat->List Int->Int->List Int->List Int->List Int->Option E_49_82_0_2
 |0,_,_,_,_,_=>none
 |m+1,p0,p1,p2,p3,p4=>S_49_82_0_2 (L_49_82_0_2 m) some p0 p1 p2 p3 p4
noncomputable def l_49_82_0_2(m:Nat)(a:T_49_82_0_2.E):Option E_49_82_0_2:=L_49_82_0_2 m a.1 a.2.1 a.2.2.1 a.2.2.2.1 a.2.2.2.2.1
noncomputable def O_49_82_0_2{R:Type}:Orc R:=orL T_49_82_0_2 (l_49_82_0_2 FU) Y_49_82_0_2 O_49_82_0_0
theorem loop_49_82_0_2{R:Type}(k:Ex->St->Option R):∀m a,evLoopN (evCodeL sm_49 FU (ovr noO (evFn sm_49 fns FU 0)) (mkT (inner (nf 82 0)) [O_49_82_1_1]) (inner (nf 82 0))) (St.norm (lv (nf 82 0))) m (T_49_82_0_2.inst a) k=(l_49_82_0_2 m a).bind (Y_49_82_0_2 k):=lpN l_49_82_0_2 (fun R K k a=>S_49_82_0_2 (fun p0 p1 p2 p3 p4=>K (p0,p1,p2,p3,p4,())) k a.1 a.2.1 a.2.2.1 a.2.2.2.1 a.2.2.2.2.1) (fun _=>rfl) (fun _ _=>rfl) (fun K a=>by kernel_rfl) (fun K a=>by
 unfold S_49_82_0_2
 repeat' first|apply gdN|apply condN|(apply Bn_49_82_1_2<;>intros)|rfl)
theorem OK_49_82_0_2{R:Type}:okF (R:=R) sm_49 0 (nf 82 0) O_49_82_0_2:=lp noO_ok (os:=[O_49_82_1_1]) ⟨OK_49_82_1_1,trivial⟩ T_49_82_0_2 l_49_82_0_2 (fun R K k a=>S_49_82_0_2 (fun p0 p1 p2 p3 p4=>K (p0,p1,p2,p3,p4,())) k a.1 a.2.1 a.2.2.1 a.2.2.2.1 a.2.2.2.2.1) Y_49_82_0_2 (fun _=>rfl) (fun _ _=>rfl) (fun k K a=>by kernel_rfl) (fun Y K a=>by
 unfold S_49_82_0_2
 repeat' first|apply gdN|apply condN|(apply Bn_49_82_1_2<;>intros)|rfl) OK_49_82_0_0
noncomputable def T_49_82_0_1:PS:=⟨30,[(0,.kc (.whole 2)),(1,.hv (.slice (.int .u32))),(5,.hv (.int .i64))],[.mem (.hv (.arr 32 (.int .u8))),.vec 42 (.int .u32),.vec 5 (.int .u8)],3⟩
inductive Sp.E_49_82_0_1 where
 |e0 (p2 p3 p4:List Int)
 |e1 (p2 p3 p4:List Int)
noncomputable def Sp.B_49_82_0_1{R:Type}(r:Option E_49_82_0_1)(k0 k1:List Int->List Int->List Int->Option R):Option R:=match r with
 |none=>none
 |some (.e0 p2 p3 p4)=>k0 p2 p3 p4
 |some (.e1 p2 p3 p4)=>k1 p2 p3 p4
noncomputable def Y_49_82_0_1{R:Type}(k:Ex->St->Option R):E_49_82_0_1->Option R
 | .e0 p2 p3 p4=>k (Ex.exit 0) (sx 30 [(0,CV.whole 2)] [Blk.mem (CV.pure (Ty.arr 32 (Ty.int u8)) p2),Blk.vec 42 (Ty.int u32) p3,Blk.vec 5 (Ty.int u8) p4] 3)
 | .e1 p2 p3 p4=>k (Ex.exit 0) (sx 30 [(0,CV.whole 3)] [Blk.mem (CV.pure (Ty.arr 32 (Ty.int u8)) p2),Blk.vec 42 (Ty.int u32) p3,Blk.dead,Blk.vec 5 (Ty.int u8) p4] 3)
noncomputable def Sp.S_49_82_0_1{R:Type}(K KB:List Int->Int->List Int->List Int->List Int->Option R)(k:E_49_82_0_1->Option R)(p0:List Int)(p1:Int)(p2 p3 p4:List Int):Option R:=
 bif decide (p1<(↑(length p0):Int))then B_49_82_1_1 (L_49_82_1_1 4611686018427387904 p0 p1 0 p2 p3 p4) (fun y14 y15 y16 y17 y18=>K y14 (wrap i64 (y15+1)) y16 y17 y18) fun y19 y20 y21 y22 y23=>KB y19 (wrap i64 (y20+1)) y21 y22 y23 else k (E_49_82_0_1.e0 p2 p3 p4)
noncomputable def C_49_82_0_1:E_49_82_0_2->E_49_82_0_1
 | .e0 p2 p3 p4=> .e1 p2 p3 p4
theorem BC_49_82_0_1(r:Option E_49_82_0_2):B_49_82_0_2 r (fun p2 p3 p4=>some (E_49_82_0_1.e1 p2 p3 p4))=r.bind fun e=>some (C_49_82_0_1 e):=by
 cases r with
 |none=>rfl
 |some e=>cases e<;>rfl
noncomputable def Sp.L_49_82_0_1:Nat->List Int->Int->List Int->List Int->List Int->Option E_49_82_0_1
 |0,_,_,_,_,_=>none
 |m+1,p0,p1,p2,p3,p4=>S_49_82_0_1 (L_49_82_0_1 m) (fun q0 q1 q2 q3 q4=>B_49_82_0_2 (L_49_82_0_2 m q0 q1 q2 q3 q4) (fun p2 p3 p4=>some (E_49_82_0_1.e1 p2 p3 p4))) some p0 p1 p2 p3 p4
noncomputable def l_49_82_0_1(m:Nat)(a:T_49_82_0_1.E):Option E_49_82_0_1:=L_49_82_0_1 m a.1 a.2.1 a.2.2.1 a.2.2.2.1 a.2.2.2.2.1
noncomputable def O_49_82_0_1{R:Type}:Orc R:=orL T_49_82_0_1 (l_49_82_0_1 FU) Y_49_82_0_1 O_49_82_0_2
theorem OK_49_82_0_1{R:Type}:okF (R:=R) sm_49 0 (nf 82 0) O_49_82_0_1:=lp2 noO_ok (os:=[O_49_82_1_1]) ⟨OK_49_82_1_1,trivial⟩ T_49_82_0_1 T_49_82_0_2 l_49_82_0_1 l_49_82_0_2 (fun R K KB k a=>S_49_82_0_1 (fun p0 p1 p2 p3 p4=>K (p0,p1,p2,p3,p4,())) (fun q0 q1 q2 q3 q4=>KB (q0,q1,q2,q3,q4,())) k a.1 a.2.1 a.2.2.1 a.2.2.2.1 a.2.2.2.2.1) Y_49_82_0_1 Y_49_82_0_2 C_49_82_0_1 (fun _=>rfl) (fun m a=>by
 unfold l_49_82_0_1
 rw[L_49_82_0_1]
 simp only[BC_49_82_0_1]
 rfl) (fun k e=>by cases e<;>rfl) (fun k=>loop_49_82_0_2 k) (fun k K a=>by kernel_rfl) (fun Y K KB a=>by
 unfold S_49_82_0_1
 repeat' first|apply gdN|apply condN|(apply Bn_49_82_1_1<;>intros)|rfl) OK_49_82_0_2
noncomputable def g_49_82{R:Type}:List CV->List Blk->(CV->List Blk->Option R)->Option R:=evFnL sm_49 FU (ovr noO (evFn sm_49 fns FU 0)) (mkT (fB fns 82) [O_49_82_0_1]) (fO fns 82)
theorem g_49_82_ok{R:Type}(args:List CV)(hp:List Blk)(k:CV->List Blk->Option R)(r:R)(h:g_49_82 args hp k=some r):evFn sm_49 fns FU 1 82 args hp k=some r:=runG noO_ok (os:=[O_49_82_0_1]) ⟨OK_49_82_0_1,trivial⟩ h
noncomputable def ov_49_49{R:Type}:Nat->Option (List CV->List Blk->(CV->List Blk->Option R)->Option R):=fun f'=>bif Nat.beq f' 82 then some g_49_82 else none
theorem ov_49_49_ok{R:Type}:OvrOK (R:=R) ov_49_49 (evFn sm_49 fns FU 1):=by
 intro f' g h args hp k r hg
 dsimp only[ov_49_49]at h
 by_cases h82:f'=82
 ·subst h82
  injection h with h
  subst h
  exact evFn_le 0 (g_49_82_ok _ _ _ _ hg)
 rw[nbeq_ne h82,cond_false]at h
 cases h
noncomputable def F_49(a0:Int)(a1:(List Int)):Option ((List Int)×Unit) :=
 B_49_82_0_0 (L_49_82_0_0 4611686018427387904 0 (replicate 32 (0:Int)) [wrap u32 a0,wrap u32 (↑(length a1):Int)] []) fun y9 y10 y11=>B_49_82_0_1 (L_49_82_0_1 4611686018427387904 a1 0 y9 y10 y11) (fun y12 y13 y14=>gd (p_83 y14) (some ((v_83 y14).1,PUnit.unit))) fun y15 y16 y17=>gd (p_83 y17) (some ((v_83 y17).1,PUnit.unit))
noncomputable def Sp.p_49(a0:Int)(a1:(List Int)):Bool:=(F_49 a0 a1).isSome
noncomputable def Sp.v_49(a0:Int)(a1:(List Int)):(List Int)×Unit:=(F_49 a0 a1).getD (dfH R_49)
noncomputable def s_49:Summ:=shN A_49 R_49 (fun x=>p_49 x.1 x.2.1) (fun x=>v_49 x.1 x.2.1)
theorem pv_49(a0:Int)(a1:(List Int)){y:(List Int)×Unit}(h:F_49 a0 a1=some y):p_49 a0 a1=true/\v_49 a0 a1=y:=pvG h
theorem run_49(x:HDen A_49)(y:HDen R_49)(h:F_49 x.1 x.2.1=some y):rnF sm_49 2 49 A_49 R_49 x y:=runG ov_49_49_ok (os:=[]) trivial (Eq.trans (by kernel_rfl) h)
end
noncomputable section
abbrev A_84:List Ty:=[(.pair (.int .i64) (.pair (.slice (.arr 32 (.int .u8))) (.pair (.slice (.arr 32 (.int .u8))) .unit)))]
abbrev R_84:List Ty:=[.bool]
noncomputable def sm_84:Nat->Option Summ:=smL []
noncomputable def F_84(a0:(Int×((List (List Int))×((List (List Int))×Unit)))):Option (Bool×Unit) :=
 bif decide (a0.1>=0)then bif decide (a0.1<=3)then bif(↑(length (a0.2.1)):Int)==67 then some ((↑(length (a0.2.2.1)):Int)==2,PUnit.unit)else some (false,PUnit.unit)else some (false,PUnit.unit)else some (false,PUnit.unit)
noncomputable def Sp.p_84(a0:(Int×((List (List Int))×((List (List Int))×Unit)))):Bool:=(F_84 a0).isSome
noncomputable def Sp.v_84(a0:(Int×((List (List Int))×((List (List Int))×Unit)))):Bool×Unit:=(F_84 a0).getD (dfH R_84)
noncomputable def s_84:Summ:=shN A_84 R_84 (fun x=>p_84 x.1) (fun x=>v_84 x.1)
theorem pv_84(a0:(Int×((List (List Int))×((List (List Int))×Unit)))){y:Bool×Unit}(h:F_84 a0=some y):p_84 a0=true/\v_84 a0=y:=pvG h
theorem run_84(x:HDen A_84)(y:HDen R_84)(h:F_84 x.1=some y):rnF sm_84 1 84 A_84 R_84 x y:=runG noO_ok (os:=[]) trivial (Eq.trans (by kernel_rfl) h)
end
noncomputable section
abbrev A_85:List Ty:=[(.arr 32 (.int .u8))]
abbrev R_85:List Ty:=[(.slice (.int .i64))]
noncomputable def sm_85:Nat->Option Summ:=smL []
noncomputable def T_85_0:PS:=⟨44,[(1,.kc (.ptr 0 [])),(3,.kc (.whole 1)),(4,.hv (.int .i64)),(5,.hv (.int .i64))],[.mem (.hv (.arr 32 (.int .u8))),.vec 3 (.int .i64)],0⟩
inductive Sp.E_85_0 where
 |e0 (p0:Int) (p3:List Int)
noncomputable def Sp.B_85_0{R:Type}(r:Option E_85_0)(k0:Int->List Int->Option R):Option R:=match r with
 |none=>none
 |some (.e0 p0 p3)=>k0 p0 p3
noncomputable def Y_85_0{R:Type}(k:Ex->St->Option R):E_85_0->Option R
 | .e0 p0 p3=>k (Ex.exit 0) (sx 44 [(3,CV.whole 0),(4,CV.int i64 p0)] [Blk.vec 3 (Ty.int i64) p3])
noncomputable def Sp.S_85_0{R:Type}(K:Int->Int->List Int->List Int->Option R)(k:E_85_0->Option R)(p0 p1:Int)(p2 p3:List Int):Option R:=
 bif decide (p1<64)then gd (inB (wrap i64 (Int.tdiv p1 2)) 32) (gd (decide (toNat (wrap i64 (Int.tdiv p1 2))<32)&&true) (bif Int.tmod p1 (2:Int)==(1:Int)then gd (inB (wrap i64 (Int.tdiv p1 2)) 32) (gd (decide (toNat (wrap i64 (Int.tdiv p1 2))<32)&&true) (gd (room (length p3+1) 8) (K (wrap i64 (wrap i64 (p0+15)-wrap i64 (Sp.andI u8 (getD p2 (toNat (wrap i64 (Int.tdiv p1 2))) 0) 15))) (wrap i64 (p1+1)) p2 (p3++[wrap i64 (Sp.andI u8 (getD p2 (toNat (wrap i64 (Int.tdiv p1 2))) 0) 15)]))))else gd (room (length p3+1) 8) (K (wrap i64 (wrap i64 (p0+15)-wrap i64 (Int.fdiv (getD p2 (toNat (wrap i64 (Int.tdiv p1 2))) 0) 16))) (wrap i64 (p1+1)) p2 (p3++[wrap i64 (Int.fdiv (getD p2 (toNat (wrap i64 (Int.tdiv p1 2))) 0) 16)]))))else k (E_85_0.e0 p0 p3)
noncomputable def Sp.L_85_0:Nat->Int->Int->List Int->List Int->Option E_85_0
 |0,_,_,_,_=>none
 |m+1,p0,p1,p2,p3=>S_85_0 (L_85_0 m) some p0 p1 p2 p3
noncomputable def l_85_0(m:Nat)(a:T_85_0.E):Option E_85_0:=L_85_0 m a.1 a.2.1 a.2.2.1 a.2.2.2.1
noncomputable def O_85_0{R:Type}:Orc R:=orL T_85_0 (l_85_0 FU) Y_85_0
theorem OK_85_0{R:Type}:okF (R:=R) sm_85 0 (nf 85 0) O_85_0:=lp0 T_85_0 l_85_0 (fun R K k a=>S_85_0 (fun p0 p1 p2 p3=>K (p0,p1,p2,p3,())) k a.1 a.2.1 a.2.2.1 a.2.2.2.1) Y_85_0 (fun _ _ _=>by kernel_rfl) (fun _ _ _=>by
 unfold S_85_0
 repeat' first|apply gdN|apply condN|rfl) (ok0 _)
noncomputable def F_85(a0:(List Int)):Option ((List Int)×Unit) :=
 B_85_0 (L_85_0 4611686018427387904 0 0 a0 []) fun y2 y3=>gd (room (length y3+3) 8) (some (y3++[wrap i64 (Int.tdiv y2 256),Int.tmod (wrap i64 (Int.tdiv y2 16)) 16,Int.tmod y2 16],PUnit.unit))
noncomputable def Sp.p_85(a0:(List Int)):Bool:=(F_85 a0).isSome
noncomputable def Sp.v_85(a0:(List Int)):(List Int)×Unit:=(F_85 a0).getD (dfH R_85)
noncomputable def s_85:Summ:=shS A_85 R_85 (fun x=>p_85 x.1) (fun x=>v_85 x.1)
theorem pv_85(a0:(List Int)){y:(List Int)×Unit}(h:F_85 a0=some y):p_85 a0=true/\v_85 a0=y:=pvG h
theorem run_85(x:HDen A_85)(y:HDen R_85)(h:F_85 x.1=some y):rnF sm_85 1 85 A_85 R_85 x y:=runG noO_ok (os:=[O_85_0]) ⟨OK_85_0,trivial⟩ (Eq.trans (by kernel_rfl) h)
end
end Go.Ev
