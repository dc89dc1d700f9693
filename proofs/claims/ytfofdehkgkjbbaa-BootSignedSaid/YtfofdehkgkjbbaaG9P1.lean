/- Helpers: functions of the program as Lean functions, and what they compute. No condition. -/
import Derived.Test.YtfofdehkgkjbbaaProg
import Derived.WalkKit
import Derived.Test.YtfofdehkgkjbbaaE9P3
import Derived.Test.YtfofdehkgkjbbaaE9P2
set_option maxRecDepth 10000
set_option linter.unusedVariables false
set_option linter.unusedSimpArgs false
open Go.IntKind (wrap i64 i32 i16 i8 u64 u32 u16 u8)
open List (getD length take drop replicate)
open Int (toNat)
open Go.Ev.Sp
namespace Go.Ev
open Go Go.Proofs Go.RowKit
set_option maxRecDepth 100000
noncomputable section
noncomputable def smB:Nat->Bool:=fun f=>[10,11,12,13,14,15,16,17,18,19,20,21,22,23,24,25,26,27,28,29,30,31,32,33,34,35,36,37,38,39,40,41,42,43,44,45,46,47,48,49,50,51,52,53,54,55,56,57,58,59,60,61,62,63,64,65,66,69,70,71,72,73,74,77,78,79,81,83,84,85,86,87,88,89,90,91,94,95,96,97,99,100,101,102,103,104,105,106,107,108].contains f
noncomputable def wF:Nat->Nat:=fun f=>0
noncomputable def cF:Nat->Bool:=fun f=>false
noncomputable def dF:Nat->Bool:=fun f=>[3,4,5,6,7,8].contains f
noncomputable def fns:Nat->Option IFn:=fnsP Try.prog smB wF cF dF
theorem hm0:Try.prog.follows .mixedOrders=true:=by kernel_rfl
abbrev s_61:Summ:=vecS (.int .u32) 42 4
abbrev s_77:Summ:=growS (.int .u32) 42 4
abbrev s_99:Summ:=curS
abbrev s_103:Summ:=vecS (.int .i64) 3 8
abbrev okF{R:Type}(sm:Nat->Option Summ)(d:Nat)(c:IC)(o:Orc R):Prop:=okN sm FU (evFn sm fns FU d) c o
abbrev nf(f i:Nat):IC:=nd (fB fns f) i
abbrev nr(f i:Nat):IC:=nd (fR fns f).2.2 i
abbrev ni(c:IC)(i:Nat):IC:=nd (inner c) i
abbrev rnF(sm:Nat->Option Summ)(n f:Nat)(A R:List Ty)(x:HDen A)(y:HDen R):Prop:=evFn sm fns FU n f (ofH A x) [] (pureK R)=some y
end
set_option maxHeartbeats 4000000
set_option linter.unusedVariables false
noncomputable section
abbrev A_40:List Ty:=[(.pair (.slice (.int .u32)) (.pair (.slice (.int .i64)) (.pair (.int .i64) .unit)))]
abbrev R_40:List Ty:=[.bool]
noncomputable def sm_40:Nat->Option Summ:=smL []
noncomputable def T_40_98_0_0:PS:=⟨19,[(0,.hv (.slice (.int .i64))),(1,.kc (.clo 76 (.pair (.ptr 0 []) (.pure .unit PUnit.unit)))),(7,.hv (.int .i64)),(8,.hv (.int .i64))],[.mem (.hv (.pair (.slice (.int .u32)) (.pair (.slice (.int .i64)) (.pair (.int .i64) .unit))))],1⟩
inductive Sp.E_40_98_0_0 where
 |e0 (p2:Int) (p3:List Int×List Int×Int×Unit)
 |e1 (p3:List Int×List Int×Int×Unit)
noncomputable def Sp.B_40_98_0_0{R:Type}(r:Option E_40_98_0_0)(k0:Int->(List Int×List Int×Int×Unit)->Option R)(k1:(List Int×List Int×Int×Unit)->Option R):Option R:=match r with
 |none=>none
 |some (.e0 p2 p3)=>k0 p2 p3
 |some (.e1 p3)=>k1 p3
noncomputable def Y_40_98_0_0{R:Type}(k:Ex->St->Option R):E_40_98_0_0->Option R
 | .e0 p2 p3=>k Ex.ret (sx 19 [(4,CV.int i64 p2)] [Blk.mem (CV.pure (Ty.pair (Ty.slice (Ty.int u32)) (Ty.pair (Ty.slice (Ty.int i64)) (Ty.pair (Ty.int i64) Ty.unit))) p3)] 1)
 | .e1 p3=>k (Ex.exit 0) (sx 19 [] [Blk.mem (CV.pure (Ty.pair (Ty.slice (Ty.int u32)) (Ty.pair (Ty.slice (Ty.int i64)) (Ty.pair (Ty.int i64) Ty.unit))) p3)] 1)
noncomputable def Sp.S_40_98_0_0{R:Type}(K:List Int->Int->Int->(List Int×List Int×Int×Unit)->Option R)(k:E_40_98_0_0->Option R)(p0:List Int)(p1 p2:Int)(p3:List Int×List Int×Int×Unit):Option R:=
 bif decide (p2<p1)then gd (inB p2 (length p0)) (bif decide (getD p0 (toNat p2) (0:Int)<(0:Int))then k (E_40_98_0_0.e0 p2 p3)else bif decide (getD p0 (toNat p2) 0>p3.2.2.1)then k (E_40_98_0_0.e0 p2 p3)else K p0 p1 (wrap i64 (p2+1)) p3)else k (E_40_98_0_0.e1 p3)
noncomputable def Sp.L_40_98_0_0:Nat->List Int->Int->Int->(List Int×List Int×Int×Unit)->Option E_40_98_0_0
 |0,_,_,_,_=>none
 |m+1,p0,p1,p2,p3=>S_40_98_0_0 (L_40_98_0_0 m) some p0 p1 p2 p3
noncomputable def l_40_98_0_0(m:Nat)(a:T_40_98_0_0.E):Option E_40_98_0_0:=L_40_98_0_0 m a.1 a.2.1 a.2.2.1 a.2.2.2.1
noncomputable def O_40_98_0_0{R:Type}:Orc R:=orL T_40_98_0_0 (l_40_98_0_0 FU) Y_40_98_0_0
theorem OK_40_98_0_0{R:Type}:okF (R:=R) sm_40 1 (nf 98 0) O_40_98_0_0:=lp0 T_40_98_0_0 l_40_98_0_0 (fun R K k a=>S_40_98_0_0 (fun p0 p1 p2 p3=>K (p0,p1,p2,p3,())) k a.1 a.2.1 a.2.2.1 a.2.2.2.1) Y_40_98_0_0 (fun _ _ _=>by kernel_rfl) (fun _ _ _=>by
 unfold S_40_98_0_0
 repeat' first|apply gdN|apply condN|rfl) (ok0 _)
noncomputable def g_40_98{R:Type}:List CV->List Blk->(CV->List Blk->Option R)->Option R:=evFnL sm_40 FU (ovr noO (evFn sm_40 fns FU 1)) (mkT (fB fns 98) [O_40_98_0_0]) (fO fns 98)
theorem g_40_98_ok{R:Type}(args:List CV)(hp:List Blk)(k:CV->List Blk->Option R)(r:R)(h:g_40_98 args hp k=some r):evFn sm_40 fns FU 2 98 args hp k=some r:=runG noO_ok (os:=[O_40_98_0_0]) ⟨OK_40_98_0_0,trivial⟩ h
noncomputable def ov_40_75{R:Type}:Nat->Option (List CV->List Blk->(CV->List Blk->Option R)->Option R):=fun f'=>bif Nat.beq f' 98 then some g_40_98 else none
theorem ov_40_75_ok{R:Type}:OvrOK (R:=R) ov_40_75 (evFn sm_40 fns FU 2):=by
 intro f' g h args hp k r hg
 dsimp only[ov_40_75]at h
 by_cases h98:f'=98
 ·subst h98
  injection h with h
  subst h
  exact evFn_le 0 (g_40_98_ok _ _ _ _ hg)
 rw[nbeq_ne h98,cond_false]at h
 cases h
noncomputable def g_40_75{R:Type}:List CV->List Blk->(CV->List Blk->Option R)->Option R:=evFnL sm_40 FU (ovr ov_40_75 (evFn sm_40 fns FU 2)) (mkT (fB fns 75) []) (fO fns 75)
theorem g_40_75_ok{R:Type}(args:List CV)(hp:List Blk)(k:CV->List Blk->Option R)(r:R)(h:g_40_75 args hp k=some r):evFn sm_40 fns FU 3 75 args hp k=some r:=runG ov_40_75_ok (os:=[]) trivial h
noncomputable def ov_40_40{R:Type}:Nat->Option (List CV->List Blk->(CV->List Blk->Option R)->Option R):=fun f'=>bif Nat.beq f' 75 then some g_40_75 else none
theorem ov_40_40_ok{R:Type}:OvrOK (R:=R) ov_40_40 (evFn sm_40 fns FU 3):=by
 intro f' g h args hp k r hg
 dsimp only[ov_40_40]at h
 by_cases h75:f'=75
 ·subst h75
  injection h with h
  subst h
  exact evFn_le 0 (g_40_75_ok _ _ _ _ hg)
 rw[nbeq_ne h75,cond_false]at h
 cases h
noncomputable def F_40(a0:((List Int)×((List Int)×(Int×Unit)))):Option (Bool×Unit) :=
 bif decide ((↑(length (a0.2.1)):Int)<1)then some (false,PUnit.unit)else bif decide ((↑(length (a0.2.1)):Int)>64)then some (false,PUnit.unit)else bif(↑(length (a0.1)):Int)!=wrap i64 ((↑(length (a0.2.1)):Int)*64)then some (false,PUnit.unit)else bif decide (a0.2.2.1<1)then some (false,PUnit.unit)else bif decide (a0.2.2.1>1000000)then some (false,PUnit.unit)else B_40_98_0_0 (L_40_98_0_0 4611686018427387904 (a0.2.1) (↑(length (a0.2.1)):Int) 0 a0) (fun y23 y24=>some (!decide (y23>=0),PUnit.unit)) fun y25=>some (true,PUnit.unit)
noncomputable def Sp.p_40(a0:((List Int)×((List Int)×(Int×Unit)))):Bool:=(F_40 a0).isSome
noncomputable def Sp.v_40(a0:((List Int)×((List Int)×(Int×Unit)))):Bool×Unit:=(F_40 a0).getD (dfH R_40)
noncomputable def s_40:Summ:=shN A_40 R_40 (fun x=>p_40 x.1) (fun x=>v_40 x.1)
theorem pv_40(a0:((List Int)×((List Int)×(Int×Unit)))){y:Bool×Unit}(h:F_40 a0=some y):p_40 a0=true/\v_40 a0=y:=pvG h
theorem run_40(x:HDen A_40)(y:HDen R_40)(h:F_40 x.1=some y):rnF sm_40 4 40 A_40 R_40 x y:=runG ov_40_40_ok (os:=[]) trivial (Eq.trans (by kernel_rfl) h)
end
noncomputable section
abbrev A_41:List Ty:=[(.int .i64)]
abbrev R_41:List Ty:=[.bool]
noncomputable def sm_41:Nat->Option Summ:=smL []
noncomputable def F_41(a0:Int):Option (Bool×Unit) :=
 bif Int.tmod a0 (2:Int)==(0:Int)then bif decide (a0>=18)then some (decide (a0<=64),PUnit.unit)else some (false,PUnit.unit)else some (false,PUnit.unit)
noncomputable def Sp.p_41(a0:Int):Bool:=(F_41 a0).isSome
noncomputable def Sp.v_41(a0:Int):Bool×Unit:=(F_41 a0).getD (dfH R_41)
noncomputable def s_41:Summ:=shN A_41 R_41 (fun x=>p_41 x.1) (fun x=>v_41 x.1)
theorem pv_41(a0:Int){y:Bool×Unit}(h:F_41 a0=some y):p_41 a0=true/\v_41 a0=y:=pvG h
theorem run_41(x:HDen A_41)(y:HDen R_41)(h:F_41 x.1=some y):rnF sm_41 1 41 A_41 R_41 x y:=runG noO_ok (os:=[]) trivial (Eq.trans (by kernel_rfl) h)
end
noncomputable section
abbrev A_12:List Ty:=[(.pair (.pair (.slice (.int .u32)) (.pair (.slice (.int .i64)) (.pair (.int .i64) .unit))) (.pair (.arr 32 (.int .u8)) .unit))]
abbrev R_12:List Ty:=[.bool]
noncomputable def sm_12:Nat->Option Summ:=smL [(40,s_40),(41,s_41)]
noncomputable def F_12(a0:(((List Int)×((List Int)×(Int×Unit)))×((List Int)×Unit))):Option (Bool×Unit) :=
 gd (p_40 (a0.1)) (bif(v_40 (a0.1)).1 then gd (p_41 (↑(length (a0.1.2.1)):Int)) (some ((v_41 (↑(length (a0.1.2.1)):Int)).1,PUnit.unit))else some (false,PUnit.unit))
noncomputable def Sp.p_12(a0:(((List Int)×((List Int)×(Int×Unit)))×((List Int)×Unit))):Bool:=(F_12 a0).isSome
noncomputable def Sp.v_12(a0:(((List Int)×((List Int)×(Int×Unit)))×((List Int)×Unit))):Bool×Unit:=(F_12 a0).getD (dfH R_12)
noncomputable def s_12:Summ:=shN A_12 R_12 (fun x=>p_12 x.1) (fun x=>v_12 x.1)
theorem pv_12(a0:(((List Int)×((List Int)×(Int×Unit)))×((List Int)×Unit))){y:Bool×Unit}(h:F_12 a0=some y):p_12 a0=true/\v_12 a0=y:=pvG h
theorem run_12(x:HDen A_12)(y:HDen R_12)(h:F_12 x.1=some y):rnF sm_12 1 12 A_12 R_12 x y:=runG noO_ok (os:=[]) trivial (Eq.trans (by kernel_rfl) h)
end
noncomputable section
abbrev A_42:List Ty:=[(.pair (.pair (.slice (.int .u32)) (.pair (.slice (.int .i64)) (.pair (.int .i64) .unit))) (.pair (.arr 32 (.int .u8)) .unit)),(.int .i64)]
abbrev R_42:List Ty:=[(.slice (.int .u32))]
noncomputable def sm_42:Nat->Option Summ:=smL []
noncomputable def F_42(a0:(((List Int)×((List Int)×(Int×Unit)))×((List Int)×Unit)))(a1:Int):Option ((List Int)×Unit) :=
 gd (sl3 (wrap i64 (a1*wrap i64 (Int.tdiv (↑(length (a0.1.1)):Int) 2))) (wrap i64 (wrap i64 (a1+1)*wrap i64 (Int.tdiv (↑(length (a0.1.1)):Int) 2))) (↑(length (a0.1.1)):Int)) (some (take (toNat (wrap i64 (wrap i64 (a1+1)*wrap i64 (Int.tdiv (↑(length (a0.1.1)):Int) 2)))-toNat (wrap i64 (a1*wrap i64 (Int.tdiv (↑(length (a0.1.1)):Int) 2)))) (drop (toNat (wrap i64 (a1*wrap i64 (Int.tdiv (↑(length (a0.1.1)):Int) 2)))) (a0.1.1)),PUnit.unit))
noncomputable def Sp.p_42(a0:(((List Int)×((List Int)×(Int×Unit)))×((List Int)×Unit)))(a1:Int):Bool:=(F_42 a0 a1).isSome
noncomputable def Sp.v_42(a0:(((List Int)×((List Int)×(Int×Unit)))×((List Int)×Unit)))(a1:Int):(List Int)×Unit:=(F_42 a0 a1).getD (dfH R_42)
noncomputable def s_42:Summ:=shS A_42 R_42 (fun x=>p_42 x.1 x.2.1) (fun x=>v_42 x.1 x.2.1)
theorem pv_42(a0:(((List Int)×((List Int)×(Int×Unit)))×((List Int)×Unit)))(a1:Int){y:(List Int)×Unit}(h:F_42 a0 a1=some y):p_42 a0 a1=true/\v_42 a0 a1=y:=pvG h
theorem run_42(x:HDen A_42)(y:HDen R_42)(h:F_42 x.1 x.2.1=some y):rnF sm_42 1 42 A_42 R_42 x y:=runG noO_ok (os:=[]) trivial (Eq.trans (by kernel_rfl) h)
end
noncomputable section
abbrev A_46:List Ty:=[(.int .i64)]
abbrev R_46:List Ty:=[.bool]
noncomputable def sm_46:Nat->Option Summ:=smL []
noncomputable def F_46(a0:Int):Option (Bool×Unit) :=
 bif a0==0 then some (true,PUnit.unit)else some (a0==1,PUnit.unit)
noncomputable def Sp.p_46(a0:Int):Bool:=(F_46 a0).isSome
noncomputable def Sp.v_46(a0:Int):Bool×Unit:=(F_46 a0).getD (dfH R_46)
noncomputable def s_46:Summ:=shN A_46 R_46 (fun x=>p_46 x.1) (fun x=>v_46 x.1)
theorem pv_46(a0:Int){y:Bool×Unit}(h:F_46 a0=some y):p_46 a0=true/\v_46 a0=y:=pvG h
theorem run_46(x:HDen A_46)(y:HDen R_46)(h:F_46 x.1=some y):rnF sm_46 1 46 A_46 R_46 x y:=runG noO_ok (os:=[]) trivial (Eq.trans (by kernel_rfl) h)
end
noncomputable section
abbrev A_44:List Ty:=[(.slice (.int .u32))]
abbrev R_44:List Ty:=[(.slice (.int .u8))]
noncomputable def sm_44:Nat->Option Summ:=smL []
noncomputable def T_44_0:PS:=⟨28,[(3,.kc (.whole 0)),(6,.hv (.slice (.int .u32))),(7,.hv (.int .i64)),(8,.hv (.int .i64))],[.vec 5 (.int .u8)],0⟩
inductive Sp.E_44_0 where
 |e0 (p3:List Int)
noncomputable def Sp.B_44_0{R:Type}(r:Option E_44_0)(k0:List Int->Option R):Option R:=match r with
 |none=>none
 |some (.e0 p3)=>k0 p3
noncomputable def Y_44_0{R:Type}(k:Ex->St->Option R):E_44_0->Option R
 | .e0 p3=>k (Ex.exit 0) (sx 28 [(3,CV.whole 0)] [Blk.vec 5 (Ty.int u8) p3])
noncomputable def Sp.S_44_0{R:Type}(K:List Int->Int->Int->List Int->Option R)(k:E_44_0->Option R)(p0:List Int)(p1 p2:Int)(p3:List Int):Option R:=
 bif decide (p2<p1)then gd (inB p2 (length p0)) (gd (room (length p3+4) 1) (K p0 p1 (wrap i64 (p2+1)) (p3++[wrap u8 (Int.fdiv (getD p0 (toNat p2) 0) 16777216),wrap u8 (Int.fdiv (getD p0 (toNat p2) 0) 65536),wrap u8 (Int.fdiv (getD p0 (toNat p2) 0) 256),wrap u8 (getD p0 (toNat p2) 0)])))else k (E_44_0.e0 p3)
noncomputable def Sp.L_44_0:Nat->List Int->Int->Int->List Int->Option E_44_0
 |0,_,_,_,_=>none
 |m+1,p0,p1,p2,p3=>S_44_0 (L_44_0 m) some p0 p1 p2 p3
noncomputable def l_44_0(m:Nat)(a:T_44_0.E):Option E_44_0:=L_44_0 m a.1 a.2.1 a.2.2.1 a.2.2.2.1
noncomputable def O_44_0{R:Type}:Orc R:=orL T_44_0 (l_44_0 FU) Y_44_0
theorem OK_44_0{R:Type}:okF (R:=R) sm_44 0 (nf 44 0) O_44_0:=lp0 T_44_0 l_44_0 (fun R K k a=>S_44_0 (fun p0 p1 p2 p3=>K (p0,p1,p2,p3,())) k a.1 a.2.1 a.2.2.1 a.2.2.2.1) Y_44_0 (fun _ _ _=>by kernel_rfl) (fun _ _ _=>by
 unfold S_44_0
 repeat' first|apply gdN|apply condN|rfl) (ok0 _)
noncomputable def F_44(a0:(List Int)):Option ((List Int)×Unit) :=
 B_44_0 (L_44_0 4611686018427387904 a0 (↑(length a0):Int) 0 []) fun y1=>some (y1,PUnit.unit)
noncomputable def Sp.p_44(a0:(List Int)):Bool:=(F_44 a0).isSome
noncomputable def Sp.v_44(a0:(List Int)):(List Int)×Unit:=(F_44 a0).getD (dfH R_44)
noncomputable def s_44:Summ:=shS A_44 R_44 (fun x=>p_44 x.1) (fun x=>v_44 x.1)
theorem pv_44(a0:(List Int)){y:(List Int)×Unit}(h:F_44 a0=some y):p_44 a0=true/\v_44 a0=y:=pvG h
theorem run_44(x:HDen A_44)(y:HDen R_44)(h:F_44 x.1=some y):rnF sm_44 1 44 A_44 R_44 x y:=runG noO_ok (os:=[O_44_0]) ⟨OK_44_0,trivial⟩ (Eq.trans (by kernel_rfl) h)
end
noncomputable section
abbrev Zt81_0:Type:=List (List Int)
abbrev A_81:List Ty:=[(.slice (.int .u32))]
abbrev R_81:List Ty:=[(.pair (.int .i64) (.pair (.slice (.arr 32 (.int .u8))) (.pair (.slice (.arr 32 (.int .u8))) .unit))),(.int .i64)]
noncomputable def sm_81:Nat->Option Summ:=smL []
noncomputable def T_81_1:PS:=⟨58,[(0,.hv (.slice (.int .u32))),(2,.kc (.ptr 0 [])),(4,.kc (.ptr 3 [])),(5,.hv (.int .i64)),(6,.kc (.ptr 6 [])),(23,.hv (.int .i64)),(26,.hv (.int .i64))],[.mem (.pr (.hv (.int .i64)) (.kc (.pair (.whole 1) (.pair (.whole 2) (.pure .unit PUnit.unit))))),.vec 27 (.arr 32 (.int .u8)),.vec 27 (.arr 32 (.int .u8)),.mem (.pr (.hv (.int .i64)) (.kc (.pair (.whole 4) (.pair (.whole 5) (.pure .unit PUnit.unit))))),.vec 27 (.arr 32 (.int .u8)),.vec 27 (.arr 32 (.int .u8)),.mem (.hv (.arr 32 (.int .u8)))],0⟩
inductive Sp.E_81_1 where
 |e0 (p0:List Int) (p1 p2 p4:Int) (p5 p6:Zt81_0) (p7:Int) (p8 p9:Zt81_0) (p10:List Int)
noncomputable def Sp.B_81_1{R:Type}(r:Option E_81_1)(k0:List Int->Int->Int->Int->Zt81_0->Zt81_0->Int->Zt81_0->Zt81_0->List Int->Option R):Option R:=match r with
 |none=>none
 |some (.e0 p0 p1 p2 p4 p5 p6 p7 p8 p9 p10)=>k0 p0 p1 p2 p4 p5 p6 p7 p8 p9 p10
theorem Bn_81_1{A R:Type}{r:Option E_81_1}{f:A->Option R}{k0:List Int->Int->Int->Int->Zt81_0->Zt81_0->Int->Zt81_0->Zt81_0->List Int->Option A}{l0:List Int->Int->Int->Int->Zt81_0->Zt81_0->Int->Zt81_0->Zt81_0->List Int->Option R}(h0:∀p0 p1 p2 p4 p5 p6 p7 p8 p9 p10,(k0 p0 p1 p2 p4 p5 p6 p7 p8 p9 p10).bind f=l0 p0 p1 p2 p4 p5 p6 p7 p8 p9 p10):(B_81_1 r k0).bind f=B_81_1 r l0:=by
 cases r with
 |none=>rfl
 |some e=>cases e<;>first|apply h0
noncomputable def Y_81_1{R:Type}(k:Ex->St->Option R):E_81_1->Option R
 | .e0 p0 p1 p2 p4 p5 p6 p7 p8 p9 p10=>k (Ex.exit 2) (sx 58 [(0,CV.pure (Ty.slice (Ty.int u32)) p0),(2,CV.ptr 0 []),(4,CV.ptr 3 []),(5,CV.int i64 p1),(6,CV.ptr 6 []),(23,CV.int i64 p2)] [Blk.mem (CV.pair (CV.int i64 p4) (CV.pair (CV.whole 1) (CV.pair (CV.whole 2) (CV.pure Ty.unit PUnit.unit)))),Blk.vec 27 (Ty.arr 32 (Ty.int u8)) p5,Blk.vec 27 (Ty.arr 32 (Ty.int u8)) p6,Blk.mem (CV.pair (CV.int i64 p7) (CV.pair (CV.whole 4) (CV.pair (CV.whole 5) (CV.pure Ty.unit PUnit.unit)))),Blk.vec 27 (Ty.arr 32 (Ty.int u8)) p8,Blk.vec 27 (Ty.arr 32 (Ty.int u8)) p9,Blk.mem (CV.pure (Ty.arr 32 (Ty.int u8)) p10)])
noncomputable def Sp.S_81_1{R:Type}(K:List Int->Int->Int->Int->Int->List (List Int)->List (List Int)->Int->List (List Int)->List (List Int)->List Int->Option R)(k:E_81_1->Option R)(p0:List Int)(p1 p2 p3 p4:Int)(p5 p6:List (List Int))(p7:Int)(p8 p9:List (List Int))(p10:List Int):Option R:=
 bif decide (p3<8)then gd (sl3 (wrap i64 (4*p3)) 32 32) (gd (inB (wrap i64 (wrap i64 (1+wrap i64 (8*p1))+p3)) (length p0)) (gd (inB 0 (32-toNat (wrap i64 (4*p3)))) (gd (decide (toNat (wrap i64 (4*p3))+(0:Nat)<(32:Nat))&&true) (gd (inB 1 (32-toNat (wrap i64 (4*p3)))) (gd (decide (toNat (wrap i64 (4*p3))+(1:Nat)<(32:Nat))&&true) (gd (inB 2 (32-toNat (wrap i64 (4*p3)))) (gd (decide (toNat (wrap i64 (4*p3))+(2:Nat)<(32:Nat))&&true) (gd (inB 3 (32-toNat (wrap i64 (4*p3)))) (gd (decide (toNat (wrap i64 (4*p3))+(3:Nat)<(32:Nat))&&true) (K p0 p1 p2 (wrap i64 (p3+1)) p4 p5 p6 p7 p8 p9 (List.set (List.set (List.set (List.set p10 (toNat (wrap i64 (4*p3))+0) (wrap u8 (Int.fdiv (getD p0 (toNat (wrap i64 (wrap i64 (1+wrap i64 (8*p1))+p3))) 0) 16777216))) (toNat (wrap i64 (4*p3))+1) (wrap u8 (Int.fdiv (getD p0 (toNat (wrap i64 (wrap i64 (1+wrap i64 (8*p1))+p3))) 0) 65536))) (toNat (wrap i64 (4*p3))+2) (wrap u8 (Int.fdiv (getD p0 (toNat (wrap i64 (wrap i64 (1+wrap i64 (8*p1))+p3))) 0) 256))) (toNat (wrap i64 (4*p3))+3) (wrap u8 (getD p0 (toNat (wrap i64 (wrap i64 (1+wrap i64 (8*p1))+p3))) 0)))))))))))))else k (E_81_1.e0 p0 p1 p2 p4 p5 p6 p7 p8 p9 p10)
noncomputable def Sp.L_81_1:Nat->List Int->Int->Int->Int->Int->List (List Int)->List (List Int)->Int->List (List Int)->List (List Int)->List Int->Option E_81_1
 |0,_,_,_,_,_,_,_,_,_,_,_=>none
 |m+1,p0,p1,p2,p3,p4,p5,p6,p7,p8,p9,p10=>S_81_1 (L_81_1 m) some p0 p1 p2 p3 p4 p5 p6 p7 p8 p9 p10
noncomputable def l_81_1(m:Nat)(a:T_81_1.E):Option E_81_1:=L_81_1 m a.1 a.2.1 a.2.2.1 a.2.2.2.1 a.2.2.2.2.1 a.2.2.2.2.2.1 a.2.2.2.2.2.2.1 a.2.2.2.2.2.2.2.1 a.2.2.2.2.2.2.2.2.1 a.2.2.2.2.2.2.2.2.2.1 a.2.2.2.2.2.2.2.2.2.2.1
noncomputable def O_81_1{R:Type}:Orc R:=orL T_81_1 (l_81_1 FU) Y_81_1
theorem OK_81_1{R:Type}:okF (R:=R) sm_81 1 (ni (nf 81 0) 0) O_81_1:=lp0 T_81_1 l_81_1 (fun R K k a=>S_81_1 (fun p0 p1 p2 p3 p4 p5 p6 p7 p8 p9 p10=>K (p0,p1,p2,p3,p4,p5,p6,p7,p8,p9,p10,())) k a.1 a.2.1 a.2.2.1 a.2.2.2.1 a.2.2.2.2.1 a.2.2.2.2.2.1 a.2.2.2.2.2.2.1 a.2.2.2.2.2.2.2.1 a.2.2.2.2.2.2.2.2.1 a.2.2.2.2.2.2.2.2.2.1 a.2.2.2.2.2.2.2.2.2.2.1) Y_81_1 (fun _ _ _=>by kernel_rfl) (fun _ _ _=>by
 unfold S_81_1
 repeat' first|apply gdN|apply condN|rfl) (ok0 _)
noncomputable def T_81_0:PS:=⟨58,[(0,.hv (.slice (.int .u32))),(2,.kc (.ptr 0 [])),(4,.kc (.ptr 3 [])),(23,.hv (.int .i64))],[.mem (.pr (.hv (.int .i64)) (.kc (.pair (.whole 1) (.pair (.whole 2) (.pure .unit PUnit.unit))))),.vec 27 (.arr 32 (.int .u8)),.vec 27 (.arr 32 (.int .u8)),.mem (.pr (.hv (.int .i64)) (.kc (.pair (.whole 4) (.pair (.whole 5) (.pure .unit PUnit.unit))))),.vec 27 (.arr 32 (.int .u8)),.vec 27 (.arr 32 (.int .u8))],0⟩
inductive Sp.E_81_0 where
 |e0 (p2:Int) (p3 p4:Zt81_0) (p5:Int) (p6 p7:Zt81_0)
noncomputable def Sp.B_81_0{R:Type}(r:Option E_81_0)(k0:Int->Zt81_0->Zt81_0->Int->Zt81_0->Zt81_0->Option R):Option R:=match r with
 |none=>none
 |some (.e0 p2 p3 p4 p5 p6 p7)=>k0 p2 p3 p4 p5 p6 p7
noncomputable def Y_81_0{R:Type}(k:Ex->St->Option R):E_81_0->Option R
 | .e0 p2 p3 p4 p5 p6 p7=>k (Ex.exit 0) (sx 58 [(2,CV.ptr 0 []),(4,CV.ptr 3 [])] [Blk.mem (CV.pair (CV.int i64 p2) (CV.pair (CV.whole 1) (CV.pair (CV.whole 2) (CV.pure Ty.unit PUnit.unit)))),Blk.vec 27 (Ty.arr 32 (Ty.int u8)) p3,Blk.vec 27 (Ty.arr 32 (Ty.int u8)) p4,Blk.mem (CV.pair (CV.int i64 p5) (CV.pair (CV.whole 4) (CV.pair (CV.whole 5) (CV.pure Ty.unit PUnit.unit)))),Blk.vec 27 (Ty.arr 32 (Ty.int u8)) p6,Blk.vec 27 (Ty.arr 32 (Ty.int u8)) p7])
noncomputable def Sp.S_81_0{R:Type}(K:List Int->Int->Int->List (List Int)->List (List Int)->Int->List (List Int)->List (List Int)->Option R)(k:E_81_0->Option R)(p0:List Int)(p1 p2:Int)(p3 p4:List (List Int))(p5:Int)(p6 p7:List (List Int)):Option R:=
 bif decide (p1<69)then B_81_1 (L_81_1 4611686018427387904 p0 p1 p1 0 p2 p3 p4 p5 p6 p7 (replicate 32 (0:Int))) fun y10 y11 y12 y13 y14 y15 y16 y17 y18 y19=>bif decide (y11<67)then gd (room (length y17+1) 32) (K y10 (wrap i64 (y12+1)) y13 y14 y15 y16 (y17++[y19]) y18)else gd (room (length y18+1) 32) (K y10 (wrap i64 (y12+1)) y13 y14 y15 y16 y17 (y18++[y19]))else k (E_81_0.e0 p2 p3 p4 p5 p6 p7)
noncomputable def Sp.L_81_0:Nat->List Int->Int->Int->List (List Int)->List (List Int)->Int->List (List Int)->List (List Int)->Option E_81_0
 |0,_,_,_,_,_,_,_,_=>none
 |m+1,p0,p1,p2,p3,p4,p5,p6,p7=>S_81_0 (L_81_0 m) some p0 p1 p2 p3 p4 p5 p6 p7
noncomputable def l_81_0(m:Nat)(a:T_81_0.E):Option E_81_0:=L_81_0 m a.1 a.2.1 a.2.2.1 a.2.2.2.1 a.2.2.2.2.1 a.2.2.2.2.2.1 a.2.2.2.2.2.2.1 a.2.2.2.2.2.2.2.1
noncomputable def O_81_0{R:Type}:Orc R:=orL T_81_0 (l_81_0 FU) Y_81_0
theorem OK_81_0{R:Type}:okF (R:=R) sm_81 1 (nf 81 0) O_81_0:=lp noO_ok (os:=[O_81_1]) ⟨OK_81_1,trivial⟩ T_81_0 l_81_0 (fun R K k a=>S_81_0 (fun p0 p1 p2 p3 p4 p5 p6 p7=>K (p0,p1,p2,p3,p4,p5,p6,p7,())) k a.1 a.2.1 a.2.2.1 a.2.2.2.1 a.2.2.2.2.1 a.2.2.2.2.2.1 a.2.2.2.2.2.2.1 a.2.2.2.2.2.2.2.1) Y_81_0 (fun _=>rfl) (fun _ _=>rfl) (fun k K a=>by kernel_rfl) (fun Y K a=>by
 unfold S_81_0
 repeat' first|apply gdN|apply condN|(apply Bn_81_1<;>intros)|rfl) (ok0 _)
noncomputable def F_81(a0:(List Int)):Option ((Int×((List (List Int))×((List (List Int))×Unit)))×Int×Unit) :=
 bif(↑(length a0):Int)!=553 then some ((0,[],[],PUnit.unit),3,PUnit.unit)else gd (inB 0 (length a0)) (bif decide (getD a0 0 (0:Int)>=(4:Int))then some ((0,[],[],PUnit.unit),3,PUnit.unit)else gd (inB 0 (length a0)) (B_81_0 (L_81_0 4611686018427387904 a0 0 0 [] [] (wrap i64 (getD a0 0 0)) [] []) fun y6 y7 y8 y9 y10 y11=>some ((y9,y10,y11,PUnit.unit),0,PUnit.unit)))
noncomputable def Sp.p_81(a0:(List Int)):Bool:=(F_81 a0).isSome
noncomputable def Sp.v_81(a0:(List Int)):(Int×((List (List Int))×((List (List Int))×Unit)))×Int×Unit:=(F_81 a0).getD (dfH R_81)
noncomputable def s_81:Summ:=shS A_81 R_81 (fun x=>p_81 x.1) (fun x=>v_81 x.1)
theorem pv_81(a0:(List Int)){y:(Int×((List (List Int))×((List (List Int))×Unit)))×Int×Unit}(h:F_81 a0=some y):p_81 a0=true/\v_81 a0=y:=pvG h
theorem run_81(x:HDen A_81)(y:HDen R_81)(h:F_81 x.1=some y):rnF sm_81 2 81 A_81 R_81 x y:=runG noO_ok (os:=[O_81_0]) ⟨OK_81_0,trivial⟩ (Eq.trans (by kernel_rfl) h)
end
noncomputable section
abbrev A_47:List Ty:=[(.slice (.int .u32))]
abbrev R_47:List Ty:=[(.pair (.int .i64) (.pair (.int .i64) (.pair (.arr 32 (.int .u8)) (.pair (.pair (.int .i64) (.pair (.slice (.arr 32 (.int .u8))) (.pair (.slice (.arr 32 (.int .u8))) .unit))) .unit)))),.bool]
noncomputable def sm_47:Nat->Option Summ:=smL [(44,s_44),(81,s_81),(99,s_99)]
noncomputable def F_47(a0:(List Int)):Option ((Int×(Int×((List Int)×((Int×((List (List Int))×((List (List Int))×Unit)))×Unit))))×Bool×Unit) :=
 gd (sl3 0 1 (↑(length a0):Int)) (gd (decide (2<=(↑(length a0):Int))) (gd (inB 0 (length (take 1 (drop 1 a0)))) (gd (decide (3<=(↑(length a0):Int))) (gd (inB 0 (length (take 1 (drop 2 a0)))) (gd (decide (11<=(↑(length a0):Int))) (gd (p_44 (take 8 (drop 3 a0))) (gd (sl3 11 564 (↑(length a0):Int)) (gd (p_81 (take 553 (drop 11 a0))) (bif(v_81 (take 553 (drop 11 a0))).2.1 !=0 then some ((0,0,replicate 32 (0:Int),(0,[],[],PUnit.unit),PUnit.unit),false,PUnit.unit)else bif decide (wrap i64 (getD (take 1 (drop 1 a0)) 0 0)<1)then some ((0,0,replicate 32 (0:Int),(0,[],[],PUnit.unit),PUnit.unit),false,PUnit.unit)else bif decide (wrap i64 (getD (take 1 (drop 1 a0)) 0 0)>2147483647)then some ((0,0,replicate 32 (0:Int),(0,[],[],PUnit.unit),PUnit.unit),false,PUnit.unit)else bif decide (wrap i64 (getD (take 1 (drop 2 a0)) 0 0)<1)then some ((0,0,replicate 32 (0:Int),(0,[],[],PUnit.unit),PUnit.unit),false,PUnit.unit)else bif decide (wrap i64 (getD (take 1 (drop 2 a0)) 0 0)>wrap i64 ((↑(length a0):Int)-564))then some ((0,0,replicate 32 (0:Int),(0,[],[],PUnit.unit),PUnit.unit),false,PUnit.unit)else some ((wrap i64 (getD (take 1 (drop 1 a0)) 0 0),wrap i64 (getD (take 1 (drop 2 a0)) 0 0),over (replicate 32 (0:Int)) 0 (take 32 ((v_44 (take 8 (drop 3 a0))).1)),(v_81 (take 553 (drop 11 a0))).1,PUnit.unit),true,PUnit.unit))))))))))
noncomputable def Sp.p_47(a0:(List Int)):Bool:=(F_47 a0).isSome
noncomputable def Sp.v_47(a0:(List Int)):(Int×(Int×((List Int)×((Int×((List (List Int))×((List (List Int))×Unit)))×Unit))))×Bool×Unit:=(F_47 a0).getD (dfH R_47)
noncomputable def s_47:Summ:=shS A_47 R_47 (fun x=>p_47 x.1) (fun x=>v_47 x.1)
theorem pv_47(a0:(List Int)){y:(Int×(Int×((List Int)×((Int×((List (List Int))×((List (List Int))×Unit)))×Unit))))×Bool×Unit}(h:F_47 a0=some y):p_47 a0=true/\v_47 a0=y:=pvG h
theorem run_47(x:HDen A_47)(y:HDen R_47)(h:F_47 x.1=some y):rnF sm_47 3 47 A_47 R_47 x y:=runG noO_ok (os:=[]) trivial (Eq.trans (by kernel_rfl) h)
end
noncomputable section
abbrev A_14:List Ty:=[(.pair (.pair (.slice (.int .u32)) (.pair (.slice (.int .i64)) (.pair (.int .i64) .unit))) (.pair (.arr 32 (.int .u8)) .unit)),(.int .i64)]
abbrev R_14:List Ty:=[(.pair (.int .i64) (.pair (.int .i64) (.pair (.arr 32 (.int .u8)) (.pair (.pair (.int .i64) (.pair (.slice (.arr 32 (.int .u8))) (.pair (.slice (.arr 32 (.int .u8))) .unit))) .unit)))),.bool]
noncomputable def sm_14:Nat->Option Summ:=smL [(12,s_12),(42,s_42),(46,s_46),(47,s_47)]
noncomputable def F_14(a0:(((List Int)×((List Int)×(Int×Unit)))×((List Int)×Unit)))(a1:Int):Option ((Int×(Int×((List Int)×((Int×((List (List Int))×((List (List Int))×Unit)))×Unit))))×Bool×Unit) :=
 gd (p_12 a0) (bif !(v_12 a0).1 then some ((0,0,replicate 32 (0:Int),(0,[],[],PUnit.unit),PUnit.unit),false,PUnit.unit)else gd (p_46 a1) (bif !(v_46 a1).1 then some ((0,0,replicate 32 (0:Int),(0,[],[],PUnit.unit),PUnit.unit),false,PUnit.unit)else gd (p_42 a0 a1) (gd (p_47 ((v_42 a0 a1).1)) (some ((v_47 ((v_42 a0 a1).1)).1,(v_47 ((v_42 a0 a1).1)).2.1,PUnit.unit)))))
noncomputable def Sp.p_14(a0:(((List Int)×((List Int)×(Int×Unit)))×((List Int)×Unit)))(a1:Int):Bool:=(F_14 a0 a1).isSome
noncomputable def Sp.v_14(a0:(((List Int)×((List Int)×(Int×Unit)))×((List Int)×Unit)))(a1:Int):(Int×(Int×((List Int)×((Int×((List (List Int))×((List (List Int))×Unit)))×Unit))))×Bool×Unit:=(F_14 a0 a1).getD (dfH R_14)
noncomputable def s_14:Summ:=shS A_14 R_14 (fun x=>p_14 x.1 x.2.1) (fun x=>v_14 x.1 x.2.1)
theorem pv_14(a0:(((List Int)×((List Int)×(Int×Unit)))×((List Int)×Unit)))(a1:Int){y:(Int×(Int×((List Int)×((Int×((List (List Int))×((List (List Int))×Unit)))×Unit))))×Bool×Unit}(h:F_14 a0 a1=some y):p_14 a0 a1=true/\v_14 a0 a1=y:=pvG h
theorem run_14(x:HDen A_14)(y:HDen R_14)(h:F_14 x.1 x.2.1=some y):rnF sm_14 1 14 A_14 R_14 x y:=runG noO_ok (os:=[]) trivial (Eq.trans (by kernel_rfl) h)
end
noncomputable section
abbrev A_66:List Ty:=[]
abbrev R_66:List Ty:=[(.arr 64 (.int .u32))]
noncomputable def sm_66:Nat->Option Summ:=smL []
noncomputable def F_66:Option ((List Int)×Unit) :=
 some ([1116352408,1899447441,3049323471,3921009573,961987163,1508970993,2453635748,2870763221,3624381080,310598401,607225278,1426881987,1925078388,2162078206,2614888103,3248222580,3835390401,4022224774,264347078,604807628,770255983,1249150122,1555081692,1996064986,2554220882,2821834349,2952996808,3210313671,3336571891,3584528711,113926993,338241895,666307205,773529912,1294757372,1396182291,1695183700,1986661051,2177026350,2456956037,2730485921,2820302411,3259730800,3345764771,3516065817,3600352804,4094571909,275423344,430227734,506948616,659060556,883997877,958139571,1322822218,1537002063,1747873779,1955562222,2024104815,2227730452,2361852424,2428436474,2756734187,3204031479,3329325298],PUnit.unit)
noncomputable def Sp.p_66:Bool:=(F_66).isSome
noncomputable def Sp.v_66:(List Int)×Unit:=(F_66).getD (dfH R_66)
noncomputable def s_66:Summ:=shN A_66 R_66 (fun x=>p_66) (fun x=>v_66)
theorem run_66(x:HDen A_66)(y:HDen R_66)(h:F_66=some y):rnF sm_66 1 66 A_66 R_66 x y:=runG noO_ok (os:=[]) trivial (Eq.trans (by kernel_rfl) h)
end
noncomputable section
abbrev A_95:List Ty:=[(.slice (.int .u8))]
abbrev R_95:List Ty:=[(.int .u32)]
noncomputable def sm_95:Nat->Option Summ:=smL []
noncomputable def F_95(a0:(List Int)):Option (Int×Unit) :=
 gd (inB 0 (length a0)) (gd (inB 1 (length a0)) (gd (inB 2 (length a0)) (gd (inB 3 (length a0)) (some (Sp.orI u32 (Sp.orI u32 (Sp.orI u32 (wrap u32 (wrap u32 (getD a0 0 0)*16777216)) (wrap u32 (wrap u32 (getD a0 1 0)*65536))) (wrap u32 (wrap u32 (getD a0 2 0)*256))) (wrap u32 (getD a0 3 0)),PUnit.unit)))))
noncomputable def Sp.p_95(a0:(List Int)):Bool:=(F_95 a0).isSome
noncomputable def Sp.v_95(a0:(List Int)):Int×Unit:=(F_95 a0).getD (dfH R_95)
noncomputable def s_95:Summ:=shN A_95 R_95 (fun x=>p_95 x.1) (fun x=>v_95 x.1)
theorem pv_95(a0:(List Int)){y:Int×Unit}(h:F_95 a0=some y):p_95 a0=true/\v_95 a0=y:=pvG h
theorem run_95(x:HDen A_95)(y:HDen R_95)(h:F_95 x.1=some y):rnF sm_95 1 95 A_95 R_95 x y:=runG noO_ok (os:=[]) trivial (Eq.trans (by kernel_rfl) h)
end
noncomputable section
abbrev A_104:List Ty:=[(.int .u32),(.int .i64)]
abbrev R_104:List Ty:=[(.int .u32)]
noncomputable def sm_104:Nat->Option Summ:=smL []
noncomputable def F_104(a0 a1:Int):Option (Int×Unit) :=
 gd (decide (0<=wrap u64 (32-Sp.andI u64 (wrap u64 a1) 31))) (some (Sp.orI u32 (wrap u32 (a0*2^Nat.min (toNat (Sp.andI u64 (wrap u64 a1) 31)) 32)) (Int.fdiv a0 (2^Nat.min (toNat (wrap u64 (32-Sp.andI u64 (wrap u64 a1) 31))) 32)),PUnit.unit))
noncomputable def Sp.p_104(a0 a1:Int):Bool:=(F_104 a0 a1).isSome
noncomputable def Sp.v_104(a0 a1:Int):Int×Unit:=(F_104 a0 a1).getD (dfH R_104)
noncomputable def s_104:Summ:=shN A_104 R_104 (fun x=>p_104 x.1 x.2.1) (fun x=>v_104 x.1 x.2.1)
theorem pv_104(a0 a1:Int){y:Int×Unit}(h:F_104 a0 a1=some y):p_104 a0 a1=true/\v_104 a0 a1=y:=pvG h
theorem run_104(x:HDen A_104)(y:HDen R_104)(h:F_104 x.1 x.2.1=some y):rnF sm_104 1 104 A_104 R_104 x y:=runG noO_ok (os:=[]) trivial (Eq.trans (by kernel_rfl) h)
end
noncomputable section
abbrev A_96:List Ty:=[(.int .u32),(.int .i64)]
abbrev R_96:List Ty:=[(.int .u32)]
noncomputable def sm_96:Nat->Option Summ:=smL [(104,s_104)]
noncomputable def F_96(a0 a1:Int):Option (Int×Unit) :=
 gd (p_104 a0 (wrap i64 (0-a1))) (some ((v_104 a0 (wrap i64 (0-a1))).1,PUnit.unit))
noncomputable def Sp.p_96(a0 a1:Int):Bool:=(F_96 a0 a1).isSome
noncomputable def Sp.v_96(a0 a1:Int):Int×Unit:=(F_96 a0 a1).getD (dfH R_96)
noncomputable def s_96:Summ:=shN A_96 R_96 (fun x=>p_96 x.1 x.2.1) (fun x=>v_96 x.1 x.2.1)
theorem pv_96(a0 a1:Int){y:Int×Unit}(h:F_96 a0 a1=some y):p_96 a0 a1=true/\v_96 a0 a1=y:=pvG h
theorem run_96(x:HDen A_96)(y:HDen R_96)(h:F_96 x.1 x.2.1=some y):rnF sm_96 1 96 A_96 R_96 x y:=runG noO_ok (os:=[]) trivial (Eq.trans (by kernel_rfl) h)
end
noncomputable section
abbrev A_35:List Ty:=[(.slice (.int .u8))]
abbrev R_35:List Ty:=[(.arr 32 (.int .u8))]
noncomputable def sm_35:Nat->Option Summ:=smL [(66,s_66),(95,s_95),(96,s_96)]
noncomputable def T_35_67_0_0:PS:=⟨176,[(0,.kc (.ptr 1 [])),(1,.kc (.ptr 2 [])),(2,.hv (.slice (.int .u8))),(6,.kc (.ptr 3 [])),(20,.hv (.int .i64))],[.mem (.hv (.arr 32 (.int .u8))),.mem (.hv (.arr 8 (.int .u32))),.mem (.hv (.arr 64 (.int .u32))),.mem (.hv (.arr 64 (.int .u32)))],3⟩
inductive Sp.E_35_67_0_0 where
 |e0 (p2 p3 p4 p5:List Int)
noncomputable def Sp.B_35_67_0_0{R:Type}(r:Option E_35_67_0_0)(k0:List Int->List Int->List Int->List Int->Option R):Option R:=match r with
 |none=>none
 |some (.e0 p2 p3 p4 p5)=>k0 p2 p3 p4 p5
theorem Bn_35_67_0_0{A R:Type}{r:Option E_35_67_0_0}{f:A->Option R}{k0:List Int->List Int->List Int->List Int->Option A}{l0:List Int->List Int->List Int->List Int->Option R}(h0:∀p2 p3 p4 p5,(k0 p2 p3 p4 p5).bind f=l0 p2 p3 p4 p5):(B_35_67_0_0 r k0).bind f=B_35_67_0_0 r l0:=by
 cases r with
 |none=>rfl
 |some e=>cases e<;>first|apply h0
noncomputable def Y_35_67_0_0{R:Type}(k:Ex->St->Option R):E_35_67_0_0->Option R
 | .e0 p2 p3 p4 p5=>k (Ex.exit 0) (sx 176 [(0,CV.ptr 1 []),(1,CV.ptr 2 []),(6,CV.ptr 3 [])] [Blk.mem (CV.pure (Ty.arr 32 (Ty.int u8)) p2),Blk.mem (CV.pure (Ty.arr 8 (Ty.int u32)) p3),Blk.mem (CV.pure (Ty.arr 64 (Ty.int u32)) p4),Blk.mem (CV.pure (Ty.arr 64 (Ty.int u32)) p5)] 3)
noncomputable def Sp.S_35_67_0_0{R:Type}(K:List Int->Int->List Int->List Int->List Int->List Int->Option R)(k:E_35_67_0_0->Option R)(p0:List Int)(p1:Int)(p2 p3 p4 p5:List Int):Option R:=
 bif decide (p1<16)then gd (sl3 (wrap i64 (4*p1)) (↑(length p0):Int) (↑(length p0):Int)) (gd (p_95 (drop (toNat (wrap i64 (4*p1))) p0)) (gd (inB p1 64) (gd (decide (toNat p1<64)&&true) (K p0 (wrap i64 (p1+1)) p2 p3 p4 (List.set p5 (toNat p1) ((v_95 (drop (toNat (wrap i64 (4*p1))) p0)).1))))))else k (E_35_67_0_0.e0 p2 p3 p4 p5)
noncomputable def Sp.L_35_67_0_0:Nat->List Int->Int->List Int->List Int->List Int->List Int->Option E_35_67_0_0
 |0,_,_,_,_,_,_=>none
 |m+1,p0,p1,p2,p3,p4,p5=>S_35_67_0_0 (L_35_67_0_0 m) some p0 p1 p2 p3 p4 p5
noncomputable def l_35_67_0_0(m:Nat)(a:T_35_67_0_0.E):Option E_35_67_0_0:=L_35_67_0_0 m a.1 a.2.1 a.2.2.1 a.2.2.2.1 a.2.2.2.2.1 a.2.2.2.2.2.1
noncomputable def O_35_67_0_0{R:Type}:Orc R:=orL T_35_67_0_0 (l_35_67_0_0 FU) Y_35_67_0_0
theorem OK_35_67_0_0{R:Type}:okF (R:=R) sm_35 0 (nf 67 0) O_35_67_0_0:=lp0 T_35_67_0_0 l_35_67_0_0 (fun R K k a=>S_35_67_0_0 (fun p0 p1 p2 p3 p4 p5=>K (p0,p1,p2,p3,p4,p5,())) k a.1 a.2.1 a.2.2.1 a.2.2.2.1 a.2.2.2.2.1 a.2.2.2.2.2.1) Y_35_67_0_0 (fun _ _ _=>by kernel_rfl) (fun _ _ _=>by
 unfold S_35_67_0_0
 repeat' first|apply gdN|apply condN|rfl) (ok0 _)
noncomputable def T_35_67_0_1:PS:=⟨176,[(0,.kc (.ptr 1 [])),(1,.kc (.ptr 2 [])),(2,.sb 3 [] 1 none none (some none)),(6,.kc (.ptr 4 [])),(20,.hv (.int .i64))],[.mem (.hv (.arr 32 (.int .u8))),.mem (.hv (.arr 8 (.int .u32))),.mem (.hv (.arr 64 (.int .u32))),.mem (.hv (.arr 128 (.int .u8))),.mem (.hv (.arr 64 (.int .u32)))],4⟩
inductive Sp.E_35_67_0_1 where
 |e0 (p4 p5 p6 p7 p8:List Int)
noncomputable def Sp.B_35_67_0_1{R:Type}(r:Option E_35_67_0_1)(k0:List Int->List Int->List Int->List Int->List Int->Option R):Option R:=match r with
 |none=>none
 |some (.e0 p4 p5 p6 p7 p8)=>k0 p4 p5 p6 p7 p8
theorem Bn_35_67_0_1{A R:Type}{r:Option E_35_67_0_1}{f:A->Option R}{k0:List Int->List Int->List Int->List Int->List Int->Option A}{l0:List Int->List Int->List Int->List Int->List Int->Option R}(h0:∀p4 p5 p6 p7 p8,(k0 p4 p5 p6 p7 p8).bind f=l0 p4 p5 p6 p7 p8):(B_35_67_0_1 r k0).bind f=B_35_67_0_1 r l0:=by
 cases r with
 |none=>rfl
 |some e=>cases e<;>first|apply h0
noncomputable def Y_35_67_0_1{R:Type}(k:Ex->St->Option R):E_35_67_0_1->Option R
 | .e0 p4 p5 p6 p7 p8=>k (Ex.exit 0) (sx 176 [(0,CV.ptr 1 []),(1,CV.ptr 2 []),(6,CV.ptr 4 [])] [Blk.mem (CV.pure (Ty.arr 32 (Ty.int u8)) p4),Blk.mem (CV.pure (Ty.arr 8 (Ty.int u32)) p5),Blk.mem (CV.pure (Ty.arr 64 (Ty.int u32)) p6),Blk.mem (CV.pure (Ty.arr 128 (Ty.int u8)) p7),Blk.mem (CV.pure (Ty.arr 64 (Ty.int u32)) p8)] 4)
noncomputable def Sp.S_35_67_0_1{R:Type}(K:Nat->Nat->Nat->Int->List Int->List Int->List Int->List Int->List Int->Option R)(k:E_35_67_0_1->Option R)(p0 p1 p2:Nat)(p3:Int)(p4 p5 p6 p7 p8:List Int):Option R:=
 bif decide (p3<16)then gd (sl3 (wrap i64 (4*p3)) (↑p1:Int) (↑p1:Int)) (gd (decide (p0+toNat (wrap i64 (4*p3))+(toNat (↑p1:Int)-toNat (wrap i64 (4*p3)))<=128)&&true&&p_95 (take (toNat (↑p1:Int)-toNat (wrap i64 (4*p3))) (drop (p0+toNat (wrap i64 (4*p3))) p7))) (gd (inB p3 64) (gd (decide (toNat p3<64)&&true) (K p0 p1 p2 (wrap i64 (p3+1)) p4 p5 p6 p7 (List.set p8 (toNat p3) ((v_95 (take (toNat (↑p1:Int)-toNat (wrap i64 (4*p3))) (drop (p0+toNat (wrap i64 (4*p3))) p7))).1))))))else k (E_35_67_0_1.e0 p4 p5 p6 p7 p8)
noncomputable def Sp.L_35_67_0_1:Nat->Nat->Nat->Nat->Int->List Int->List Int->List Int->List Int->List Int->Option E_35_67_0_1
 |0,_,_,_,_,_,_,_,_,_=>none
 |m+1,p0,p1,p2,p3,p4,p5,p6,p7,p8=>S_35_67_0_1 (L_35_67_0_1 m) some p0 p1 p2 p3 p4 p5 p6 p7 p8
noncomputable def l_35_67_0_1(m:Nat)(a:T_35_67_0_1.E):Option E_35_67_0_1:=L_35_67_0_1 m a.1 a.2.1 a.2.2.1 a.2.2.2.1 a.2.2.2.2.1 a.2.2.2.2.2.1 a.2.2.2.2.2.2.1 a.2.2.2.2.2.2.2.1 a.2.2.2.2.2.2.2.2.1
noncomputable def O_35_67_0_1{R:Type}:Orc R:=orL T_35_67_0_1 (l_35_67_0_1 FU) Y_35_67_0_1 O_35_67_0_0
theorem OK_35_67_0_1{R:Type}:okF (R:=R) sm_35 0 (nf 67 0) O_35_67_0_1:=lp0 T_35_67_0_1 l_35_67_0_1 (fun R K k a=>S_35_67_0_1 (fun p0 p1 p2 p3 p4 p5 p6 p7 p8=>K (p0,p1,p2,p3,p4,p5,p6,p7,p8,())) k a.1 a.2.1 a.2.2.1 a.2.2.2.1 a.2.2.2.2.1 a.2.2.2.2.2.1 a.2.2.2.2.2.2.1 a.2.2.2.2.2.2.2.1 a.2.2.2.2.2.2.2.2.1) Y_35_67_0_1 (fun _ _ _=>by kernel_rfl) (fun _ _ _=>by
 unfold S_35_67_0_1
 repeat' first|apply gdN|apply condN|rfl) OK_35_67_0_0
noncomputable def T_35_67_1_0:PS:=⟨176,[(0,.kc (.ptr 1 [])),(1,.kc (.ptr 2 [])),(6,.kc (.ptr 3 [])),(8,.hv (.int .i64))],[.mem (.hv (.arr 32 (.int .u8))),.mem (.hv (.arr 8 (.int .u32))),.mem (.hv (.arr 64 (.int .u32))),.mem (.hv (.arr 64 (.int .u32)))],3⟩
inductive Sp.E_35_67_1_0 where
 |e0 (p1 p2 p3 p4:List Int)
noncomputable def Sp.B_35_67_1_0{R:Type}(r:Option E_35_67_1_0)(k0:List Int->List Int->List Int->List Int->Option R):Option R:=match r with
 |none=>none
 |some (.e0 p1 p2 p3 p4)=>k0 p1 p2 p3 p4
theorem Bn_35_67_1_0{A R:Type}{r:Option E_35_67_1_0}{f:A->Option R}{k0:List Int->List Int->List Int->List Int->Option A}{l0:List Int->List Int->List Int->List Int->Option R}(h0:∀p1 p2 p3 p4,(k0 p1 p2 p3 p4).bind f=l0 p1 p2 p3 p4):(B_35_67_1_0 r k0).bind f=B_35_67_1_0 r l0:=by
 cases r with
 |none=>rfl
 |some e=>cases e<;>first|apply h0
noncomputable def Y_35_67_1_0{R:Type}(k:Ex->St->Option R):E_35_67_1_0->Option R
 | .e0 p1 p2 p3 p4=>k (Ex.exit 2) (sx 176 [(0,CV.ptr 1 []),(1,CV.ptr 2 []),(6,CV.ptr 3 [])] [Blk.mem (CV.pure (Ty.arr 32 (Ty.int u8)) p1),Blk.mem (CV.pure (Ty.arr 8 (Ty.int u32)) p2),Blk.mem (CV.pure (Ty.arr 64 (Ty.int u32)) p3),Blk.mem (CV.pure (Ty.arr 64 (Ty.int u32)) p4)] 3)
noncomputable def Sp.S_35_67_1_0{R:Type}(K:Int->List Int->List Int->List Int->List Int->Option R)(k:E_35_67_1_0->Option R)(p0:Int)(p1 p2 p3 p4:List Int):Option R:=
 bif decide (p0<64)then gd (inB (wrap i64 (p0-15)) 64) (gd (decide (toNat (wrap i64 (p0-15))<64)&&true) (gd (inB (wrap i64 (p0-2)) 64) (gd (decide (toNat (wrap i64 (p0-2))<64)&&true) (gd (p_96 (getD p4 (toNat (wrap i64 (p0-15))) 0) 7) (gd (p_96 (getD p4 (toNat (wrap i64 (p0-15))) 0) 18) (gd (p_96 (getD p4 (toNat (wrap i64 (p0-2))) 0) 17) (gd (p_96 (getD p4 (toNat (wrap i64 (p0-2))) 0) 19) (gd (inB (wrap i64 (p0-7)) 64) (gd (decide (toNat (wrap i64 (p0-7))<64)&&true) (gd (inB (wrap i64 (p0-16)) 64) (gd (decide (toNat (wrap i64 (p0-16))<64)&&true) (gd (inB p0 64) (gd (decide (toNat p0<64)&&true) (K (wrap i64 (p0+1)) p1 p2 p3 (List.set p4 (toNat p0) (wrap u32 (wrap u32 (wrap u32 (Sp.xorI u32 (Sp.xorI u32 ((v_96 (getD p4 (toNat (wrap i64 (p0-2))) 0) 17).1) ((v_96 (getD p4 (toNat (wrap i64 (p0-2))) 0) 19).1)) (Int.fdiv (getD p4 (toNat (wrap i64 (p0-2))) 0) 1024)+getD p4 (toNat (wrap i64 (p0-7))) 0)+Sp.xorI u32 (Sp.xorI u32 ((v_96 (getD p4 (toNat (wrap i64 (p0-15))) 0) 7).1) ((v_96 (getD p4 (toNat (wrap i64 (p0-15))) 0) 18).1)) (Int.fdiv (getD p4 (toNat (wrap i64 (p0-15))) 0) 8))+getD p4 (toNat (wrap i64 (p0-16))) 0)))))))))))))))))else k (E_35_67_1_0.e0 p1 p2 p3 p4)
noncomputable def Sp.L_35_67_1_0:Nat->Int->List Int->List Int->List Int->List Int->Option E_35_67_1_0
 |0,_,_,_,_,_=>none
 |m+1,p0,p1,p2,p3,p4=>S_35_67_1_0 (L_35_67_1_0 m) some p0 p1 p2 p3 p4
noncomputable def l_35_67_1_0(m:Nat)(a:T_35_67_1_0.E):Option E_35_67_1_0:=L_35_67_1_0 m a.1 a.2.1 a.2.2.1 a.2.2.2.1 a.2.2.2.2.1
noncomputable def O_35_67_1_0{R:Type}:Orc R:=orL T_35_67_1_0 (l_35_67_1_0 FU) Y_35_67_1_0
theorem OK_35_67_1_0{R:Type}:okF (R:=R) sm_35 0 (nf 67 1) O_35_67_1_0:=lp0 T_35_67_1_0 l_35_67_1_0 (fun R K k a=>S_35_67_1_0 (fun p0 p1 p2 p3 p4=>K (p0,p1,p2,p3,p4,())) k a.1 a.2.1 a.2.2.1 a.2.2.2.1 a.2.2.2.2.1) Y_35_67_1_0 (fun _ _ _=>by kernel_rfl) (fun _ _ _=>by
 unfold S_35_67_1_0
 repeat' first|apply gdN|apply condN|rfl) (ok0 _)
noncomputable def T_35_67_1_1:PS:=⟨176,[(0,.kc (.ptr 1 [])),(1,.kc (.ptr 2 [])),(6,.kc (.ptr 4 [])),(8,.hv (.int .i64))],[.mem (.hv (.arr 32 (.int .u8))),.mem (.hv (.arr 8 (.int .u32))),.mem (.hv (.arr 64 (.int .u32))),.mem (.hv (.arr 128 (.int .u8))),.mem (.hv (.arr 64 (.int .u32)))],4⟩
inductive Sp.E_35_67_1_1 where
 |e0 (p1 p2 p3 p4 p5:List Int)
noncomputable def Sp.B_35_67_1_1{R:Type}(r:Option E_35_67_1_1)(k0:List Int->List Int->List Int->List Int->List Int->Option R):Option R:=match r with
 |none=>none
 |some (.e0 p1 p2 p3 p4 p5)=>k0 p1 p2 p3 p4 p5
theorem Bn_35_67_1_1{A R:Type}{r:Option E_35_67_1_1}{f:A->Option R}{k0:List Int->List Int->List Int->List Int->List Int->Option A}{l0:List Int->List Int->List Int->List Int->List Int->Option R}(h0:∀p1 p2 p3 p4 p5,(k0 p1 p2 p3 p4 p5).bind f=l0 p1 p2 p3 p4 p5):(B_35_67_1_1 r k0).bind f=B_35_67_1_1 r l0:=by
 cases r with
 |none=>rfl
 |some e=>cases e<;>first|apply h0
noncomputable def Y_35_67_1_1{R:Type}(k:Ex->St->Option R):E_35_67_1_1->Option R
 | .e0 p1 p2 p3 p4 p5=>k (Ex.exit 2) (sx 176 [(0,CV.ptr 1 []),(1,CV.ptr 2 []),(6,CV.ptr 4 [])] [Blk.mem (CV.pure (Ty.arr 32 (Ty.int u8)) p1),Blk.mem (CV.pure (Ty.arr 8 (Ty.int u32)) p2),Blk.mem (CV.pure (Ty.arr 64 (Ty.int u32)) p3),Blk.mem (CV.pure (Ty.arr 128 (Ty.int u8)) p4),Blk.mem (CV.pure (Ty.arr 64 (Ty.int u32)) p5)] 4)
noncomputable def Sp.S_35_67_1_1{R:Type}(K:Int->List Int->List Int->List Int->List Int->List Int->Option R)(k:E_35_67_1_1->Option R)(p0:Int)(p1 p2 p3 p4 p5:List Int):Option R:=
 bif decide (p0<64)then gd (inB (wrap i64 (p0-15)) 64) (gd (decide (toNat (wrap i64 (p0-15))<64)&&true) (gd (inB (wrap i64 (p0-2)) 64) (gd (decide (toNat (wrap i64 (p0-2))<64)&&true) (gd (p_96 (getD p5 (toNat (wrap i64 (p0-15))) 0) 7) (gd (p_96 (getD p5 (toNat (wrap i64 (p0-15))) 0) 18) (gd (p_96 (getD p5 (toNat (wrap i64 (p0-2))) 0) 17) (gd (p_96 (getD p5 (toNat (wrap i64 (p0-2))) 0) 19) (gd (inB (wrap i64 (p0-7)) 64) (gd (decide (toNat (wrap i64 (p0-7))<64)&&true) (gd (inB (wrap i64 (p0-16)) 64) (gd (decide (toNat (wrap i64 (p0-16))<64)&&true) (gd (inB p0 64) (gd (decide (toNat p0<64)&&true) (K (wrap i64 (p0+1)) p1 p2 p3 p4 (List.set p5 (toNat p0) (wrap u32 (wrap u32 (wrap u32 (Sp.xorI u32 (Sp.xorI u32 ((v_96 (getD p5 (toNat (wrap i64 (p0-2))) 0) 17).1) ((v_96 (getD p5 (toNat (wrap i64 (p0-2))) 0) 19).1)) (Int.fdiv (getD p5 (toNat (wrap i64 (p0-2))) 0) 1024)+getD p5 (toNat (wrap i64 (p0-7))) 0)+Sp.xorI u32 (Sp.xorI u32 ((v_96 (getD p5 (toNat (wrap i64 (p0-15))) 0) 7).1) ((v_96 (getD p5 (toNat (wrap i64 (p0-15))) 0) 18).1)) (Int.fdiv (getD p5 (toNat (wrap i64 (p0-15))) 0) 8))+getD p5 (toNat (wrap i64 (p0-16))) 0)))))))))))))))))else k (E_35_67_1_1.e0 p1 p2 p3 p4 p5)
noncomputable def Sp.L_35_67_1_1:Nat->Int->List Int->List Int->List Int->List Int->List Int->Option E_35_67_1_1
 |0,_,_,_,_,_,_=>none
 |m+1,p0,p1,p2,p3,p4,p5=>S_35_67_1_1 (L_35_67_1_1 m) some p0 p1 p2 p3 p4 p5
noncomputable def l_35_67_1_1(m:Nat)(a:T_35_67_1_1.E):Option E_35_67_1_1:=L_35_67_1_1 m a.1 a.2.1 a.2.2.1 a.2.2.2.1 a.2.2.2.2.1 a.2.2.2.2.2.1
noncomputable def O_35_67_1_1{R:Type}:Orc R:=orL T_35_67_1_1 (l_35_67_1_1 FU) Y_35_67_1_1 O_35_67_1_0
theorem OK_35_67_1_1{R:Type}:okF (R:=R) sm_35 0 (nf 67 1) O_35_67_1_1:=lp0 T_35_67_1_1 l_35_67_1_1 (fun R K k a=>S_35_67_1_1 (fun p0 p1 p2 p3 p4 p5=>K (p0,p1,p2,p3,p4,p5,())) k a.1 a.2.1 a.2.2.1 a.2.2.2.1 a.2.2.2.2.1 a.2.2.2.2.2.1) Y_35_67_1_1 (fun _ _ _=>by kernel_rfl) (fun _ _ _=>by
 unfold S_35_67_1_1
 repeat' first|apply gdN|apply condN|rfl) OK_35_67_1_0
noncomputable def T_35_67_2_0:PS:=⟨176,[(0,.kc (.ptr 1 [])),(1,.kc (.ptr 2 [])),(6,.kc (.ptr 3 [])),(13,.kc (.ptr 4 [])),(77,.hv (.int .i64))],[.mem (.hv (.arr 32 (.int .u8))),.mem (.hv (.arr 8 (.int .u32))),.mem (.hv (.arr 64 (.int .u32))),.mem (.hv (.arr 64 (.int .u32))),.mem (.hv (.arr 8 (.int .u32)))],3⟩
inductive Sp.E_35_67_2_0 where
 |e0 (p1 p2 p3 p5:List Int)
noncomputable def Sp.B_35_67_2_0{R:Type}(r:Option E_35_67_2_0)(k0:List Int->List Int->List Int->List Int->Option R):Option R:=match r with
 |none=>none
 |some (.e0 p1 p2 p3 p5)=>k0 p1 p2 p3 p5
theorem Bn_35_67_2_0{A R:Type}{r:Option E_35_67_2_0}{f:A->Option R}{k0:List Int->List Int->List Int->List Int->Option A}{l0:List Int->List Int->List Int->List Int->Option R}(h0:∀p1 p2 p3 p5,(k0 p1 p2 p3 p5).bind f=l0 p1 p2 p3 p5):(B_35_67_2_0 r k0).bind f=B_35_67_2_0 r l0:=by
 cases r with
 |none=>rfl
 |some e=>cases e<;>first|apply h0
noncomputable def Y_35_67_2_0{R:Type}(k:Ex->St->Option R):E_35_67_2_0->Option R
 | .e0 p1 p2 p3 p5=>k (Ex.exit 4) (sx 176 [(0,CV.ptr 1 []),(13,CV.ptr 3 [])] [Blk.mem (CV.pure (Ty.arr 32 (Ty.int u8)) p1),Blk.mem (CV.pure (Ty.arr 8 (Ty.int u32)) p2),Blk.mem (CV.pure (Ty.arr 64 (Ty.int u32)) p3),Blk.mem (CV.pure (Ty.arr 8 (Ty.int u32)) p5)] 3)
noncomputable def Sp.S_35_67_2_0{R:Type}(K:Int->List Int->List Int->List Int->List Int->List Int->Option R)(k:E_35_67_2_0->Option R)(p0:Int)(p1 p2 p3 p4 p5:List Int):Option R:=
 bif decide (p0<64)then gd (p_96 (getD p5 4 0) 6) (gd (p_96 (getD p5 4 0) 11) (gd (p_96 (getD p5 4 0) 25) (gd (inB p0 64) (gd (decide (toNat p0<64)&&true) (gd (inB p0 64) (gd (decide (toNat p0<64)&&true) (gd (p_96 (getD p5 0 0) 2) (gd (p_96 (getD p5 0 0) 13) (gd (p_96 (getD p5 0 0) 22) (K (wrap i64 (p0+1)) p1 p2 p3 p4 [wrap u32 (wrap u32 (wrap u32 (wrap u32 (wrap u32 (getD p5 7 0+Sp.xorI u32 (Sp.xorI u32 ((v_96 (getD p5 4 0) 6).1) ((v_96 (getD p5 4 0) 11).1)) ((v_96 (getD p5 4 0) 25).1))+Sp.xorI u32 (Sp.andI u32 (getD p5 4 0) (getD p5 5 0)) (Sp.andI u32 (Sp.xorI u32 4294967295 (getD p5 4 0)) (getD p5 6 0)))+getD p3 (toNat p0) 0)+getD p4 (toNat p0) 0)+wrap u32 (Sp.xorI u32 (Sp.xorI u32 ((v_96 (getD p5 0 0) 2).1) ((v_96 (getD p5 0 0) 13).1)) ((v_96 (getD p5 0 0) 22).1)+Sp.xorI u32 (Sp.xorI u32 (Sp.andI u32 (getD p5 0 0) (getD p5 1 0)) (Sp.andI u32 (getD p5 0 0) (getD p5 2 0))) (Sp.andI u32 (getD p5 1 0) (getD p5 2 0)))),getD p5 0 0,getD p5 1 0,getD p5 2 0,wrap u32 (getD p5 3 0+wrap u32 (wrap u32 (wrap u32 (wrap u32 (getD p5 7 0+Sp.xorI u32 (Sp.xorI u32 ((v_96 (getD p5 4 0) 6).1) ((v_96 (getD p5 4 0) 11).1)) ((v_96 (getD p5 4 0) 25).1))+Sp.xorI u32 (Sp.andI u32 (getD p5 4 0) (getD p5 5 0)) (Sp.andI u32 (Sp.xorI u32 4294967295 (getD p5 4 0)) (getD p5 6 0)))+getD p3 (toNat p0) 0)+getD p4 (toNat p0) 0)),getD p5 4 0,getD p5 5 0,getD p5 6 0]))))))))))else k (E_35_67_2_0.e0 p1 p2 p3 p5)
noncomputable def Sp.L_35_67_2_0:Nat->Int->List Int->List Int->List Int->List Int->List Int->Option E_35_67_2_0
 |0,_,_,_,_,_,_=>none
 |m+1,p0,p1,p2,p3,p4,p5=>S_35_67_2_0 (L_35_67_2_0 m) some p0 p1 p2 p3 p4 p5
noncomputable def l_35_67_2_0(m:Nat)(a:T_35_67_2_0.E):Option E_35_67_2_0:=L_35_67_2_0 m a.1 a.2.1 a.2.2.1 a.2.2.2.1 a.2.2.2.2.1 a.2.2.2.2.2.1
noncomputable def O_35_67_2_0{R:Type}:Orc R:=orL T_35_67_2_0 (l_35_67_2_0 FU) Y_35_67_2_0
theorem OK_35_67_2_0{R:Type}:okF (R:=R) sm_35 0 (nf 67 2) O_35_67_2_0:=lp0 T_35_67_2_0 l_35_67_2_0 (fun R K k a=>S_35_67_2_0 (fun p0 p1 p2 p3 p4 p5=>K (p0,p1,p2,p3,p4,p5,())) k a.1 a.2.1 a.2.2.1 a.2.2.2.1 a.2.2.2.2.1 a.2.2.2.2.2.1) Y_35_67_2_0 (fun _ _ _=>by kernel_rfl) (fun _ _ _=>by
 unfold S_35_67_2_0
 repeat' first|apply gdN|apply condN|rfl) (ok0 _)
noncomputable def T_35_67_2_1:PS:=⟨176,[(0,.kc (.ptr 1 [])),(1,.kc (.ptr 2 [])),(6,.kc (.ptr 4 [])),(13,.kc (.ptr 5 [])),(77,.hv (.int .i64))],[.mem (.hv (.arr 32 (.int .u8))),.mem (.hv (.arr 8 (.int .u32))),.mem (.hv (.arr 64 (.int .u32))),.mem (.hv (.arr 128 (.int .u8))),.mem (.hv (.arr 64 (.int .u32))),.mem (.hv (.arr 8 (.int .u32)))],4⟩
inductive Sp.E_35_67_2_1 where
 |e0 (p1 p2 p3 p4 p6:List Int)
noncomputable def Sp.B_35_67_2_1{R:Type}(r:Option E_35_67_2_1)(k0:List Int->List Int->List Int->List Int->List Int->Option R):Option R:=match r with
 |none=>none
 |some (.e0 p1 p2 p3 p4 p6)=>k0 p1 p2 p3 p4 p6
theorem Bn_35_67_2_1{A R:Type}{r:Option E_35_67_2_1}{f:A->Option R}{k0:List Int->List Int->List Int->List Int->List Int->Option A}{l0:List Int->List Int->List Int->List Int->List Int->Option R}(h0:∀p1 p2 p3 p4 p6,(k0 p1 p2 p3 p4 p6).bind f=l0 p1 p2 p3 p4 p6):(B_35_67_2_1 r k0).bind f=B_35_67_2_1 r l0:=by
 cases r with
 |none=>rfl
 |some e=>cases e<;>first|apply h0
noncomputable def Y_35_67_2_1{R:Type}(k:Ex->St->Option R):E_35_67_2_1->Option R
 | .e0 p1 p2 p3 p4 p6=>k (Ex.exit 4) (sx 176 [(0,CV.ptr 1 []),(13,CV.ptr 4 [])] [Blk.mem (CV.pure (Ty.arr 32 (Ty.int u8)) p1),Blk.mem (CV.pure (Ty.arr 8 (Ty.int u32)) p2),Blk.mem (CV.pure (Ty.arr 64 (Ty.int u32)) p3),Blk.mem (CV.pure (Ty.arr 128 (Ty.int u8)) p4),Blk.mem (CV.pure (Ty.arr 8 (Ty.int u32)) p6)] 4)
noncomputable def Sp.S_35_67_2_1{R:Type}(K:Int->List Int->List Int->List Int->List Int->List Int->List Int->Option R)(k:E_35_67_2_1->Option R)(p0:Int)(p1 p2 p3 p4 p5 p6:List Int):Option R:=
 bif decide (p0<64)then gd (p_96 (getD p6 4 0) 6) (gd (p_96 (getD p6 4 0) 11) (gd (p_96 (getD p6 4 0) 25) (gd (inB p0 64) (gd (decide (toNat p0<64)&&true) (gd (inB p0 64) (gd (decide (toNat p0<64)&&true) (gd (p_96 (getD p6 0 0) 2) (gd (p_96 (getD p6 0 0) 13) (gd (p_96 (getD p6 0 0) 22) (K (wrap i64 (p0+1)) p1 p2 p3 p4 p5 [wrap u32 (wrap u32 (wrap u32 (wrap u32 (wrap u32 (getD p6 7 0+Sp.xorI u32 (Sp.xorI u32 ((v_96 (getD p6 4 0) 6).1) ((v_96 (getD p6 4 0) 11).1)) ((v_96 (getD p6 4 0) 25).1))+Sp.xorI u32 (Sp.andI u32 (getD p6 4 0) (getD p6 5 0)) (Sp.andI u32 (Sp.xorI u32 4294967295 (getD p6 4 0)) (getD p6 6 0)))+getD p3 (toNat p0) 0)+getD p5 (toNat p0) 0)+wrap u32 (Sp.xorI u32 (Sp.xorI u32 ((v_96 (getD p6 0 0) 2).1) ((v_96 (getD p6 0 0) 13).1)) ((v_96 (getD p6 0 0) 22).1)+Sp.xorI u32 (Sp.xorI u32 (Sp.andI u32 (getD p6 0 0) (getD p6 1 0)) (Sp.andI u32 (getD p6 0 0) (getD p6 2 0))) (Sp.andI u32 (getD p6 1 0) (getD p6 2 0)))),getD p6 0 0,getD p6 1 0,getD p6 2 0,wrap u32 (getD p6 3 0+wrap u32 (wrap u32 (wrap u32 (wrap u32 (getD p6 7 0+Sp.xorI u32 (Sp.xorI u32 ((v_96 (getD p6 4 0) 6).1) ((v_96 (getD p6 4 0) 11).1)) ((v_96 (getD p6 4 0) 25).1))+Sp.xorI u32 (Sp.andI u32 (getD p6 4 0) (getD p6 5 0)) (Sp.andI u32 (Sp.xorI u32 4294967295 (getD p6 4 0)) (getD p6 6 0)))+getD p3 (toNat p0) 0)+getD p5 (toNat p0) 0)),getD p6 4 0,getD p6 5 0,getD p6 6 0]))))))))))else k (E_35_67_2_1.e0 p1 p2 p3 p4 p6)
noncomputable def Sp.L_35_67_2_1:Nat->Int->List Int->List Int->List Int->List Int->List Int->List Int->Option E_35_67_2_1
 |0,_,_,_,_,_,_,_=>none
 |m+1,p0,p1,p2,p3,p4,p5,p6=>S_35_67_2_1 (L_35_67_2_1 m) some p0 p1 p2 p3 p4 p5 p6
noncomputable def l_35_67_2_1(m:Nat)(a:T_35_67_2_1.E):Option E_35_67_2_1:=L_35_67_2_1 m a.1 a.2.1 a.2.2.1 a.2.2.2.1 a.2.2.2.2.1 a.2.2.2.2.2.1 a.2.2.2.2.2.2.1
noncomputable def O_35_67_2_1{R:Type}:Orc R:=orL T_35_67_2_1 (l_35_67_2_1 FU) Y_35_67_2_1 O_35_67_2_0
theorem OK_35_67_2_1{R:Type}:okF (R:=R) sm_35 0 (nf 67 2) O_35_67_2_1:=lp0 T_35_67_2_1 l_35_67_2_1 (fun R K k a=>S_35_67_2_1 (fun p0 p1 p2 p3 p4 p5 p6=>K (p0,p1,p2,p3,p4,p5,p6,())) k a.1 a.2.1 a.2.2.1 a.2.2.2.1 a.2.2.2.2.1 a.2.2.2.2.2.1 a.2.2.2.2.2.2.1) Y_35_67_2_1 (fun _ _ _=>by kernel_rfl) (fun _ _ _=>by
 unfold S_35_67_2_1
 repeat' first|apply gdN|apply condN|rfl) OK_35_67_2_0
noncomputable def T_35_67_3_0:PS:=⟨176,[(0,.kc (.ptr 1 [])),(13,.kc (.ptr 3 [])),(161,.hv (.int .i64))],[.mem (.hv (.arr 32 (.int .u8))),.mem (.hv (.arr 8 (.int .u32))),.mem (.hv (.arr 64 (.int .u32))),.mem (.hv (.arr 8 (.int .u32)))],3⟩
inductive Sp.E_35_67_3_0 where
 |e0 (p1 p2 p3:List Int)
noncomputable def Sp.B_35_67_3_0{R:Type}(r:Option E_35_67_3_0)(k0:List Int->List Int->List Int->Option R):Option R:=match r with
 |none=>none
 |some (.e0 p1 p2 p3)=>k0 p1 p2 p3
theorem Bn_35_67_3_0{A R:Type}{r:Option E_35_67_3_0}{f:A->Option R}{k0:List Int->List Int->List Int->Option A}{l0:List Int->List Int->List Int->Option R}(h0:∀p1 p2 p3,(k0 p1 p2 p3).bind f=l0 p1 p2 p3):(B_35_67_3_0 r k0).bind f=B_35_67_3_0 r l0:=by
 cases r with
 |none=>rfl
 |some e=>cases e<;>first|apply h0
noncomputable def Y_35_67_3_0{R:Type}(k:Ex->St->Option R):E_35_67_3_0->Option R
 | .e0 p1 p2 p3=>k (Ex.exit 6) (sx 176 [] [Blk.mem (CV.pure (Ty.arr 32 (Ty.int u8)) p1),Blk.mem (CV.pure (Ty.arr 8 (Ty.int u32)) p2),Blk.mem (CV.pure (Ty.arr 64 (Ty.int u32)) p3)] 3)
noncomputable def Sp.S_35_67_3_0{R:Type}(K:Int->List Int->List Int->List Int->List Int->Option R)(k:E_35_67_3_0->Option R)(p0:Int)(p1 p2 p3 p4:List Int):Option R:=
 bif decide (p0<8)then gd (inB p0 8) (gd (decide (toNat p0<8)&&true) (gd (inB p0 8) (gd (decide (toNat p0<8)&&true) (gd (inB p0 8) (gd (decide (toNat p0<8)&&true) (K (wrap i64 (p0+1)) p1 (List.set p2 (toNat p0) (wrap u32 (getD p2 (toNat p0) 0+getD p4 (toNat p0) 0))) p3 p4))))))else k (E_35_67_3_0.e0 p1 p2 p3)
noncomputable def Sp.L_35_67_3_0:Nat->Int->List Int->List Int->List Int->List Int->Option E_35_67_3_0
 |0,_,_,_,_,_=>none
 |m+1,p0,p1,p2,p3,p4=>S_35_67_3_0 (L_35_67_3_0 m) some p0 p1 p2 p3 p4
noncomputable def l_35_67_3_0(m:Nat)(a:T_35_67_3_0.E):Option E_35_67_3_0:=L_35_67_3_0 m a.1 a.2.1 a.2.2.1 a.2.2.2.1 a.2.2.2.2.1
noncomputable def O_35_67_3_0{R:Type}:Orc R:=orL T_35_67_3_0 (l_35_67_3_0 FU) Y_35_67_3_0
theorem OK_35_67_3_0{R:Type}:okF (R:=R) sm_35 0 (nf 67 3) O_35_67_3_0:=lp0 T_35_67_3_0 l_35_67_3_0 (fun R K k a=>S_35_67_3_0 (fun p0 p1 p2 p3 p4=>K (p0,p1,p2,p3,p4,())) k a.1 a.2.1 a.2.2.1 a.2.2.2.1 a.2.2.2.2.1) Y_35_67_3_0 (fun _ _ _=>by kernel_rfl) (fun _ _ _=>by
 unfold S_35_67_3_0
 repeat' first|apply gdN|apply condN|rfl) (ok0 _)
noncomputable def T_35_67_3_1:PS:=⟨176,[(0,.kc (.ptr 1 [])),(13,.kc (.ptr 4 [])),(161,.hv (.int .i64))],[.mem (.hv (.arr 32 (.int .u8))),.mem (.hv (.arr 8 (.int .u32))),.mem (.hv (.arr 64 (.int .u32))),.mem (.hv (.arr 128 (.int .u8))),.mem (.hv (.arr 8 (.int .u32)))],4⟩
inductive Sp.E_35_67_3_1 where
 |e0 (p1 p2 p3 p4:List Int)
noncomputable def Sp.B_35_67_3_1{R:Type}(r:Option E_35_67_3_1)(k0:List Int->List Int->List Int->List Int->Option R):Option R:=match r with
 |none=>none
 |some (.e0 p1 p2 p3 p4)=>k0 p1 p2 p3 p4
theorem Bn_35_67_3_1{A R:Type}{r:Option E_35_67_3_1}{f:A->Option R}{k0:List Int->List Int->List Int->List Int->Option A}{l0:List Int->List Int->List Int->List Int->Option R}(h0:∀p1 p2 p3 p4,(k0 p1 p2 p3 p4).bind f=l0 p1 p2 p3 p4):(B_35_67_3_1 r k0).bind f=B_35_67_3_1 r l0:=by
 cases r with
 |none=>rfl
 |some e=>cases e<;>first|apply h0
noncomputable def Y_35_67_3_1{R:Type}(k:Ex->St->Option R):E_35_67_3_1->Option R
 | .e0 p1 p2 p3 p4=>k (Ex.exit 6) (sx 176 [] [Blk.mem (CV.pure (Ty.arr 32 (Ty.int u8)) p1),Blk.mem (CV.pure (Ty.arr 8 (Ty.int u32)) p2),Blk.mem (CV.pure (Ty.arr 64 (Ty.int u32)) p3),Blk.mem (CV.pure (Ty.arr 128 (Ty.int u8)) p4)] 4)
noncomputable def Sp.S_35_67_3_1{R:Type}(K:Int->List Int->List Int->List Int->List Int->List Int->Option R)(k:E_35_67_3_1->Option R)(p0:Int)(p1 p2 p3 p4 p5:List Int):Option R:=
 bif decide (p0<8)then gd (inB p0 8) (gd (decide (toNat p0<8)&&true) (gd (inB p0 8) (gd (decide (toNat p0<8)&&true) (gd (inB p0 8) (gd (decide (toNat p0<8)&&true) (K (wrap i64 (p0+1)) p1 (List.set p2 (toNat p0) (wrap u32 (getD p2 (toNat p0) 0+getD p5 (toNat p0) 0))) p3 p4 p5))))))else k (E_35_67_3_1.e0 p1 p2 p3 p4)
noncomputable def Sp.L_35_67_3_1:Nat->Int->List Int->List Int->List Int->List Int->List Int->Option E_35_67_3_1
 |0,_,_,_,_,_,_=>none
 |m+1,p0,p1,p2,p3,p4,p5=>S_35_67_3_1 (L_35_67_3_1 m) some p0 p1 p2 p3 p4 p5
noncomputable def l_35_67_3_1(m:Nat)(a:T_35_67_3_1.E):Option E_35_67_3_1:=L_35_67_3_1 m a.1 a.2.1 a.2.2.1 a.2.2.2.1 a.2.2.2.2.1 a.2.2.2.2.2.1
noncomputable def O_35_67_3_1{R:Type}:Orc R:=orL T_35_67_3_1 (l_35_67_3_1 FU) Y_35_67_3_1 O_35_67_3_0
theorem OK_35_67_3_1{R:Type}:okF (R:=R) sm_35 0 (nf 67 3) O_35_67_3_1:=lp0 T_35_67_3_1 l_35_67_3_1 (fun R K k a=>S_35_67_3_1 (fun p0 p1 p2 p3 p4 p5=>K (p0,p1,p2,p3,p4,p5,())) k a.1 a.2.1 a.2.2.1 a.2.2.2.1 a.2.2.2.2.1 a.2.2.2.2.2.1) Y_35_67_3_1 (fun _ _ _=>by kernel_rfl) (fun _ _ _=>by
 unfold S_35_67_3_1
 repeat' first|apply gdN|apply condN|rfl) OK_35_67_3_0
noncomputable def g_35_67{R:Type}:List CV->List Blk->(CV->List Blk->Option R)->Option R:=evFnL sm_35 FU (ovr noO (evFn sm_35 fns FU 0)) (mkT (fB fns 67) [O_35_67_0_1,O_35_67_1_1,O_35_67_2_1,O_35_67_3_1]) (fO fns 67)
theorem g_35_67_ok{R:Type}(args:List CV)(hp:List Blk)(k:CV->List Blk->Option R)(r:R)(h:g_35_67 args hp k=some r):evFn sm_35 fns FU 1 67 args hp k=some r:=runG noO_ok (os:=[O_35_67_0_1,O_35_67_1_1,O_35_67_2_1,O_35_67_3_1]) ⟨OK_35_67_0_1,OK_35_67_1_1,OK_35_67_2_1,OK_35_67_3_1,trivial⟩ h
noncomputable def ov_35_35{R:Type}:Nat->Option (List CV->List Blk->(CV->List Blk->Option R)->Option R):=fun f'=>bif Nat.beq f' 67 then some g_35_67 else none
theorem ov_35_35_ok{R:Type}:OvrOK (R:=R) ov_35_35 (evFn sm_35 fns FU 1):=by
 intro f' g h args hp k r hg
 dsimp only[ov_35_35]at h
 by_cases h67:f'=67
 ·subst h67
  injection h with h
  subst h
  exact evFn_le 0 (g_35_67_ok _ _ _ _ hg)
 rw[nbeq_ne h67,cond_false]at h
 cases h
noncomputable def T_35_0:PS:=⟨72,[(0,.hv (.slice (.int .u8))),(2,.kc (.ptr 0 [])),(3,.kc (.ptr 1 [])),(4,.kc (.ptr 2 [])),(5,.hv (.slice (.int .u8)))],[.mem (.hv (.arr 32 (.int .u8))),.mem (.hv (.arr 8 (.int .u32))),.mem (.hv (.arr 64 (.int .u32)))],0⟩
inductive Sp.E_35_0 where
 |e0 (p0 p1 p2 p3 p4:List Int)
noncomputable def Sp.B_35_0{R:Type}(r:Option E_35_0)(k0:List Int->List Int->List Int->List Int->List Int->Option R):Option R:=match r with
 |none=>none
 |some (.e0 p0 p1 p2 p3 p4)=>k0 p0 p1 p2 p3 p4
noncomputable def Y_35_0{R:Type}(k:Ex->St->Option R):E_35_0->Option R
 | .e0 p0 p1 p2 p3 p4=>k (Ex.exit 0) (sx 72 [(0,CV.pure (Ty.slice (Ty.int u8)) p0),(2,CV.ptr 0 []),(3,CV.ptr 1 []),(4,CV.ptr 2 []),(5,CV.pure (Ty.slice (Ty.int u8)) p1)] [Blk.mem (CV.pure (Ty.arr 32 (Ty.int u8)) p2),Blk.mem (CV.pure (Ty.arr 8 (Ty.int u32)) p3),Blk.mem (CV.pure (Ty.arr 64 (Ty.int u32)) p4)])
noncomputable def Sp.S_35_0{R:Type}(K:List Int->List Int->List Int->List Int->List Int->Option R)(k:E_35_0->Option R)(p0 p1 p2 p3 p4:List Int):Option R:=
 bif decide ((↑(length p1):Int)>=64)then gd (sl3 0 64 (↑(length p1):Int)) (B_35_67_0_0 (L_35_67_0_0 4611686018427387904 (take 64 (drop 0 p1)) 0 p2 p3 p4 (replicate 64 (0:Int))) fun y19 y20 y21 y22=>B_35_67_1_0 (L_35_67_1_0 4611686018427387904 16 y19 y20 y21 y22) fun y23 y24 y25 y26=>B_35_67_2_0 (L_35_67_2_0 4611686018427387904 0 y23 y24 y25 y26 y24) fun y27 y28 y29 y30=>B_35_67_3_0 (L_35_67_3_0 4611686018427387904 0 y27 y28 y29 y30) fun y31 y32 y33=>gd (sl3 64 (↑(length p1):Int) (↑(length p1):Int)) (K p0 (drop 64 p1) y31 y32 y33))else k (E_35_0.e0 p0 p1 p2 p3 p4)
noncomputable def Sp.L_35_0:Nat->List Int->List Int->List Int->List Int->List Int->Option E_35_0
 |0,_,_,_,_,_=>none
 |m+1,p0,p1,p2,p3,p4=>S_35_0 (L_35_0 m) some p0 p1 p2 p3 p4
noncomputable def l_35_0(m:Nat)(a:T_35_0.E):Option E_35_0:=L_35_0 m a.1 a.2.1 a.2.2.1 a.2.2.2.1 a.2.2.2.2.1
noncomputable def O_35_0{R:Type}:Orc R:=orL T_35_0 (l_35_0 FU) Y_35_0
theorem OK_35_0{R:Type}:okF (R:=R) sm_35 1 (nf 35 0) O_35_0:=lp ov_35_35_ok (os:=[]) trivial T_35_0 l_35_0 (fun R K k a=>S_35_0 (fun p0 p1 p2 p3 p4=>K (p0,p1,p2,p3,p4,())) k a.1 a.2.1 a.2.2.1 a.2.2.2.1 a.2.2.2.2.1) Y_35_0 (fun _=>rfl) (fun _ _=>rfl) (fun k K a=>by kernel_rfl) (fun Y K a=>by
 unfold S_35_0
 repeat' first|apply gdN|apply condN|(apply Bn_35_67_0_0<;>intros)|(apply Bn_35_67_1_0<;>intros)|(apply Bn_35_67_2_0<;>intros)|(apply Bn_35_67_3_0<;>intros)|rfl) (ok0 _)
noncomputable def T_35_2:PS:=⟨72,[(2,.kc (.ptr 0 [])),(3,.kc (.ptr 1 [])),(4,.kc (.ptr 2 [])),(6,.kc (.ptr 3 [])),(8,.hv (.int .i64)),(10,.hv (.int .i64))],[.mem (.hv (.arr 32 (.int .u8))),.mem (.hv (.arr 8 (.int .u32))),.mem (.hv (.arr 64 (.int .u32))),.mem (.hv (.arr 128 (.int .u8)))],0⟩
inductive Sp.E_35_2 where
 |e0 (p2 p3:List Int)
noncomputable def Sp.B_35_2{R:Type}(r:Option E_35_2)(k0:List Int->List Int->Option R):Option R:=match r with
 |none=>none
 |some (.e0 p2 p3)=>k0 p2 p3
theorem Bn_35_2{A R:Type}{r:Option E_35_2}{f:A->Option R}{k0:List Int->List Int->Option A}{l0:List Int->List Int->Option R}(h0:∀p2 p3,(k0 p2 p3).bind f=l0 p2 p3):(B_35_2 r k0).bind f=B_35_2 r l0:=by
 cases r with
 |none=>rfl
 |some e=>cases e<;>first|apply h0
noncomputable def Y_35_2{R:Type}(k:Ex->St->Option R):E_35_2->Option R
 | .e0 p2 p3=>k (Ex.exit 2) (sx 72 [(2,CV.ptr 0 []),(3,CV.ptr 1 [])] [Blk.mem (CV.pure (Ty.arr 32 (Ty.int u8)) p2),Blk.mem (CV.pure (Ty.arr 8 (Ty.int u32)) p3)])
noncomputable def Sp.S_35_2{R:Type}(K:Int->Int->List Int->List Int->List Int->List Int->Option R)(k:E_35_2->Option R)(p0 p1:Int)(p2 p3 p4 p5:List Int):Option R:=
 bif decide (p1<p0)then gd (sl3 p1 (wrap i64 (p1+64)) 128) (B_35_67_0_1 (L_35_67_0_1 4611686018427387904 (toNat p1) (toNat (wrap i64 (p1+64))-toNat p1) (128-toNat p1) 0 p2 p3 p4 p5 (replicate 64 (0:Int))) fun y19 y20 y21 y22 y23=>B_35_67_1_1 (L_35_67_1_1 4611686018427387904 16 y19 y20 y21 y22 y23) fun y24 y25 y26 y27 y28=>B_35_67_2_1 (L_35_67_2_1 4611686018427387904 0 y24 y25 y26 y27 y28 y25) fun y29 y30 y31 y32 y33=>B_35_67_3_1 (L_35_67_3_1 4611686018427387904 0 y29 y30 y31 y32 y33) fun y34 y35 y36 y37=>K p0 (wrap i64 (p1+64)) y34 y35 y36 y37)else k (E_35_2.e0 p2 p3)
noncomputable def Sp.L_35_2:Nat->Int->Int->List Int->List Int->List Int->List Int->Option E_35_2
 |0,_,_,_,_,_,_=>none
 |m+1,p0,p1,p2,p3,p4,p5=>S_35_2 (L_35_2 m) some p0 p1 p2 p3 p4 p5
noncomputable def l_35_2(m:Nat)(a:T_35_2.E):Option E_35_2:=L_35_2 m a.1 a.2.1 a.2.2.1 a.2.2.2.1 a.2.2.2.2.1 a.2.2.2.2.2.1
noncomputable def O_35_2{R:Type}:Orc R:=orL T_35_2 (l_35_2 FU) Y_35_2
theorem OK_35_2{R:Type}:okF (R:=R) sm_35 1 (ni (nf 35 1) 0) O_35_2:=lp ov_35_35_ok (os:=[]) trivial T_35_2 l_35_2 (fun R K k a=>S_35_2 (fun p0 p1 p2 p3 p4 p5=>K (p0,p1,p2,p3,p4,p5,())) k a.1 a.2.1 a.2.2.1 a.2.2.2.1 a.2.2.2.2.1 a.2.2.2.2.2.1) Y_35_2 (fun _=>rfl) (fun _ _=>rfl) (fun k K a=>by kernel_rfl) (fun Y K a=>by
 unfold S_35_2
 repeat' first|apply gdN|apply condN|(apply Bn_35_67_0_1<;>intros)|(apply Bn_35_67_1_1<;>intros)|(apply Bn_35_67_2_1<;>intros)|(apply Bn_35_67_3_1<;>intros)|rfl) (ok0 _)
noncomputable def T_35_3:PS:=⟨72,[(2,.kc (.ptr 0 [])),(11,.kc (.ptr 1 [])),(60,.hv (.arr 8 (.int .u32))),(61,.hv (.int .i64))],[.mem (.hv (.arr 32 (.int .u8))),.mem (.hv (.arr 32 (.int .u8)))],0⟩
inductive Sp.E_35_3 where
 |e0 (p2 p3:List Int)
noncomputable def Sp.B_35_3{R:Type}(r:Option E_35_3)(k0:List Int->List Int->Option R):Option R:=match r with
 |none=>none
 |some (.e0 p2 p3)=>k0 p2 p3
theorem Bn_35_3{A R:Type}{r:Option E_35_3}{f:A->Option R}{k0:List Int->List Int->Option A}{l0:List Int->List Int->Option R}(h0:∀p2 p3,(k0 p2 p3).bind f=l0 p2 p3):(B_35_3 r k0).bind f=B_35_3 r l0:=by
 cases r with
 |none=>rfl
 |some e=>cases e<;>first|apply h0
noncomputable def Y_35_3{R:Type}(k:Ex->St->Option R):E_35_3->Option R
 | .e0 p2 p3=>k (Ex.exit 4) (sx 72 [(2,CV.ptr 0 []),(11,CV.ptr 1 [])] [Blk.mem (CV.pure (Ty.arr 32 (Ty.int u8)) p2),Blk.mem (CV.pure (Ty.arr 32 (Ty.int u8)) p3)])
noncomputable def Sp.S_35_3{R:Type}(K:List Int->Int->List Int->List Int->Option R)(k:E_35_3->Option R)(p0:List Int)(p1:Int)(p2 p3:List Int):Option R:=
 bif decide (p1<8)then gd (inB p1 8) (gd (sl3 (wrap i64 (4*p1)) 32 32) (gd (inB 0 (32-toNat (wrap i64 (4*p1)))) (gd (decide (toNat (wrap i64 (4*p1))+(0:Nat)<(32:Nat))&&true) (gd (inB 1 (32-toNat (wrap i64 (4*p1)))) (gd (decide (toNat (wrap i64 (4*p1))+(1:Nat)<(32:Nat))&&true) (gd (inB 2 (32-toNat (wrap i64 (4*p1)))) (gd (decide (toNat (wrap i64 (4*p1))+(2:Nat)<(32:Nat))&&true) (gd (inB 3 (32-toNat (wrap i64 (4*p1)))) (gd (decide (toNat (wrap i64 (4*p1))+(3:Nat)<(32:Nat))&&true) (K p0 (wrap i64 (p1+1)) p2 (List.set (List.set (List.set (List.set p3 (toNat (wrap i64 (4*p1))+0) (wrap u8 (Int.fdiv (getD p0 (toNat p1) 0) 16777216))) (toNat (wrap i64 (4*p1))+1) (wrap u8 (Int.fdiv (getD p0 (toNat p1) 0) 65536))) (toNat (wrap i64 (4*p1))+2) (wrap u8 (Int.fdiv (getD p0 (toNat p1) 0) 256))) (toNat (wrap i64 (4*p1))+3) (wrap u8 (getD p0 (toNat p1) 0)))))))))))))else k (E_35_3.e0 p2 p3)
noncomputable def Sp.L_35_3:Nat->List Int->Int->List Int->List Int->Option E_35_3
 |0,_,_,_,_=>none
 |m+1,p0,p1,p2,p3=>S_35_3 (L_35_3 m) some p0 p1 p2 p3
noncomputable def l_35_3(m:Nat)(a:T_35_3.E):Option E_35_3:=L_35_3 m a.1 a.2.1 a.2.2.1 a.2.2.2.1
noncomputable def O_35_3{R:Type}:Orc R:=orL T_35_3 (l_35_3 FU) Y_35_3
theorem OK_35_3{R:Type}:okF (R:=R) sm_35 1 (ni (nf 35 1) 1) O_35_3:=lp ov_35_35_ok (os:=[]) trivial T_35_3 l_35_3 (fun R K k a=>S_35_3 (fun p0 p1 p2 p3=>K (p0,p1,p2,p3,())) k a.1 a.2.1 a.2.2.1 a.2.2.2.1) Y_35_3 (fun _=>rfl) (fun _ _=>rfl) (fun k K a=>by kernel_rfl) (fun Y K a=>by
 unfold S_35_3
 repeat' first|apply gdN|apply condN|rfl) (ok0 _)
noncomputable def T_35_1:PS:=⟨72,[(0,.hv (.slice (.int .u8))),(2,.kc (.ptr 0 [])),(3,.kc (.ptr 1 [])),(4,.kc (.ptr 2 [])),(6,.kc (.ptr 3 [])),(8,.hv (.int .i64))],[.mem (.hv (.arr 32 (.int .u8))),.mem (.hv (.arr 8 (.int .u32))),.mem (.hv (.arr 64 (.int .u32))),.mem (.hv (.arr 128 (.int .u8)))],0⟩
inductive Sp.E_35_1 where
 |e0 (y7:List Int)
noncomputable def Sp.B_35_1{R:Type}(r:Option E_35_1)(k0:List Int->Option R):Option R:=match r with
 |none=>none
 |some (.e0 y7)=>k0 y7
noncomputable def Y_35_1{R:Type}(k:Ex->St->Option R):E_35_1->Option R
 | .e0 y7=>k Ex.ret (sx 72 [(2,CV.ptr 0 [])] [Blk.mem (CV.pure (Ty.arr 32 (Ty.int u8)) y7)])
noncomputable def Sp.S_35_1{R:Type}(k:E_35_1->Option R)(p0:List Int)(p1:Int)(p2 p3 p4 p5:List Int):Option R:=
 gd (sl3 (wrap i64 (p1-8)) 128 128) (gd (inB 0 (128-toNat (wrap i64 (p1-8)))) (gd (decide (toNat (wrap i64 (p1-8))+(0:Nat)<(128:Nat))&&true) (gd (inB 1 (128-toNat (wrap i64 (p1-8)))) (gd (decide (toNat (wrap i64 (p1-8))+(1:Nat)<(128:Nat))&&true) (gd (inB 2 (128-toNat (wrap i64 (p1-8)))) (gd (decide (toNat (wrap i64 (p1-8))+(2:Nat)<(128:Nat))&&true) (gd (inB 3 (128-toNat (wrap i64 (p1-8)))) (gd (decide (toNat (wrap i64 (p1-8))+(3:Nat)<(128:Nat))&&true) (gd (sl3 (wrap i64 (p1-4)) 128 128) (gd (inB 0 (128-toNat (wrap i64 (p1-4)))) (gd (decide (toNat (wrap i64 (p1-4))+(0:Nat)<(128:Nat))&&true) (gd (inB 1 (128-toNat (wrap i64 (p1-4)))) (gd (decide (toNat (wrap i64 (p1-4))+(1:Nat)<(128:Nat))&&true) (gd (inB 2 (128-toNat (wrap i64 (p1-4)))) (gd (decide (toNat (wrap i64 (p1-4))+(2:Nat)<(128:Nat))&&true) (gd (inB 3 (128-toNat (wrap i64 (p1-4)))) (gd (decide (toNat (wrap i64 (p1-4))+(3:Nat)<(128:Nat))&&true) (B_35_2 (L_35_2 4611686018427387904 p1 0 p2 p3 p4 (List.set (List.set (List.set (List.set (List.set (List.set (List.set (List.set p5 (toNat (wrap i64 (p1-8))+0) (wrap u8 (Int.fdiv (wrap u32 (Int.fdiv (wrap u64 (wrap u64 (↑(length p0):Int)*8)) 4294967296)) 16777216))) (toNat (wrap i64 (p1-8))+1) (wrap u8 (Int.fdiv (wrap u32 (Int.fdiv (wrap u64 (wrap u64 (↑(length p0):Int)*8)) 4294967296)) 65536))) (toNat (wrap i64 (p1-8))+2) (wrap u8 (Int.fdiv (wrap u32 (Int.fdiv (wrap u64 (wrap u64 (↑(length p0):Int)*8)) 4294967296)) 256))) (toNat (wrap i64 (p1-8))+3) (wrap u8 (wrap u32 (Int.fdiv (wrap u64 (wrap u64 (↑(length p0):Int)*8)) 4294967296)))) (toNat (wrap i64 (p1-4))+0) (wrap u8 (Int.fdiv (wrap u32 (wrap u64 (wrap u64 (↑(length p0):Int)*8))) 16777216))) (toNat (wrap i64 (p1-4))+1) (wrap u8 (Int.fdiv (wrap u32 (wrap u64 (wrap u64 (↑(length p0):Int)*8))) 65536))) (toNat (wrap i64 (p1-4))+2) (wrap u8 (Int.fdiv (wrap u32 (wrap u64 (wrap u64 (↑(length p0):Int)*8))) 256))) (toNat (wrap i64 (p1-4))+3) (wrap u8 (wrap u32 (wrap u64 (wrap u64 (↑(length p0):Int)*8)))))) fun y4 y5=>B_35_3 (L_35_3 4611686018427387904 y5 0 y4 (replicate 32 (0:Int))) fun y6 y7=>k (E_35_1.e0 y7)))))))))))))))))))
noncomputable def Sp.J_35_1(p0:List Int)(p1:Int)(p2 p3 p4 p5:List Int):Option E_35_1:=S_35_1 some p0 p1 p2 p3 p4 p5
noncomputable def O_35_1{R:Type}:Orc R:=orL T_35_1 (fun a=>J_35_1 a.1 a.2.1 a.2.2.1 a.2.2.2.1 a.2.2.2.2.1 a.2.2.2.2.2.1) Y_35_1
theorem OK_35_1{R:Type}:okF (R:=R) sm_35 1 (nf 35 1) O_35_1:=jp ov_35_35_ok (os:=[O_35_2,O_35_3]) ⟨OK_35_2,OK_35_3,trivial⟩ T_35_1 (fun R k a=>S_35_1 k a.1 a.2.1 a.2.2.1 a.2.2.2.1 a.2.2.2.2.1 a.2.2.2.2.2.1) Y_35_1 (fun k a=>by kernel_rfl) (fun Y a=>by
 unfold S_35_1
 repeat' first|apply gdN|apply condN|(apply Bn_35_2<;>intros)|(apply Bn_35_3<;>intros)|rfl) (ok0 _)
noncomputable def F_35(a0:(List Int)):Option ((List Int)×Unit) :=
 gd p_66 (B_35_0 (L_35_0 4611686018427387904 a0 a0 (replicate 32 (0:Int)) [1779033703,3144134277,1013904242,2773480762,1359893119,2600822924,528734635,1541459225] (v_66.1)) fun y7 y8 y9 y10 y11=>gd (inB (↑(Nat.min (length y8) 128):Int) 128) (gd (decide (toNat (↑(Nat.min (length y8) 128):Int)<128)&&true) (bif decide (wrap i64 ((↑(Nat.min (length y8) 128):Int)+9)>64)then B_35_1 (J_35_1 y7 128 y9 y10 y11 (List.set (over (replicate 128 (0:Int)) 0 (take 128 y8)) (toNat (↑(Nat.min (length y8) 128):Int)) 128)) fun y12=>some (y12,PUnit.unit)else B_35_1 (J_35_1 y7 64 y9 y10 y11 (List.set (over (replicate 128 (0:Int)) 0 (take 128 y8)) (toNat (↑(Nat.min (length y8) 128):Int)) 128)) fun y13=>some (y13,PUnit.unit))))
noncomputable def Sp.p_35(a0:(List Int)):Bool:=(F_35 a0).isSome
noncomputable def Sp.v_35(a0:(List Int)):(List Int)×Unit:=(F_35 a0).getD (dfH R_35)
noncomputable def s_35:Summ:=shN A_35 R_35 (fun x=>p_35 x.1) (fun x=>v_35 x.1)
theorem pv_35(a0:(List Int)){y:(List Int)×Unit}(h:F_35 a0=some y):p_35 a0=true/\v_35 a0=y:=pvG h
theorem run_35(x:HDen A_35)(y:HDen R_35)(h:F_35 x.1=some y):rnF sm_35 2 35 A_35 R_35 x y:=runG ov_35_35_ok (os:=[O_35_0,O_35_1]) ⟨OK_35_0,OK_35_1,trivial⟩ (Eq.trans (by kernel_rfl) h)
end
noncomputable section
abbrev A_43:List Ty:=[(.slice (.slice (.int .u32)))]
abbrev R_43:List Ty:=[(.slice (.int .u32))]
noncomputable def sm_43:Nat->Option Summ:=smL [(77,s_77)]
noncomputable def T_43_0:PS:=⟨36,[(0,.hv (.slice (.slice (.int .u32)))),(3,.hv (.int .i64)),(9,.hv (.slice (.slice (.int .u32)))),(10,.hv (.int .i64)),(11,.hv (.int .i64))],[],0⟩
inductive Sp.E_43_0 where
 |e0 (p0:List (List Int)) (p1:Int)
noncomputable def Sp.B_43_0{R:Type}(r:Option E_43_0)(k0:List (List Int)->Int->Option R):Option R:=match r with
 |none=>none
 |some (.e0 p0 p1)=>k0 p0 p1
noncomputable def Y_43_0{R:Type}(k:Ex->St->Option R):E_43_0->Option R
 | .e0 p0 p1=>k (Ex.exit 0) (sx 36 [(0,CV.pure (Ty.slice (Ty.slice (Ty.int u32))) p0),(3,CV.int i64 p1)] [])
noncomputable def Sp.S_43_0{R:Type}(K:List (List Int)->Int->List (List Int)->Int->Int->Option R)(k:E_43_0->Option R)(p0:List (List Int))(p1:Int)(p2:List (List Int))(p3 p4:Int):Option R:=
 bif decide (p4<p3)then gd (inB p4 (length p2)) (bif decide (wrap i64 (p1+(↑(length (getD p2 (toNat p4) (Ty.dflt (Ty.slice (Ty.int u32))))):Int))<0)then none else K p0 (wrap i64 (p1+(↑(length (getD p2 (toNat p4) (Ty.dflt (Ty.slice (Ty.int u32))))):Int))) p2 p3 (wrap i64 (p4+1)))else k (E_43_0.e0 p0 p1)
noncomputable def Sp.L_43_0:Nat->List (List Int)->Int->List (List Int)->Int->Int->Option E_43_0
 |0,_,_,_,_,_=>none
 |m+1,p0,p1,p2,p3,p4=>S_43_0 (L_43_0 m) some p0 p1 p2 p3 p4
noncomputable def l_43_0(m:Nat)(a:T_43_0.E):Option E_43_0:=L_43_0 m a.1 a.2.1 a.2.2.1 a.2.2.2.1 a.2.2.2.2.1
noncomputable def O_43_0{R:Type}:Orc R:=orL T_43_0 (l_43_0 FU) Y_43_0
theorem OK_43_0{R:Type}:okF (R:=R) sm_43 0 (nf 43 0) O_43_0:=lp0 T_43_0 l_43_0 (fun R K k a=>S_43_0 (fun p0 p1 p2 p3 p4=>K (p0,p1,p2,p3,p4,())) k a.1 a.2.1 a.2.2.1 a.2.2.2.1 a.2.2.2.2.1) Y_43_0 (fun _ _ _=>by kernel_rfl) (fun _ _ _=>by
 unfold S_43_0
 repeat' first|apply gdN|apply condN|rfl) (ok0 _)
noncomputable def T_43_1:PS:=⟨36,[(6,.kc (.whole 0)),(25,.hv (.slice (.slice (.int .u32)))),(26,.hv (.int .i64)),(27,.hv (.int .i64))],[.vec 42 (.int .u32)],0⟩
inductive Sp.E_43_1 where
 |e0 (p3:List Int)
noncomputable def Sp.B_43_1{R:Type}(r:Option E_43_1)(k0:List Int->Option R):Option R:=match r with
 |none=>none
 |some (.e0 p3)=>k0 p3
noncomputable def Y_43_1{R:Type}(k:Ex->St->Option R):E_43_1->Option R
 | .e0 p3=>k (Ex.exit 2) (sx 36 [(6,CV.whole 0)] [Blk.vec 42 (Ty.int u32) p3])
noncomputable def Sp.S_43_1{R:Type}(K:List (List Int)->Int->Int->List Int->Option R)(k:E_43_1->Option R)(p0:List (List Int))(p1 p2:Int)(p3:List Int):Option R:=
 bif decide (p2<p1)then gd (inB p2 (length p0)) (gd (room (length p3+length (getD p0 (toNat p2) (Ty.dflt (Ty.slice (Ty.int u32))))) 4) (K p0 p1 (wrap i64 (p2+1)) (p3++getD p0 (toNat p2) (Ty.dflt (Ty.slice (Ty.int u32))))))else k (E_43_1.e0 p3)
noncomputable def Sp.L_43_1:Nat->List (List Int)->Int->Int->List Int->Option E_43_1
 |0,_,_,_,_=>none
 |m+1,p0,p1,p2,p3=>S_43_1 (L_43_1 m) some p0 p1 p2 p3
noncomputable def l_43_1(m:Nat)(a:T_43_1.E):Option E_43_1:=L_43_1 m a.1 a.2.1 a.2.2.1 a.2.2.2.1
noncomputable def O_43_1{R:Type}:Orc R:=orL T_43_1 (l_43_1 FU) Y_43_1
theorem OK_43_1{R:Type}:okF (R:=R) sm_43 0 (nf 43 1) O_43_1:=lp0 T_43_1 l_43_1 (fun R K k a=>S_43_1 (fun p0 p1 p2 p3=>K (p0,p1,p2,p3,())) k a.1 a.2.1 a.2.2.1 a.2.2.2.1) Y_43_1 (fun _ _ _=>by kernel_rfl) (fun _ _ _=>by
 unfold S_43_1
 repeat' first|apply gdN|apply condN|rfl) (ok0 _)
noncomputable def F_43(a0:(List (List Int))):Option ((List Int)×Unit) :=
 B_43_0 (L_43_0 4611686018427387904 a0 0 a0 (↑(length a0):Int) 0) fun y3 y4=>gd (decide (0<=y4)&&room (toNat y4) 4) (B_43_1 (L_43_1 4611686018427387904 y3 (↑(length y3):Int) 0 []) fun y5=>some (y5,PUnit.unit))
noncomputable def Sp.p_43(a0:(List (List Int))):Bool:=(F_43 a0).isSome
noncomputable def Sp.v_43(a0:(List (List Int))):(List Int)×Unit:=(F_43 a0).getD (dfH R_43)
noncomputable def s_43:Summ:=shS A_43 R_43 (fun x=>p_43 x.1) (fun x=>v_43 x.1)
theorem pv_43(a0:(List (List Int))){y:(List Int)×Unit}(h:F_43 a0=some y):p_43 a0=true/\v_43 a0=y:=pvG h
theorem run_43(x:HDen A_43)(y:HDen R_43)(h:F_43 x.1=some y):rnF sm_43 1 43 A_43 R_43 x y:=runG noO_ok (os:=[O_43_0,O_43_1]) ⟨OK_43_0,OK_43_1,trivial⟩ (Eq.trans (by kernel_rfl) h)
end
noncomputable section
abbrev A_69:List Ty:=[(.arr 32 (.int .u8))]
abbrev R_69:List Ty:=[(.slice (.int .i64))]
noncomputable def sm_69:Nat->Option Summ:=smL []
noncomputable def T_69_1:PS:=⟨43,[(3,.kc (.whole 0)),(4,.hv (.int .i64)),(9,.hv (.arr 32 (.int .u8))),(10,.hv (.int .i64)),(19,.hv (.arr 2 (.int .i64))),(20,.hv (.int .i64))],[.vec 3 (.int .i64)],0⟩
inductive Sp.E_69_1 where
 |e0 (p0:Int) (p1:List Int) (p2:Int) (p5:List Int)
noncomputable def Sp.B_69_1{R:Type}(r:Option E_69_1)(k0:Int->List Int->Int->List Int->Option R):Option R:=match r with
 |none=>none
 |some (.e0 p0 p1 p2 p5)=>k0 p0 p1 p2 p5
theorem Bn_69_1{A R:Type}{r:Option E_69_1}{f:A->Option R}{k0:Int->List Int->Int->List Int->Option A}{l0:Int->List Int->Int->List Int->Option R}(h0:∀p0 p1 p2 p5,(k0 p0 p1 p2 p5).bind f=l0 p0 p1 p2 p5):(B_69_1 r k0).bind f=B_69_1 r l0:=by
 cases r with
 |none=>rfl
 |some e=>cases e<;>first|apply h0
noncomputable def Y_69_1{R:Type}(k:Ex->St->Option R):E_69_1->Option R
 | .e0 p0 p1 p2 p5=>k (Ex.exit 2) (sx 43 [(3,CV.whole 0),(4,CV.int i64 p0),(9,CV.pure (Ty.arr 32 (Ty.int u8)) p1),(10,CV.int i64 p2)] [Blk.vec 3 (Ty.int i64) p5])
noncomputable def Sp.S_69_1{R:Type}(K:Int->List Int->Int->List Int->Int->List Int->Option R)(k:E_69_1->Option R)(p0:Int)(p1:List Int)(p2:Int)(p3:List Int)(p4:Int)(p5:List Int):Option R:=
 bif decide (p4<2)then gd (inB p4 2) (gd (room (length p5+1) 8) (K (wrap i64 (p0+wrap i64 (15-getD p3 (toNat p4) 0))) p1 p2 p3 (wrap i64 (p4+1)) (p5++[getD p3 (toNat p4) 0])))else k (E_69_1.e0 p0 p1 p2 p5)
noncomputable def Sp.L_69_1:Nat->Int->List Int->Int->List Int->Int->List Int->Option E_69_1
 |0,_,_,_,_,_,_=>none
 |m+1,p0,p1,p2,p3,p4,p5=>S_69_1 (L_69_1 m) some p0 p1 p2 p3 p4 p5
noncomputable def l_69_1(m:Nat)(a:T_69_1.E):Option E_69_1:=L_69_1 m a.1 a.2.1 a.2.2.1 a.2.2.2.1 a.2.2.2.2.1 a.2.2.2.2.2.1
noncomputable def O_69_1{R:Type}:Orc R:=orL T_69_1 (l_69_1 FU) Y_69_1
theorem OK_69_1{R:Type}:okF (R:=R) sm_69 0 (ni (nf 69 0) 0) O_69_1:=lp0 T_69_1 l_69_1 (fun R K k a=>S_69_1 (fun p0 p1 p2 p3 p4 p5=>K (p0,p1,p2,p3,p4,p5,())) k a.1 a.2.1 a.2.2.1 a.2.2.2.1 a.2.2.2.2.1 a.2.2.2.2.2.1) Y_69_1 (fun _ _ _=>by kernel_rfl) (fun _ _ _=>by
 unfold S_69_1
 repeat' first|apply gdN|apply condN|rfl) (ok0 _)
noncomputable def T_69_0:PS:=⟨43,[(3,.kc (.whole 0)),(4,.hv (.int .i64)),(9,.hv (.arr 32 (.int .u8))),(10,.hv (.int .i64))],[.vec 3 (.int .i64)],0⟩
inductive Sp.E_69_0 where
 |e0 (p0:Int) (p3:List Int)
noncomputable def Sp.B_69_0{R:Type}(r:Option E_69_0)(k0:Int->List Int->Option R):Option R:=match r with
 |none=>none
 |some (.e0 p0 p3)=>k0 p0 p3
noncomputable def Y_69_0{R:Type}(k:Ex->St->Option R):E_69_0->Option R
 | .e0 p0 p3=>k (Ex.exit 0) (sx 43 [(3,CV.whole 0),(4,CV.int i64 p0)] [Blk.vec 3 (Ty.int i64) p3])
noncomputable def Sp.S_69_0{R:Type}(K:Int->List Int->Int->List Int->Option R)(k:E_69_0->Option R)(p0:Int)(p1:List Int)(p2:Int)(p3:List Int):Option R:=
 bif decide (p2<32)then gd (inB p2 32) (B_69_1 (L_69_1 4611686018427387904 p0 p1 p2 [wrap i64 (Int.fdiv (getD p1 (toNat p2) 0) 16),wrap i64 (Sp.andI u8 (getD p1 (toNat p2) 0) 15)] 0 p3) fun y4 y5 y6 y7=>K y4 y5 (wrap i64 (y6+1)) y7)else k (E_69_0.e0 p0 p3)
noncomputable def Sp.L_69_0:Nat->Int->List Int->Int->List Int->Option E_69_0
 |0,_,_,_,_=>none
 |m+1,p0,p1,p2,p3=>S_69_0 (L_69_0 m) some p0 p1 p2 p3
noncomputable def l_69_0(m:Nat)(a:T_69_0.E):Option E_69_0:=L_69_0 m a.1 a.2.1 a.2.2.1 a.2.2.2.1
noncomputable def O_69_0{R:Type}:Orc R:=orL T_69_0 (l_69_0 FU) Y_69_0
theorem OK_69_0{R:Type}:okF (R:=R) sm_69 0 (nf 69 0) O_69_0:=lp noO_ok (os:=[O_69_1]) ⟨OK_69_1,trivial⟩ T_69_0 l_69_0 (fun R K k a=>S_69_0 (fun p0 p1 p2 p3=>K (p0,p1,p2,p3,())) k a.1 a.2.1 a.2.2.1 a.2.2.2.1) Y_69_0 (fun _=>rfl) (fun _ _=>rfl) (fun k K a=>by kernel_rfl) (fun Y K a=>by
 unfold S_69_0
 repeat' first|apply gdN|apply condN|(apply Bn_69_1<;>intros)|rfl) (ok0 _)
noncomputable def F_69(a0:(List Int)):Option ((List Int)×Unit) :=
 B_69_0 (L_69_0 4611686018427387904 0 a0 0 []) fun y2 y3=>gd (room (length y3+3) 8) (some (y3++[Int.fdiv y2 256,Sp.andI i64 (Int.fdiv y2 16) 15,Sp.andI i64 y2 15],PUnit.unit))
noncomputable def Sp.p_69(a0:(List Int)):Bool:=(F_69 a0).isSome
noncomputable def Sp.v_69(a0:(List Int)):(List Int)×Unit:=(F_69 a0).getD (dfH R_69)
noncomputable def s_69:Summ:=shS A_69 R_69 (fun x=>p_69 x.1) (fun x=>v_69 x.1)
theorem pv_69(a0:(List Int)){y:(List Int)×Unit}(h:F_69 a0=some y):p_69 a0=true/\v_69 a0=y:=pvG h
theorem run_69(x:HDen A_69)(y:HDen R_69)(h:F_69 x.1=some y):rnF sm_69 1 69 A_69 R_69 x y:=runG noO_ok (os:=[O_69_0]) ⟨OK_69_0,trivial⟩ (Eq.trans (by kernel_rfl) h)
end
noncomputable section
abbrev A_70:List Ty:=[(.arr 32 (.int .u8)),(.int .i64),(.int .i64)]
abbrev R_70:List Ty:=[(.arr 32 (.int .u8))]
noncomputable def sm_70:Nat->Option Summ:=smL [(35,s_35)]
noncomputable def T_70_0:PS:=⟨21,[(2,.hv (.int .i64)),(3,.kc (.ptr 0 [])),(6,.kc (.ptr 1 [])),(7,.hv (.int .i64))],[.mem (.hv (.arr 32 (.int .u8))),.mem (.hv (.arr 32 (.int .u8)))],0⟩
inductive Sp.E_70_0 where
 |e0 (p2 p3:List Int)
noncomputable def Sp.B_70_0{R:Type}(r:Option E_70_0)(k0:List Int->List Int->Option R):Option R:=match r with
 |none=>none
 |some (.e0 p2 p3)=>k0 p2 p3
noncomputable def Y_70_0{R:Type}(k:Ex->St->Option R):E_70_0->Option R
 | .e0 p2 p3=>k (Ex.exit 0) (sx 21 [(3,CV.ptr 0 []),(6,CV.ptr 1 [])] [Blk.mem (CV.pure (Ty.arr 32 (Ty.int u8)) p2),Blk.mem (CV.pure (Ty.arr 32 (Ty.int u8)) p3)])
noncomputable def Sp.S_70_0{R:Type}(K:Int->Int->List Int->List Int->Option R)(k:E_70_0->Option R)(p0 p1:Int)(p2 p3:List Int):Option R:=
 bif decide (p1<p0)then gd (room (1+length (take 32 (drop 0 p2))) 1) (gd (p_35 ([wrap u8 p1]++take 32 (drop 0 p2))) (K p0 (wrap i64 (p1+1)) ((v_35 ([wrap u8 p1]++take 32 (drop 0 p2))).1) p3))else k (E_70_0.e0 p2 p3)
noncomputable def Sp.L_70_0:Nat->Int->Int->List Int->List Int->Option E_70_0
 |0,_,_,_,_=>none
 |m+1,p0,p1,p2,p3=>S_70_0 (L_70_0 m) some p0 p1 p2 p3
noncomputable def l_70_0(m:Nat)(a:T_70_0.E):Option E_70_0:=L_70_0 m a.1 a.2.1 a.2.2.1 a.2.2.2.1
noncomputable def O_70_0{R:Type}:Orc R:=orL T_70_0 (l_70_0 FU) Y_70_0
theorem OK_70_0{R:Type}:okF (R:=R) sm_70 0 (nf 70 0) O_70_0:=lp0 T_70_0 l_70_0 (fun R K k a=>S_70_0 (fun p0 p1 p2 p3=>K (p0,p1,p2,p3,())) k a.1 a.2.1 a.2.2.1 a.2.2.2.1) Y_70_0 (fun _ _ _=>by kernel_rfl) (fun _ _ _=>by
 unfold S_70_0
 repeat' first|apply gdN|apply condN|rfl) (ok0 _)
noncomputable def F_70(a0:(List Int))(a1 a2:Int):Option ((List Int)×Unit) :=
 B_70_0 (L_70_0 4611686018427387904 a2 a1 a0 (replicate 32 (0:Int))) fun y2 y3=>some (y2,PUnit.unit)
noncomputable def Sp.p_70(a0:(List Int))(a1 a2:Int):Bool:=(F_70 a0 a1 a2).isSome
noncomputable def Sp.v_70(a0:(List Int))(a1 a2:Int):(List Int)×Unit:=(F_70 a0 a1 a2).getD (dfH R_70)
noncomputable def s_70:Summ:=shN A_70 R_70 (fun x=>p_70 x.1 x.2.1 x.2.2.1) (fun x=>v_70 x.1 x.2.1 x.2.2.1)
theorem pv_70(a0:(List Int))(a1 a2:Int){y:(List Int)×Unit}(h:F_70 a0 a1 a2=some y):p_70 a0 a1 a2=true/\v_70 a0 a1 a2=y:=pvG h
theorem run_70(x:HDen A_70)(y:HDen R_70)(h:F_70 x.1 x.2.1 x.2.2.1=some y):rnF sm_70 1 70 A_70 R_70 x y:=runG noO_ok (os:=[O_70_0]) ⟨OK_70_0,trivial⟩ (Eq.trans (by kernel_rfl) h)
end
noncomputable section
abbrev A_73:List Ty:=[(.arr 32 (.int .u8)),(.arr 32 (.int .u8))]
abbrev R_73:List Ty:=[(.arr 32 (.int .u8))]
noncomputable def sm_73:Nat->Option Summ:=smL [(35,s_35)]
noncomputable def F_73(a0 a1:(List Int)):Option ((List Int)×Unit) :=
 gd (room (1+length (take 32 (drop 0 a0))) 1) (gd (room (length ([255]++take 32 (drop 0 a0))+length (take 32 (drop 0 a1))) 1) (gd (p_35 ([255]++take 32 (drop 0 a0)++take 32 (drop 0 a1))) (some ((v_35 ([255]++take 32 (drop 0 a0)++take 32 (drop 0 a1))).1,PUnit.unit))))
noncomputable def Sp.p_73(a0 a1:(List Int)):Bool:=(F_73 a0 a1).isSome
noncomputable def Sp.v_73(a0 a1:(List Int)):(List Int)×Unit:=(F_73 a0 a1).getD (dfH R_73)
noncomputable def s_73:Summ:=shN A_73 R_73 (fun x=>p_73 x.1 x.2.1) (fun x=>v_73 x.1 x.2.1)
theorem pv_73(a0 a1:(List Int)){y:(List Int)×Unit}(h:F_73 a0 a1=some y):p_73 a0 a1=true/\v_73 a0 a1=y:=pvG h
theorem run_73(x:HDen A_73)(y:HDen R_73)(h:F_73 x.1 x.2.1=some y):rnF sm_73 1 73 A_73 R_73 x y:=runG noO_ok (os:=[]) trivial (Eq.trans (by kernel_rfl) h)
end
noncomputable section
abbrev A_78:List Ty:=[(.pair (.int .i64) (.pair (.slice (.arr 32 (.int .u8))) (.pair (.slice (.arr 32 (.int .u8))) .unit)))]
abbrev R_78:List Ty:=[.bool]
noncomputable def sm_78:Nat->Option Summ:=smL []
noncomputable def F_78(a0:(Int×((List (List Int))×((List (List Int))×Unit)))):Option (Bool×Unit) :=
 bif decide (a0.1>=0)then bif decide (a0.1<4)then bif(↑(length (a0.2.1)):Int)==67 then some ((↑(length (a0.2.2.1)):Int)==2,PUnit.unit)else some (false,PUnit.unit)else some (false,PUnit.unit)else some (false,PUnit.unit)
noncomputable def Sp.p_78(a0:(Int×((List (List Int))×((List (List Int))×Unit)))):Bool:=(F_78 a0).isSome
noncomputable def Sp.v_78(a0:(Int×((List (List Int))×((List (List Int))×Unit)))):Bool×Unit:=(F_78 a0).getD (dfH R_78)
noncomputable def s_78:Summ:=shN A_78 R_78 (fun x=>p_78 x.1) (fun x=>v_78 x.1)
theorem pv_78(a0:(Int×((List (List Int))×((List (List Int))×Unit)))){y:Bool×Unit}(h:F_78 a0=some y):p_78 a0=true/\v_78 a0=y:=pvG h
theorem run_78(x:HDen A_78)(y:HDen R_78)(h:F_78 x.1=some y):rnF sm_78 1 78 A_78 R_78 x y:=runG noO_ok (os:=[]) trivial (Eq.trans (by kernel_rfl) h)
end
noncomputable section
abbrev A_79:List Ty:=[(.slice (.arr 32 (.int .u8)))]
abbrev R_79:List Ty:=[(.arr 32 (.int .u8))]
noncomputable def sm_79:Nat->Option Summ:=smL [(35,s_35)]
noncomputable def T_79_0:PS:=⟨18,[(2,.kc (.ptr 0 [])),(3,.kc (.whole 1)),(6,.hv (.slice (.arr 32 (.int .u8)))),(7,.hv (.int .i64)),(8,.hv (.int .i64))],[.mem (.hv (.arr 32 (.int .u8))),.vec 5 (.int .u8)],0⟩
inductive Sp.E_79_0 where
 |e0 (p3 p4:List Int)
noncomputable def Sp.B_79_0{R:Type}(r:Option E_79_0)(k0:List Int->List Int->Option R):Option R:=match r with
 |none=>none
 |some (.e0 p3 p4)=>k0 p3 p4
noncomputable def Y_79_0{R:Type}(k:Ex->St->Option R):E_79_0->Option R
 | .e0 p3 p4=>k (Ex.exit 0) (sx 18 [(2,CV.ptr 0 []),(3,CV.whole 1)] [Blk.mem (CV.pure (Ty.arr 32 (Ty.int u8)) p3),Blk.vec 5 (Ty.int u8) p4])
noncomputable def Sp.S_79_0{R:Type}(K:List (List Int)->Int->Int->List Int->List Int->Option R)(k:E_79_0->Option R)(p0:List (List Int))(p1 p2:Int)(p3 p4:List Int):Option R:=
 bif decide (p2<p1)then gd (inB p2 (length p0)) (gd (room (length p4+length (take 32 (drop 0 (getD p0 (toNat p2) (Ty.dflt (Ty.arr 32 (Ty.int u8))))))) 1) (K p0 p1 (wrap i64 (p2+1)) p3 (p4++take 32 (drop 0 (getD p0 (toNat p2) (Ty.dflt (Ty.arr 32 (Ty.int u8))))))))else k (E_79_0.e0 p3 p4)
noncomputable def Sp.L_79_0:Nat->List (List Int)->Int->Int->List Int->List Int->Option E_79_0
 |0,_,_,_,_,_=>none
 |m+1,p0,p1,p2,p3,p4=>S_79_0 (L_79_0 m) some p0 p1 p2 p3 p4
noncomputable def l_79_0(m:Nat)(a:T_79_0.E):Option E_79_0:=L_79_0 m a.1 a.2.1 a.2.2.1 a.2.2.2.1 a.2.2.2.2.1
noncomputable def O_79_0{R:Type}:Orc R:=orL T_79_0 (l_79_0 FU) Y_79_0
theorem OK_79_0{R:Type}:okF (R:=R) sm_79 0 (nf 79 0) O_79_0:=lp0 T_79_0 l_79_0 (fun R K k a=>S_79_0 (fun p0 p1 p2 p3 p4=>K (p0,p1,p2,p3,p4,())) k a.1 a.2.1 a.2.2.1 a.2.2.2.1 a.2.2.2.2.1) Y_79_0 (fun _ _ _=>by kernel_rfl) (fun _ _ _=>by
 unfold S_79_0
 repeat' first|apply gdN|apply condN|rfl) (ok0 _)
noncomputable def F_79(a0:(List (List Int))):Option ((List Int)×Unit) :=
 B_79_0 (L_79_0 4611686018427387904 a0 (↑(length a0):Int) 0 (replicate 32 (0:Int)) []) fun y2 y3=>gd (p_35 y3) (some ((v_35 y3).1,PUnit.unit))
noncomputable def Sp.p_79(a0:(List (List Int))):Bool:=(F_79 a0).isSome
noncomputable def Sp.v_79(a0:(List (List Int))):(List Int)×Unit:=(F_79 a0).getD (dfH R_79)
noncomputable def s_79:Summ:=shN A_79 R_79 (fun x=>p_79 x.1) (fun x=>v_79 x.1)
theorem pv_79(a0:(List (List Int))){y:(List Int)×Unit}(h:F_79 a0=some y):p_79 a0=true/\v_79 a0=y:=pvG h
theorem run_79(x:HDen A_79)(y:HDen R_79)(h:F_79 x.1=some y):rnF sm_79 1 79 A_79 R_79 x y:=runG noO_ok (os:=[O_79_0]) ⟨OK_79_0,trivial⟩ (Eq.trans (by kernel_rfl) h)
end
noncomputable section
abbrev Zy45_0:Ty:=(.pair (.int .i64) (.pair (.slice (.arr 32 (.int .u8))) (.pair (.slice (.arr 32 (.int .u8))) .unit)))
abbrev Zt45_1:Type:=Int×List (List Int)×List (List Int)×Unit
abbrev A_45:List Ty:=[(.arr 32 (.int .u8)),(.arr 32 (.int .u8)),(.pair (.int .i64) (.pair (.slice (.arr 32 (.int .u8))) (.pair (.slice (.arr 32 (.int .u8))) .unit)))]
abbrev R_45:List Ty:=[.bool]
noncomputable def sm_45:Nat->Option Summ:=smL [(69,s_69),(70,s_70),(73,s_73),(78,s_78),(79,s_79)]
noncomputable def T_45_0:PS:=⟨61,[(3,.kc (.ptr 0 [])),(5,.kc (.ptr 1 [])),(7,.kc (.whole 2)),(17,.hv (.slice (.int .i64))),(18,.hv (.int .i64)),(19,.hv (.int .i64))],[.mem (.hv (.arr 32 (.int .u8))),.mem (.hv Zy45_0),.vec 27 (.arr 32 (.int .u8))],0⟩
inductive Sp.E_45_0 where
 |e0 (p3:List Int) (p4:Zt45_1) (p5:List (List Int))
noncomputable def Sp.B_45_0{R:Type}(r:Option E_45_0)(k0:List Int->Zt45_1->List (List Int)->Option R):Option R:=match r with
 |none=>none
 |some (.e0 p3 p4 p5)=>k0 p3 p4 p5
noncomputable def Y_45_0{R:Type}(k:Ex->St->Option R):E_45_0->Option R
 | .e0 p3 p4 p5=>k (Ex.exit 0) (sx 61 [(3,CV.ptr 0 []),(5,CV.ptr 1 []),(7,CV.whole 2)] [Blk.mem (CV.pure (Ty.arr 32 (Ty.int u8)) p3),Blk.mem (CV.pure (Ty.pair (Ty.int i64) (Ty.pair (Ty.slice (Ty.arr 32 (Ty.int u8))) (Ty.pair (Ty.slice (Ty.arr 32 (Ty.int u8))) Ty.unit))) p4),Blk.vec 27 (Ty.arr 32 (Ty.int u8)) p5])
noncomputable def Sp.S_45_0{R:Type}(K:List Int->Int->Int->List Int->(Int×List (List Int)×List (List Int)×Unit)->List (List Int)->Option R)(k:E_45_0->Option R)(p0:List Int)(p1 p2:Int)(p3:List Int)(p4:Int×List (List Int)×List (List Int)×Unit)(p5:List (List Int)):Option R:=
 bif decide (p2<p1)then gd (inB p2 (length p0)) (gd (inB p2 (length (p4.2.1))) (gd (p_70 (getD (p4.2.1) (toNat p2) (Ty.dflt (Ty.arr 32 (Ty.int u8)))) (getD p0 (toNat p2) 0) 15) (gd (room (length p5+1) 32) (K p0 p1 (wrap i64 (p2+1)) p3 p4 (p5++[(v_70 (getD (p4.2.1) (toNat p2) (Ty.dflt (Ty.arr 32 (Ty.int u8)))) (getD p0 (toNat p2) 0) 15).1])))))else k (E_45_0.e0 p3 p4 p5)
noncomputable def Sp.L_45_0:Nat->List Int->Int->Int->List Int->(Int×List (List Int)×List (List Int)×Unit)->List (List Int)->Option E_45_0
 |0,_,_,_,_,_,_=>none
 |m+1,p0,p1,p2,p3,p4,p5=>S_45_0 (L_45_0 m) some p0 p1 p2 p3 p4 p5
noncomputable def l_45_0(m:Nat)(a:T_45_0.E):Option E_45_0:=L_45_0 m a.1 a.2.1 a.2.2.1 a.2.2.2.1 a.2.2.2.2.1 a.2.2.2.2.2.1
noncomputable def O_45_0{R:Type}:Orc R:=orL T_45_0 (l_45_0 FU) Y_45_0
theorem OK_45_0{R:Type}:okF (R:=R) sm_45 0 (nf 45 0) O_45_0:=lp0 T_45_0 l_45_0 (fun R K k a=>S_45_0 (fun p0 p1 p2 p3 p4 p5=>K (p0,p1,p2,p3,p4,p5,())) k a.1 a.2.1 a.2.2.1 a.2.2.2.1 a.2.2.2.2.1 a.2.2.2.2.2.1) Y_45_0 (fun _ _ _=>by kernel_rfl) (fun _ _ _=>by
 unfold S_45_0
 repeat' first|apply gdN|apply condN|rfl) (ok0 _)
noncomputable def T_45_1:PS:=⟨61,[(3,.kc (.ptr 0 [])),(5,.kc (.ptr 1 [])),(10,.kc (.ptr 2 [])),(38,.hv (.slice (.arr 32 (.int .u8)))),(39,.hv (.int .i64)),(40,.hv (.int .i64))],[.mem (.hv (.arr 32 (.int .u8))),.mem (.hv Zy45_0),.mem (.hv (.arr 32 (.int .u8)))],0⟩
inductive Sp.E_45_1 where
 |e0 (p3 p5:List Int)
noncomputable def Sp.B_45_1{R:Type}(r:Option E_45_1)(k0:List Int->List Int->Option R):Option R:=match r with
 |none=>none
 |some (.e0 p3 p5)=>k0 p3 p5
noncomputable def Y_45_1{R:Type}(k:Ex->St->Option R):E_45_1->Option R
 | .e0 p3 p5=>k (Ex.exit 2) (sx 61 [(3,CV.ptr 0 []),(10,CV.ptr 1 [])] [Blk.mem (CV.pure (Ty.arr 32 (Ty.int u8)) p3),Blk.mem (CV.pure (Ty.arr 32 (Ty.int u8)) p5)])
noncomputable def Sp.S_45_1{R:Type}(K:List (List Int)->Int->Int->List Int->(Int×List (List Int)×List (List Int)×Unit)->List Int->Option R)(k:E_45_1->Option R)(p0:List (List Int))(p1 p2:Int)(p3:List Int)(p4:Int×List (List Int)×List (List Int)×Unit)(p5:List Int):Option R:=
 bif decide (p2<p1)then gd (inB p2 (length p0)) (gd (decide (0<=p2)) (bif Sp.andI i64 (Int.fdiv (p4.1) (2^Nat.min (toNat p2) 64)) (1:Int)==(1:Int)then gd (p_73 (getD p0 (toNat p2) (Ty.dflt (Ty.arr 32 (Ty.int u8)))) p5) (K p0 p1 (wrap i64 (p2+1)) p3 p4 ((v_73 (getD p0 (toNat p2) (Ty.dflt (Ty.arr 32 (Ty.int u8)))) p5).1))else gd (p_73 p5 (getD p0 (toNat p2) (Ty.dflt (Ty.arr 32 (Ty.int u8))))) (K p0 p1 (wrap i64 (p2+1)) p3 p4 ((v_73 p5 (getD p0 (toNat p2) (Ty.dflt (Ty.arr 32 (Ty.int u8))))).1))))else k (E_45_1.e0 p3 p5)
noncomputable def Sp.L_45_1:Nat->List (List Int)->Int->Int->List Int->(Int×List (List Int)×List (List Int)×Unit)->List Int->Option E_45_1
 |0,_,_,_,_,_,_=>none
 |m+1,p0,p1,p2,p3,p4,p5=>S_45_1 (L_45_1 m) some p0 p1 p2 p3 p4 p5
noncomputable def l_45_1(m:Nat)(a:T_45_1.E):Option E_45_1:=L_45_1 m a.1 a.2.1 a.2.2.1 a.2.2.2.1 a.2.2.2.2.1 a.2.2.2.2.2.1
noncomputable def O_45_1{R:Type}:Orc R:=orL T_45_1 (l_45_1 FU) Y_45_1
theorem OK_45_1{R:Type}:okF (R:=R) sm_45 0 (nf 45 1) O_45_1:=lp0 T_45_1 l_45_1 (fun R K k a=>S_45_1 (fun p0 p1 p2 p3 p4 p5=>K (p0,p1,p2,p3,p4,p5,())) k a.1 a.2.1 a.2.2.1 a.2.2.2.1 a.2.2.2.2.1 a.2.2.2.2.2.1) Y_45_1 (fun _ _ _=>by kernel_rfl) (fun _ _ _=>by
 unfold S_45_1
 repeat' first|apply gdN|apply condN|rfl) (ok0 _)
noncomputable def F_45(a0 a1:(List Int))(a2:(Int×((List (List Int))×((List (List Int))×Unit)))):Option (Bool×Unit) :=
 gd (p_78 a2) (bif !(v_78 a2).1 then some (false,PUnit.unit)else gd (p_69 a1) (B_45_0 (L_45_0 4611686018427387904 ((v_69 a1).1) (↑(length ((v_69 a1).1)):Int) 0 a0 a2 []) fun y5 y6 y7=>gd (p_79 y7) (B_45_1 (L_45_1 4611686018427387904 (y6.2.2.1) (↑(length (y6.2.2.1)):Int) 0 y5 y6 ((v_79 y7).1)) fun y8 y9=>some (Ty.beq (Ty.arr 32 (Ty.int u8)) y9 y8,PUnit.unit))))
noncomputable def Sp.p_45(a0 a1:(List Int))(a2:(Int×((List (List Int))×((List (List Int))×Unit)))):Bool:=(F_45 a0 a1 a2).isSome
noncomputable def Sp.v_45(a0 a1:(List Int))(a2:(Int×((List (List Int))×((List (List Int))×Unit)))):Bool×Unit:=(F_45 a0 a1 a2).getD (dfH R_45)
noncomputable def s_45:Summ:=shN A_45 R_45 (fun x=>p_45 x.1 x.2.1 x.2.2.1) (fun x=>v_45 x.1 x.2.1 x.2.2.1)
theorem pv_45(a0 a1:(List Int))(a2:(Int×((List (List Int))×((List (List Int))×Unit)))){y:Bool×Unit}(h:F_45 a0 a1 a2=some y):p_45 a0 a1 a2=true/\v_45 a0 a1 a2=y:=pvG h
theorem run_45(x:HDen A_45)(y:HDen R_45)(h:F_45 x.1 x.2.1 x.2.2.1=some y):rnF sm_45 1 45 A_45 R_45 x y:=runG noO_ok (os:=[O_45_0,O_45_1]) ⟨OK_45_0,OK_45_1,trivial⟩ (Eq.trans (by kernel_rfl) h)
end
noncomputable section
abbrev A_13:List Ty:=[(.pair (.pair (.slice (.int .u32)) (.pair (.slice (.int .i64)) (.pair (.int .i64) .unit))) (.pair (.arr 32 (.int .u8)) .unit)),(.int .i64)]
abbrev R_13:List Ty:=[.bool]
noncomputable def sm_13:Nat->Option Summ:=smL [(14,s_14),(35,s_35),(42,s_42),(43,s_43),(44,s_44),(45,s_45)]
noncomputable def F_13(a0:(((List Int)×((List Int)×(Int×Unit)))×((List Int)×Unit)))(a1:Int):Option (Bool×Unit) :=
 gd (p_14 a0 a1) (bif !(v_14 a0 a1).2.1 then some (false,PUnit.unit)else gd (p_42 a0 a1) (gd (sl3 1 3 (↑(length ((v_42 a0 a1).1)):Int)) (gd (sl3 564 (wrap i64 (564+(v_14 a0 a1).1.2.1)) (↑(length ((v_42 a0 a1).1)):Int)) (gd (p_43 [take 2 (drop 1 ((v_42 a0 a1).1)),take (toNat (wrap i64 (564+(v_14 a0 a1).1.2.1))-564) (drop 564 ((v_42 a0 a1).1))]) (gd (p_44 ((v_43 [take 2 (drop 1 ((v_42 a0 a1).1)),take (toNat (wrap i64 (564+(v_14 a0 a1).1.2.1))-564) (drop 564 ((v_42 a0 a1).1))]).1)) (gd (p_35 ((v_44 ((v_43 [take 2 (drop 1 ((v_42 a0 a1).1)),take (toNat (wrap i64 (564+(v_14 a0 a1).1.2.1))-564) (drop 564 ((v_42 a0 a1).1))]).1)).1)) (bif Ty.beq (Ty.arr 32 (Ty.int u8)) ((v_35 ((v_44 ((v_43 [take 2 (drop 1 ((v_42 a0 a1).1)),take (toNat (wrap i64 (564+(v_14 a0 a1).1.2.1))-564) (drop 564 ((v_42 a0 a1).1))]).1)).1)).1) ((v_14 a0 a1).1.2.2.1)then gd (p_45 (a0.2.1) ((v_14 a0 a1).1.2.2.1) ((v_14 a0 a1).1.2.2.2.1)) (some ((v_45 (a0.2.1) ((v_14 a0 a1).1.2.2.1) ((v_14 a0 a1).1.2.2.2.1)).1,PUnit.unit))else some (false,PUnit.unit))))))))
noncomputable def Sp.p_13(a0:(((List Int)×((List Int)×(Int×Unit)))×((List Int)×Unit)))(a1:Int):Bool:=(F_13 a0 a1).isSome
noncomputable def Sp.v_13(a0:(((List Int)×((List Int)×(Int×Unit)))×((List Int)×Unit)))(a1:Int):Bool×Unit:=(F_13 a0 a1).getD (dfH R_13)
noncomputable def s_13:Summ:=shN A_13 R_13 (fun x=>p_13 x.1 x.2.1) (fun x=>v_13 x.1 x.2.1)
theorem pv_13(a0:(((List Int)×((List Int)×(Int×Unit)))×((List Int)×Unit)))(a1:Int){y:Bool×Unit}(h:F_13 a0 a1=some y):p_13 a0 a1=true/\v_13 a0 a1=y:=pvG h
theorem run_13(x:HDen A_13)(y:HDen R_13)(h:F_13 x.1 x.2.1=some y):rnF sm_13 1 13 A_13 R_13 x y:=runG noO_ok (os:=[]) trivial (Eq.trans (by kernel_rfl) h)
end
noncomputable section
abbrev A_51:List Ty:=[(.pair (.pair (.slice (.int .u32)) (.pair (.slice (.int .i64)) (.pair (.int .i64) .unit))) (.pair (.arr 32 (.int .u8)) .unit)),(.int .i64)]
abbrev R_51:List Ty:=[.bool]
noncomputable def sm_51:Nat->Option Summ:=smL [(42,s_42)]
noncomputable def F_51(a0:(((List Int)×((List Int)×(Int×Unit)))×((List Int)×Unit)))(a1:Int):Option (Bool×Unit) :=
 gd (p_42 a0 a1) (gd (inB 0 (length ((v_42 a0 a1).1))) (some (getD ((v_42 a0 a1).1) 0 (0:Int)==(0:Int),PUnit.unit)))
noncomputable def Sp.p_51(a0:(((List Int)×((List Int)×(Int×Unit)))×((List Int)×Unit)))(a1:Int):Bool:=(F_51 a0 a1).isSome
noncomputable def Sp.v_51(a0:(((List Int)×((List Int)×(Int×Unit)))×((List Int)×Unit)))(a1:Int):Bool×Unit:=(F_51 a0 a1).getD (dfH R_51)
noncomputable def s_51:Summ:=shN A_51 R_51 (fun x=>p_51 x.1 x.2.1) (fun x=>v_51 x.1 x.2.1)
theorem pv_51(a0:(((List Int)×((List Int)×(Int×Unit)))×((List Int)×Unit)))(a1:Int){y:Bool×Unit}(h:F_51 a0 a1=some y):p_51 a0 a1=true/\v_51 a0 a1=y:=pvG h
theorem run_51(x:HDen A_51)(y:HDen R_51)(h:F_51 x.1 x.2.1=some y):rnF sm_51 1 51 A_51 R_51 x y:=runG noO_ok (os:=[]) trivial (Eq.trans (by kernel_rfl) h)
end
noncomputable section
abbrev A_17:List Ty:=[(.pair (.pair (.slice (.int .u32)) (.pair (.slice (.int .i64)) (.pair (.int .i64) .unit))) (.pair (.arr 32 (.int .u8)) .unit))]
abbrev R_17:List Ty:=[(.int .i64),(.int .i64)]
noncomputable def sm_17:Nat->Option Summ:=smL [(12,s_12),(13,s_13),(14,s_14),(51,s_51)]
noncomputable def T_17_0:PS:=⟨45,[(1,.kc (.ptr 0 [])),(4,.hv (.int .i64)),(5,.hv (.int .i64)),(12,.hv (.int .i64))],[.mem (.hv (.pair (.pair (.slice (.int .u32)) (.pair (.slice (.int .i64)) (.pair (.int .i64) .unit))) (.pair (.arr 32 (.int .u8)) .unit)))],0⟩
inductive Sp.E_17_0 where
 |e0 (p0 p1:Int)
noncomputable def Sp.B_17_0{R:Type}(r:Option E_17_0)(k0:Int->Int->Option R):Option R:=match r with
 |none=>none
 |some (.e0 p0 p1)=>k0 p0 p1
noncomputable def Y_17_0{R:Type}(k:Ex->St->Option R):E_17_0->Option R
 | .e0 p0 p1=>k (Ex.exit 0) (sx 45 [(4,CV.int i64 p0),(5,CV.int i64 p1)] [])
noncomputable def Sp.S_17_0{R:Type}(K:Int->Int->Int->((List Int×List Int×Int×Unit)×List Int×Unit)->Option R)(k:E_17_0->Option R)(p0 p1 p2:Int)(p3:(List Int×List Int×Int×Unit)×List Int×Unit):Option R:=
 bif decide (p2<2)then gd (p_14 p3 p2) (bif(v_14 p3 p2).2.1 then bif decide ((v_14 p3 p2).1.1>p1)then gd (p_51 p3 p2) (bif(v_51 p3 p2).1 then gd (p_13 p3 p2) (bif(v_13 p3 p2).1 then K p2 ((v_14 p3 p2).1.1) (wrap i64 (p2+1)) p3 else K p0 p1 (wrap i64 (p2+1)) p3)else K p0 p1 (wrap i64 (p2+1)) p3)else K p0 p1 (wrap i64 (p2+1)) p3 else K p0 p1 (wrap i64 (p2+1)) p3)else k (E_17_0.e0 p0 p1)
noncomputable def Sp.L_17_0:Nat->Int->Int->Int->((List Int×List Int×Int×Unit)×List Int×Unit)->Option E_17_0
 |0,_,_,_,_=>none
 |m+1,p0,p1,p2,p3=>S_17_0 (L_17_0 m) some p0 p1 p2 p3
noncomputable def l_17_0(m:Nat)(a:T_17_0.E):Option E_17_0:=L_17_0 m a.1 a.2.1 a.2.2.1 a.2.2.2.1
noncomputable def O_17_0{R:Type}:Orc R:=orL T_17_0 (l_17_0 FU) Y_17_0
theorem OK_17_0{R:Type}:okF (R:=R) sm_17 0 (nf 17 0) O_17_0:=lp0 T_17_0 l_17_0 (fun R K k a=>S_17_0 (fun p0 p1 p2 p3=>K (p0,p1,p2,p3,())) k a.1 a.2.1 a.2.2.1 a.2.2.2.1) Y_17_0 (fun _ _ _=>by kernel_rfl) (fun _ _ _=>by
 unfold S_17_0
 repeat' first|apply gdN|apply condN|rfl) (ok0 _)
noncomputable def F_17(a0:(((List Int)×((List Int)×(Int×Unit)))×((List Int)×Unit))):Option (Int×Int×Unit) :=
 gd (p_12 a0) (bif !(v_12 a0).1 then some (0,1,PUnit.unit)else B_17_0 (L_17_0 4611686018427387904 0 0 0 a0) fun y2 y3=>bif y3==0 then some (0,7,PUnit.unit)else some (y2,0,PUnit.unit))
noncomputable def Sp.p_17(a0:(((List Int)×((List Int)×(Int×Unit)))×((List Int)×Unit))):Bool:=(F_17 a0).isSome
noncomputable def Sp.v_17(a0:(((List Int)×((List Int)×(Int×Unit)))×((List Int)×Unit))):Int×Int×Unit:=(F_17 a0).getD (dfH R_17)
noncomputable def s_17:Summ:=shN A_17 R_17 (fun x=>p_17 x.1) (fun x=>v_17 x.1)
theorem pv_17(a0:(((List Int)×((List Int)×(Int×Unit)))×((List Int)×Unit))){y:Int×Int×Unit}(h:F_17 a0=some y):p_17 a0=true/\v_17 a0=y:=pvG h
theorem run_17(x:HDen A_17)(y:HDen R_17)(h:F_17 x.1=some y):rnF sm_17 1 17 A_17 R_17 x y:=runG noO_ok (os:=[O_17_0]) ⟨OK_17_0,trivial⟩ (Eq.trans (by kernel_rfl) h)
end
noncomputable section
abbrev A_107:List Ty:=[(.int .u32),(.int .u32)]
abbrev R_107:List Ty:=[(.int .u32),(.int .u32)]
noncomputable def sm_107:Nat->Option Summ:=smL []
noncomputable def F_107(a0 a1:Int):Option (Int×Int×Unit) :=
 some (wrap u32 (Int.fdiv (wrap u64 (wrap u64 a0*wrap u64 a1)) 4294967296),wrap u32 (wrap u64 (wrap u64 a0*wrap u64 a1)),PUnit.unit)
noncomputable def Sp.p_107(a0 a1:Int):Bool:=(F_107 a0 a1).isSome
noncomputable def Sp.v_107(a0 a1:Int):Int×Int×Unit:=(F_107 a0 a1).getD (dfH R_107)
noncomputable def s_107:Summ:=shN A_107 R_107 (fun x=>p_107 x.1 x.2.1) (fun x=>v_107 x.1 x.2.1)
theorem run_107(x:HDen A_107)(y:HDen R_107)(h:F_107 x.1 x.2.1=some y):rnF sm_107 1 107 A_107 R_107 x y:=runG noO_ok (os:=[]) trivial (Eq.trans (by kernel_rfl) h)
end
noncomputable section
abbrev A_108:List Ty:=[(.int .u64),(.int .u64)]
abbrev R_108:List Ty:=[(.int .u64),(.int .u64)]
noncomputable def sm_108:Nat->Option Summ:=smL []
noncomputable def F_108(a0 a1:Int):Option (Int×Int×Unit) :=
 some (wrap u64 (wrap u64 (wrap u64 (Int.fdiv a0 4294967296*Int.fdiv a1 4294967296)+Int.fdiv (wrap u64 (wrap u64 (Int.fdiv a0 4294967296*Sp.andI u64 a1 4294967295)+Int.fdiv (wrap u64 (Sp.andI u64 a0 4294967295*Sp.andI u64 a1 4294967295)) 4294967296)) 4294967296)+Int.fdiv (wrap u64 (Sp.andI u64 (wrap u64 (wrap u64 (Int.fdiv a0 4294967296*Sp.andI u64 a1 4294967295)+Int.fdiv (wrap u64 (Sp.andI u64 a0 4294967295*Sp.andI u64 a1 4294967295)) 4294967296)) 4294967295+wrap u64 (Sp.andI u64 a0 4294967295*Int.fdiv a1 4294967296))) 4294967296),wrap u64 (a0*a1),PUnit.unit)
noncomputable def Sp.p_108(a0 a1:Int):Bool:=(F_108 a0 a1).isSome
noncomputable def Sp.v_108(a0 a1:Int):Int×Int×Unit:=(F_108 a0 a1).getD (dfH R_108)
noncomputable def s_108:Summ:=shN A_108 R_108 (fun x=>p_108 x.1 x.2.1) (fun x=>v_108 x.1 x.2.1)
theorem run_108(x:HDen A_108)(y:HDen R_108)(h:F_108 x.1 x.2.1=some y):rnF sm_108 1 108 A_108 R_108 x y:=runG noO_ok (os:=[]) trivial (Eq.trans (by kernel_rfl) h)
end
noncomputable section
abbrev A_102:List Ty:=[(.int .u64),(.int .u64)]
abbrev R_102:List Ty:=[(.int .u64),(.int .u64)]
noncomputable def sm_102:Nat->Option Summ:=smL [(107,s_107),(108,s_108)]
noncomputable def F_102(a0 a1:Int):Option (Int×Int×Unit) :=
 gd (p_108 a0 a1) (some ((v_108 a0 a1).1,(v_108 a0 a1).2.1,PUnit.unit))
noncomputable def Sp.p_102(a0 a1:Int):Bool:=(F_102 a0 a1).isSome
noncomputable def Sp.v_102(a0 a1:Int):Int×Int×Unit:=(F_102 a0 a1).getD (dfH R_102)
noncomputable def s_102:Summ:=shN A_102 R_102 (fun x=>p_102 x.1 x.2.1) (fun x=>v_102 x.1 x.2.1)
theorem run_102(x:HDen A_102)(y:HDen R_102)(h:F_102 x.1 x.2.1=some y):rnF sm_102 1 102 A_102 R_102 x y:=runG noO_ok (os:=[]) trivial (Eq.trans (by kernel_rfl) h)
end
noncomputable section
abbrev A_89:List Ty:=[(.slice (.int .u32)),(.int .i64)]
abbrev R_89:List Ty:=[(.slice (.int .u32))]
noncomputable def sm_89:Nat->Option Summ:=smL [(102,s_102)]
noncomputable def T_89_2:PS:=⟨48,[(7,.kc (.whole 0)),(8,.hv (.int .i64))],[.vec 42 (.int .u32)],0⟩
inductive Sp.E_89_2 where
 |e0 (p1:List Int)
noncomputable def Sp.B_89_2{R:Type}(r:Option E_89_2)(k0:List Int->Option R):Option R:=match r with
 |none=>none
 |some (.e0 p1)=>k0 p1
theorem Bn_89_2{A R:Type}{r:Option E_89_2}{f:A->Option R}{k0:List Int->Option A}{l0:List Int->Option R}(h0:∀p1,(k0 p1).bind f=l0 p1):(B_89_2 r k0).bind f=B_89_2 r l0:=by
 cases r with
 |none=>rfl
 |some e=>cases e<;>first|apply h0
noncomputable def Y_89_2{R:Type}(k:Ex->St->Option R):E_89_2->Option R
 | .e0 p1=>k (Ex.exit 0) (sx 48 [(7,CV.whole 0)] [Blk.vec 42 (Ty.int u32) p1])
noncomputable def Sp.S_89_2{R:Type}(K:Int->List Int->Option R)(k:E_89_2->Option R)(p0:Int)(p1:List Int):Option R:=
 bif decide (p0<(↑(length p1):Int))then gd (sl3 p0 (↑(length p1):Int) (↑(length p1):Int)) (gd (sl3 0 p0 (↑(length p1):Int)) (gd (decide (0+(toNat p0-0)<=length p1)&&(decide (toNat p0+(toNat (↑(length p1):Int)-toNat p0)<=length p1)&&decide (0<length p1))) (K (wrap i64 (p0+(↑(Nat.min (length (take (toNat p0-0) (drop 0 p1))) (toNat (↑(length p1):Int)-toNat p0)):Int))) (over p1 (toNat p0) (take (toNat (↑(length p1):Int)-toNat p0) (take (toNat p0-0) (drop 0 p1)))))))else k (E_89_2.e0 p1)
noncomputable def Sp.L_89_2:Nat->Int->List Int->Option E_89_2
 |0,_,_=>none
 |m+1,p0,p1=>S_89_2 (L_89_2 m) some p0 p1
noncomputable def l_89_2(m:Nat)(a:T_89_2.E):Option E_89_2:=L_89_2 m a.1 a.2.1
noncomputable def O_89_2{R:Type}:Orc R:=orL T_89_2 (l_89_2 FU) Y_89_2
theorem OK_89_2{R:Type}:okF (R:=R) sm_89 0 (ni (ni (nf 89 0) 0) 0) O_89_2:=lp0 T_89_2 l_89_2 (fun R K k a=>S_89_2 (fun p0 p1=>K (p0,p1,())) k a.1 a.2.1) Y_89_2 (fun _ _ _=>by kernel_rfl) (fun _ _ _=>by
 unfold S_89_2
 repeat' first|apply gdN|apply condN|rfl) (ok0 _)
noncomputable def T_89_1:PS:=⟨48,[(0,.hv (.slice (.int .u32))),(6,.hv (.int .u64))],[],0⟩
inductive Sp.E_89_1 where
 |e0 (y5:List Int)
noncomputable def Sp.B_89_1{R:Type}(r:Option E_89_1)(k0:List Int->Option R):Option R:=match r with
 |none=>none
 |some (.e0 y5)=>k0 y5
theorem Bn_89_1{A R:Type}{r:Option E_89_1}{f:A->Option R}{k0:List Int->Option A}{l0:List Int->Option R}(h0:∀y5,(k0 y5).bind f=l0 y5):(B_89_1 r k0).bind f=B_89_1 r l0:=by
 cases r with
 |none=>rfl
 |some e=>cases e<;>first|apply h0
noncomputable def Y_89_1{R:Type}(k:Ex->St->Option R):E_89_1->Option R
 | .e0 y5=>k Ex.ret (sx 48 [(4,CV.whole 0)] [Blk.vec 42 (Ty.int u32) y5])
noncomputable def Sp.S_89_1{R:Type}(k:E_89_1->Option R)(p0:List Int)(p1:Int):Option R:=
 gd (decide (0<=wrap i64 p1)&&(wrap i64 p1==wrap i64 p1&&room (toNat (wrap i64 p1)) 4)) (gd (decide (0+length (replicate (toNat (wrap i64 p1)) (0:Int))<=length (replicate (toNat (wrap i64 p1)) (0:Int)))&&decide (0<length (replicate (toNat (wrap i64 p1)) (0:Int)))) (B_89_2 (L_89_2 4611686018427387904 (↑(Nat.min (length p0) (length (replicate (toNat (wrap i64 p1)) (0:Int)))):Int) (over (replicate (toNat (wrap i64 p1)) (0:Int)) 0 (take (length (replicate (toNat (wrap i64 p1)) (0:Int))) p0))) fun y5=>k (E_89_1.e0 y5)))
noncomputable def Sp.J_89_1(p0:List Int)(p1:Int):Option E_89_1:=S_89_1 some p0 p1
noncomputable def O_89_1{R:Type}:Orc R:=orL T_89_1 (fun a=>J_89_1 a.1 a.2.1) Y_89_1
theorem OK_89_1{R:Type}:okF (R:=R) sm_89 0 (ni (nf 89 0) 0) O_89_1:=jp noO_ok (os:=[O_89_2]) ⟨OK_89_2,trivial⟩ T_89_1 (fun R k a=>S_89_1 k a.1 a.2.1) Y_89_1 (fun k a=>by kernel_rfl) (fun Y a=>by
 unfold S_89_1
 repeat' first|apply gdN|apply condN|(apply Bn_89_2<;>intros)|rfl) (ok0 _)
noncomputable def T_89_0:PS:=⟨48,[(0,.hv (.slice (.int .u32))),(1,.hv (.int .i64))],[],0⟩
inductive Sp.E_89_0 where
 |e0 (y1:List Int)
noncomputable def Sp.B_89_0{R:Type}(r:Option E_89_0)(k0:List Int->Option R):Option R:=match r with
 |none=>none
 |some (.e0 y1)=>k0 y1
noncomputable def Y_89_0{R:Type}(k:Ex->St->Option R):E_89_0->Option R
 | .e0 y1=>k Ex.ret (sx 48 [(4,CV.whole 0)] [Blk.vec 42 (Ty.int u32) y1])
noncomputable def Sp.S_89_0{R:Type}(k:E_89_0->Option R)(p0:List Int)(p1:Int):Option R:=
 gd (p_102 (wrap u64 (↑(length p0):Int)) (wrap u64 p1)) (bif decide ((v_102 (wrap u64 (↑(length p0):Int)) (wrap u64 p1)).1>0)then none else bif decide ((v_102 (wrap u64 (↑(length p0):Int)) (wrap u64 p1)).2.1>9223372036854775807)then none else B_89_1 (J_89_1 p0 ((v_102 (wrap u64 (↑(length p0):Int)) (wrap u64 p1)).2.1)) fun y1=>k (E_89_0.e0 y1))
noncomputable def Sp.J_89_0(p0:List Int)(p1:Int):Option E_89_0:=S_89_0 some p0 p1
noncomputable def O_89_0{R:Type}:Orc R:=orL T_89_0 (fun a=>J_89_0 a.1 a.2.1) Y_89_0
theorem OK_89_0{R:Type}:okF (R:=R) sm_89 0 (nf 89 0) O_89_0:=jp noO_ok (os:=[O_89_1]) ⟨OK_89_1,trivial⟩ T_89_0 (fun R k a=>S_89_0 k a.1 a.2.1) Y_89_0 (fun k a=>by kernel_rfl) (fun Y a=>by
 unfold S_89_0
 repeat' first|apply gdN|apply condN|(apply Bn_89_1<;>intros)|rfl) (ok0 _)
noncomputable def F_89(a0:(List Int))(a1:Int):Option ((List Int)×Unit) :=
 bif decide (a1<0)then none else B_89_0 (J_89_0 a0 a1) fun y1=>some (y1,PUnit.unit)
noncomputable def Sp.p_89(a0:(List Int))(a1:Int):Bool:=(F_89 a0 a1).isSome
noncomputable def Sp.v_89(a0:(List Int))(a1:Int):(List Int)×Unit:=(F_89 a0 a1).getD (dfH R_89)
noncomputable def s_89:Summ:=shS A_89 R_89 (fun x=>p_89 x.1 x.2.1) (fun x=>v_89 x.1 x.2.1)
theorem run_89(x:HDen A_89)(y:HDen R_89)(h:F_89 x.1 x.2.1=some y):rnF sm_89 1 89 A_89 R_89 x y:=runG noO_ok (os:=[O_89_0]) ⟨OK_89_0,trivial⟩ (Eq.trans (by kernel_rfl) h)
end
noncomputable section
abbrev A_53:List Ty:=[(.int .i64),(.int .i64)]
abbrev R_53:List Ty:=[(.pair (.slice (.int .u32)) (.pair (.slice (.int .i64)) (.pair (.int .i64) .unit))),(.int .i64)]
noncomputable def sm_53:Nat->Option Summ:=smL [(89,s_89)]
noncomputable def F_53(a0 a1:Int):Option (((List Int)×((List Int)×(Int×Unit)))×Int×Unit) :=
 bif decide (a0<1)then some (([],[],0,PUnit.unit),2,PUnit.unit)else bif decide (a0>64)then some (([],[],0,PUnit.unit),2,PUnit.unit)else bif decide (a1<1)then some (([],[],0,PUnit.unit),2,PUnit.unit)else bif decide (a1>1000000)then some (([],[],0,PUnit.unit),2,PUnit.unit)else gd (p_89 [4294967295] (wrap i64 (a0*64))) (gd (decide (0<=a0)&&(a0==a0&&room (toNat a0) 8)) (some (((v_89 [4294967295] (wrap i64 (a0*64))).1,replicate (toNat a0) (0:Int),a1,PUnit.unit),0,PUnit.unit)))
noncomputable def Sp.p_53(a0 a1:Int):Bool:=(F_53 a0 a1).isSome
noncomputable def Sp.v_53(a0 a1:Int):((List Int)×((List Int)×(Int×Unit)))×Int×Unit:=(F_53 a0 a1).getD (dfH R_53)
noncomputable def s_53:Summ:=shS A_53 R_53 (fun x=>p_53 x.1 x.2.1) (fun x=>v_53 x.1 x.2.1)
theorem run_53(x:HDen A_53)(y:HDen R_53)(h:F_53 x.1 x.2.1=some y):rnF sm_53 1 53 A_53 R_53 x y:=runG noO_ok (os:=[]) trivial (Eq.trans (by kernel_rfl) h)
end
noncomputable section
abbrev A_22:List Ty:=[(.int .i64),(.int .i64),(.arr 32 (.int .u8))]
abbrev R_22:List Ty:=[(.pair (.pair (.slice (.int .u32)) (.pair (.slice (.int .i64)) (.pair (.int .i64) .unit))) (.pair (.arr 32 (.int .u8)) .unit)),(.int .i64)]
noncomputable def sm_22:Nat->Option Summ:=smL [(41,s_41),(53,s_53)]
noncomputable def F_22(a0 a1:Int)(a2:(List Int)):Option ((((List Int)×((List Int)×(Int×Unit)))×((List Int)×Unit))×Int×Unit) :=
 gd (p_41 a0) (bif !(v_41 a0).1 then some ((([],[],0,PUnit.unit),replicate 32 (0:Int),PUnit.unit),2,PUnit.unit)else gd (p_53 a0 a1) (bif(v_53 a0 a1).2.1 !=0 then some ((([],[],0,PUnit.unit),replicate 32 (0:Int),PUnit.unit),2,PUnit.unit)else some (((v_53 a0 a1).1,a2,PUnit.unit),0,PUnit.unit)))
noncomputable def Sp.p_22(a0 a1:Int)(a2:(List Int)):Bool:=(F_22 a0 a1 a2).isSome
noncomputable def Sp.v_22(a0 a1:Int)(a2:(List Int)):(((List Int)×((List Int)×(Int×Unit)))×((List Int)×Unit))×Int×Unit:=(F_22 a0 a1 a2).getD (dfH R_22)
noncomputable def s_22:Summ:=shS A_22 R_22 (fun x=>p_22 x.1 x.2.1 x.2.2.1) (fun x=>v_22 x.1 x.2.1 x.2.2.1)
theorem run_22(x:HDen A_22)(y:HDen R_22)(h:F_22 x.1 x.2.1 x.2.2.1=some y):rnF sm_22 1 22 A_22 R_22 x y:=runG noO_ok (os:=[]) trivial (Eq.trans (by kernel_rfl) h)
end
noncomputable section
abbrev A_10:List Ty:=[]
abbrev R_10:List Ty:=[.bool]
noncomputable def sm_10:Nat->Option Summ:=smL [(14,s_14),(17,s_17),(22,s_22)]
noncomputable def F_10:Option (Bool×Unit) :=
 gd (p_22 18 10 ([1]++replicate 31 (0:Int))) (gd (p_14 ((v_22 18 10 ([1]++replicate 31 (0:Int))).1) 0) (gd (p_17 ((v_22 18 10 ([1]++replicate 31 (0:Int))).1)) (bif(v_22 18 10 ([1]++replicate 31 (0:Int))).2.1==0 then bif(↑(length ((v_22 18 10 ([1]++replicate 31 (0:Int))).1.1.1)):Int)==1152 then bif !(v_14 ((v_22 18 10 ([1]++replicate 31 (0:Int))).1) 0).2.1 then some ((v_17 ((v_22 18 10 ([1]++replicate 31 (0:Int))).1)).2.1==7,PUnit.unit)else some (false,PUnit.unit)else some (false,PUnit.unit)else some (false,PUnit.unit))))
noncomputable def Sp.p_10:Bool:=(F_10).isSome
noncomputable def Sp.v_10:Bool×Unit:=(F_10).getD (dfH R_10)
noncomputable def s_10:Summ:=shN A_10 R_10 (fun x=>p_10) (fun x=>v_10)
theorem pv_10{y:Bool×Unit}(h:F_10=some y):p_10=true/\v_10=y:=pvG h
theorem run_10(x:HDen A_10)(y:HDen R_10)(h:F_10=some y):rnF sm_10 1 10 A_10 R_10 x y:=runG noO_ok (os:=[]) trivial (Eq.trans (by kernel_rfl) h)
end
noncomputable section
abbrev A_11:List Ty:=[(.pair (.pair (.slice (.int .u32)) (.pair (.slice (.int .i64)) (.pair (.int .i64) .unit))) (.pair (.arr 32 (.int .u8)) .unit))]
abbrev R_11:List Ty:=[.bool]
noncomputable def sm_11:Nat->Option Summ:=smL []
noncomputable def F_11(a0:(((List Int)×((List Int)×(Int×Unit)))×((List Int)×Unit))):Option (Bool×Unit) :=
 bif decide ((↑(length (a0.1.2.1)):Int)<=70)then some (decide ((↑(length (a0.1.1)):Int)<=4480),PUnit.unit)else some (false,PUnit.unit)
noncomputable def Sp.p_11(a0:(((List Int)×((List Int)×(Int×Unit)))×((List Int)×Unit))):Bool:=(F_11 a0).isSome
noncomputable def Sp.v_11(a0:(((List Int)×((List Int)×(Int×Unit)))×((List Int)×Unit))):Bool×Unit:=(F_11 a0).getD (dfH R_11)
noncomputable def s_11:Summ:=shN A_11 R_11 (fun x=>p_11 x.1) (fun x=>v_11 x.1)
theorem pv_11(a0:(((List Int)×((List Int)×(Int×Unit)))×((List Int)×Unit))){y:Bool×Unit}(h:F_11 a0=some y):p_11 a0=true/\v_11 a0=y:=pvG h
theorem run_11(x:HDen A_11)(y:HDen R_11)(h:F_11 x.1=some y):rnF sm_11 1 11 A_11 R_11 x y:=runG noO_ok (os:=[]) trivial (Eq.trans (by kernel_rfl) h)
end
noncomputable section
abbrev A_19:List Ty:=[(.pair (.pair (.slice (.int .u32)) (.pair (.slice (.int .i64)) (.pair (.int .i64) .unit))) (.pair (.arr 32 (.int .u8)) .unit))]
abbrev R_19:List Ty:=[(.int .i64),.bool]
noncomputable def sm_19:Nat->Option Summ:=smL [(17,s_17)]
noncomputable def F_19(a0:(((List Int)×((List Int)×(Int×Unit)))×((List Int)×Unit))):Option (Int×Bool×Unit) :=
 gd (p_17 a0) (some ((v_17 a0).1,(v_17 a0).2.1==0,PUnit.unit))
noncomputable def Sp.p_19(a0:(((List Int)×((List Int)×(Int×Unit)))×((List Int)×Unit))):Bool:=(F_19 a0).isSome
noncomputable def Sp.v_19(a0:(((List Int)×((List Int)×(Int×Unit)))×((List Int)×Unit))):Int×Bool×Unit:=(F_19 a0).getD (dfH R_19)
noncomputable def s_19:Summ:=shN A_19 R_19 (fun x=>p_19 x.1) (fun x=>v_19 x.1)
theorem pv_19(a0:(((List Int)×((List Int)×(Int×Unit)))×((List Int)×Unit))){y:Int×Bool×Unit}(h:F_19 a0=some y):p_19 a0=true/\v_19 a0=y:=pvG h
theorem run_19(x:HDen A_19)(y:HDen R_19)(h:F_19 x.1=some y):rnF sm_19 1 19 A_19 R_19 x y:=runG noO_ok (os:=[]) trivial (Eq.trans (by kernel_rfl) h)
end
noncomputable section
abbrev A_20:List Ty:=[(.pair (.pair (.slice (.int .u32)) (.pair (.slice (.int .i64)) (.pair (.int .i64) .unit))) (.pair (.arr 32 (.int .u8)) .unit))]
abbrev R_20:List Ty:=[(.int .i64)]
noncomputable def sm_20:Nat->Option Summ:=smL [(14,s_14),(19,s_19)]
noncomputable def F_20(a0:(((List Int)×((List Int)×(Int×Unit)))×((List Int)×Unit))):Option (Int×Unit) :=
 gd (p_19 a0) (bif !(v_19 a0).2.1 then some (0,PUnit.unit)else gd (p_14 a0 ((v_19 a0).1)) (some ((v_14 a0 ((v_19 a0).1)).1.1,PUnit.unit)))
noncomputable def Sp.p_20(a0:(((List Int)×((List Int)×(Int×Unit)))×((List Int)×Unit))):Bool:=(F_20 a0).isSome
noncomputable def Sp.v_20(a0:(((List Int)×((List Int)×(Int×Unit)))×((List Int)×Unit))):Int×Unit:=(F_20 a0).getD (dfH R_20)
noncomputable def s_20:Summ:=shN A_20 R_20 (fun x=>p_20 x.1) (fun x=>v_20 x.1)
theorem pv_20(a0:(((List Int)×((List Int)×(Int×Unit)))×((List Int)×Unit))){y:Int×Unit}(h:F_20 a0=some y):p_20 a0=true/\v_20 a0=y:=pvG h
theorem run_20(x:HDen A_20)(y:HDen R_20)(h:F_20 x.1=some y):rnF sm_20 1 20 A_20 R_20 x y:=runG noO_ok (os:=[]) trivial (Eq.trans (by kernel_rfl) h)
end
noncomputable section
abbrev A_60:List Ty:=[(.pair (.pair (.slice (.int .u32)) (.pair (.slice (.int .i64)) (.pair (.int .i64) .unit))) (.pair (.arr 32 (.int .u8)) .unit)),(.int .i64)]
abbrev R_60:List Ty:=[(.int .i64)]
noncomputable def sm_60:Nat->Option Summ:=smL [(12,s_12),(13,s_13),(46,s_46)]
noncomputable def F_60(a0:(((List Int)×((List Int)×(Int×Unit)))×((List Int)×Unit)))(a1:Int):Option (Int×Unit) :=
 gd (p_12 a0) (bif !(v_12 a0).1 then some (1,PUnit.unit)else gd (p_46 a1) (bif !(v_46 a1).1 then some (2,PUnit.unit)else gd (p_13 a0 a1) (bif !(v_13 a0 a1).1 then some (14,PUnit.unit)else some (0,PUnit.unit))))
noncomputable def Sp.p_60(a0:(((List Int)×((List Int)×(Int×Unit)))×((List Int)×Unit)))(a1:Int):Bool:=(F_60 a0 a1).isSome
noncomputable def Sp.v_60(a0:(((List Int)×((List Int)×(Int×Unit)))×((List Int)×Unit)))(a1:Int):Int×Unit:=(F_60 a0 a1).getD (dfH R_60)
noncomputable def s_60:Summ:=shN A_60 R_60 (fun x=>p_60 x.1 x.2.1) (fun x=>v_60 x.1 x.2.1)
theorem pv_60(a0:(((List Int)×((List Int)×(Int×Unit)))×((List Int)×Unit)))(a1:Int){y:Int×Unit}(h:F_60 a0 a1=some y):p_60 a0 a1=true/\v_60 a0 a1=y:=pvG h
theorem run_60(x:HDen A_60)(y:HDen R_60)(h:F_60 x.1 x.2.1=some y):rnF sm_60 1 60 A_60 R_60 x y:=runG noO_ok (os:=[]) trivial (Eq.trans (by kernel_rfl) h)
end
noncomputable section
abbrev A_27:List Ty:=[(.pair (.pair (.slice (.int .u32)) (.pair (.slice (.int .i64)) (.pair (.int .i64) .unit))) (.pair (.arr 32 (.int .u8)) .unit)),(.int .i64)]
abbrev R_27:List Ty:=[(.slice (.int .u32)),(.int .i64)]
noncomputable def sm_27:Nat->Option Summ:=smL [(42,s_42),(60,s_60),(61,s_61)]
noncomputable def F_27(a0:(((List Int)×((List Int)×(Int×Unit)))×((List Int)×Unit)))(a1:Int):Option ((List Int)×Int×Unit) :=
 gd (p_60 a0 a1) (bif(v_60 a0 a1).1 !=0 then some ([],(v_60 a0 a1).1,PUnit.unit)else gd (p_42 a0 a1) (gd (inB 2 (length ((v_42 a0 a1).1))) (gd (sl3 564 (wrap i64 (564+wrap i64 (getD ((v_42 a0 a1).1) 2 0))) (↑(length ((v_42 a0 a1).1)):Int)) (gd (room (length (take (toNat (wrap i64 (564+wrap i64 (getD ((v_42 a0 a1).1) 2 0)))-564) (drop 564 ((v_42 a0 a1).1)))) 4) (some (take (toNat (wrap i64 (564+wrap i64 (getD ((v_42 a0 a1).1) 2 0)))-564) (drop 564 ((v_42 a0 a1).1)),0,PUnit.unit))))))
noncomputable def Sp.p_27(a0:(((List Int)×((List Int)×(Int×Unit)))×((List Int)×Unit)))(a1:Int):Bool:=(F_27 a0 a1).isSome
noncomputable def Sp.v_27(a0:(((List Int)×((List Int)×(Int×Unit)))×((List Int)×Unit)))(a1:Int):(List Int)×Int×Unit:=(F_27 a0 a1).getD (dfH R_27)
noncomputable def s_27:Summ:=shS A_27 R_27 (fun x=>p_27 x.1 x.2.1) (fun x=>v_27 x.1 x.2.1)
theorem pv_27(a0:(((List Int)×((List Int)×(Int×Unit)))×((List Int)×Unit)))(a1:Int){y:(List Int)×Int×Unit}(h:F_27 a0 a1=some y):p_27 a0 a1=true/\v_27 a0 a1=y:=pvG h
theorem run_27(x:HDen A_27)(y:HDen R_27)(h:F_27 x.1 x.2.1=some y):rnF sm_27 1 27 A_27 R_27 x y:=runG noO_ok (os:=[]) trivial (Eq.trans (by kernel_rfl) h)
end
noncomputable section
abbrev A_62:List Ty:=[(.pair (.int .i64) (.pair (.slice (.arr 32 (.int .u8))) (.pair (.slice (.arr 32 (.int .u8))) .unit))),(.pair (.int .i64) (.pair (.slice (.arr 32 (.int .u8))) (.pair (.slice (.arr 32 (.int .u8))) .unit)))]
abbrev R_62:List Ty:=[.bool]
noncomputable def sm_62:Nat->Option Summ:=smL []
noncomputable def T_62_0:PS:=⟨66,[(2,.kc (.ptr 0 [])),(3,.kc (.ptr 1 [])),(5,.hv (.int .i64))],[.mem (.hv (.pair (.int .i64) (.pair (.slice (.arr 32 (.int .u8))) (.pair (.slice (.arr 32 (.int .u8))) .unit)))),.mem (.hv (.pair (.int .i64) (.pair (.slice (.arr 32 (.int .u8))) (.pair (.slice (.arr 32 (.int .u8))) .unit))))],0⟩
inductive Sp.E_62_0 where
 |e0
 |e1 (p1 p2:Int×List (List Int)×List (List Int)×Unit)
noncomputable def Sp.B_62_0{R:Type}(r:Option E_62_0)(k0:Option R)(k1:(Int×List (List Int)×List (List Int)×Unit)->(Int×List (List Int)×List (List Int)×Unit)->Option R):Option R:=match r with
 |none=>none
 |some (.e0)=>k0
 |some (.e1 p1 p2)=>k1 p1 p2
noncomputable def Y_62_0{R:Type}(k:Ex->St->Option R):E_62_0->Option R
 | .e0=>k Ex.ret (sx 66 [(4,CV.bool false)] [])
 | .e1 p1 p2=>k (Ex.exit 0) (sx 66 [(2,CV.ptr 0 []),(3,CV.ptr 1 [])] [Blk.mem (CV.pure (Ty.pair (Ty.int i64) (Ty.pair (Ty.slice (Ty.arr 32 (Ty.int u8))) (Ty.pair (Ty.slice (Ty.arr 32 (Ty.int u8))) Ty.unit))) p1),Blk.mem (CV.pure (Ty.pair (Ty.int i64) (Ty.pair (Ty.slice (Ty.arr 32 (Ty.int u8))) (Ty.pair (Ty.slice (Ty.arr 32 (Ty.int u8))) Ty.unit))) p2)])
noncomputable def Sp.S_62_0{R:Type}(K:Int->(Int×List (List Int)×List (List Int)×Unit)->(Int×List (List Int)×List (List Int)×Unit)->Option R)(k:E_62_0->Option R)(p0:Int)(p1 p2:Int×List (List Int)×List (List Int)×Unit):Option R:=
 bif decide (p0<(↑(length (p1.2.1)):Int))then gd (inB p0 (length (p1.2.1))) (gd (inB p0 (length (p2.2.1))) (bif !Ty.beq (Ty.arr 32 (Ty.int u8)) (getD (p1.2.1) (toNat p0) (Ty.dflt (Ty.arr 32 (Ty.int u8)))) (getD (p2.2.1) (toNat p0) (Ty.dflt (Ty.arr 32 (Ty.int u8))))then k (E_62_0.e0)else K (wrap i64 (p0+1)) p1 p2))else k (E_62_0.e1 p1 p2)
noncomputable def Sp.L_62_0:Nat->Int->(Int×List (List Int)×List (List Int)×Unit)->(Int×List (List Int)×List (List Int)×Unit)->Option E_62_0
 |0,_,_,_=>none
 |m+1,p0,p1,p2=>S_62_0 (L_62_0 m) some p0 p1 p2
noncomputable def l_62_0(m:Nat)(a:T_62_0.E):Option E_62_0:=L_62_0 m a.1 a.2.1 a.2.2.1
noncomputable def O_62_0{R:Type}:Orc R:=orL T_62_0 (l_62_0 FU) Y_62_0
theorem OK_62_0{R:Type}:okF (R:=R) sm_62 0 (nf 62 0) O_62_0:=lp0 T_62_0 l_62_0 (fun R K k a=>S_62_0 (fun p0 p1 p2=>K (p0,p1,p2,())) k a.1 a.2.1 a.2.2.1) Y_62_0 (fun _ _ _=>by kernel_rfl) (fun _ _ _=>by
 unfold S_62_0
 repeat' first|apply gdN|apply condN|rfl) (ok0 _)
noncomputable def T_62_1:PS:=⟨66,[(2,.kc (.ptr 0 [])),(3,.kc (.ptr 1 [])),(6,.hv (.int .i64))],[.mem (.hv (.pair (.int .i64) (.pair (.slice (.arr 32 (.int .u8))) (.pair (.slice (.arr 32 (.int .u8))) .unit)))),.mem (.hv (.pair (.int .i64) (.pair (.slice (.arr 32 (.int .u8))) (.pair (.slice (.arr 32 (.int .u8))) .unit))))],0⟩
inductive Sp.E_62_1 where
 |e0
 |e1
noncomputable def Sp.B_62_1{R:Type}(r:Option E_62_1)(k0 k1:Option R):Option R:=match r with
 |none=>none
 |some (.e0)=>k0
 |some (.e1)=>k1
noncomputable def Y_62_1{R:Type}(k:Ex->St->Option R):E_62_1->Option R
 | .e0=>k Ex.ret (sx 66 [(4,CV.bool false)] [])
 | .e1=>k (Ex.exit 2) (sx 66 [] [])
noncomputable def Sp.S_62_1{R:Type}(K:Int->(Int×List (List Int)×List (List Int)×Unit)->(Int×List (List Int)×List (List Int)×Unit)->Option R)(k:E_62_1->Option R)(p0:Int)(p1 p2:Int×List (List Int)×List (List Int)×Unit):Option R:=
 bif decide (p0<(↑(length (p1.2.2.1)):Int))then gd (inB p0 (length (p1.2.2.1))) (gd (inB p0 (length (p2.2.2.1))) (bif !Ty.beq (Ty.arr 32 (Ty.int u8)) (getD (p1.2.2.1) (toNat p0) (Ty.dflt (Ty.arr 32 (Ty.int u8)))) (getD (p2.2.2.1) (toNat p0) (Ty.dflt (Ty.arr 32 (Ty.int u8))))then k (E_62_1.e0)else K (wrap i64 (p0+1)) p1 p2))else k (E_62_1.e1)
noncomputable def Sp.L_62_1:Nat->Int->(Int×List (List Int)×List (List Int)×Unit)->(Int×List (List Int)×List (List Int)×Unit)->Option E_62_1
 |0,_,_,_=>none
 |m+1,p0,p1,p2=>S_62_1 (L_62_1 m) some p0 p1 p2
noncomputable def l_62_1(m:Nat)(a:T_62_1.E):Option E_62_1:=L_62_1 m a.1 a.2.1 a.2.2.1
noncomputable def O_62_1{R:Type}:Orc R:=orL T_62_1 (l_62_1 FU) Y_62_1
theorem OK_62_1{R:Type}:okF (R:=R) sm_62 0 (nf 62 1) O_62_1:=lp0 T_62_1 l_62_1 (fun R K k a=>S_62_1 (fun p0 p1 p2=>K (p0,p1,p2,())) k a.1 a.2.1 a.2.2.1) Y_62_1 (fun _ _ _=>by kernel_rfl) (fun _ _ _=>by
 unfold S_62_1
 repeat' first|apply gdN|apply condN|rfl) (ok0 _)
noncomputable def F_62(a0:(Int×((List (List Int))×((List (List Int))×Unit))))(a1:(Int×((List (List Int))×((List (List Int))×Unit)))):Option (Bool×Unit) :=
 bif a0.1 !=a1.1 then some (false,PUnit.unit)else bif(↑(length (a0.2.1)):Int)!=(↑(length (a1.2.1)):Int)then some (false,PUnit.unit)else bif(↑(length (a0.2.2.1)):Int)!=(↑(length (a1.2.2.1)):Int)then some (false,PUnit.unit)else B_62_0 (L_62_0 4611686018427387904 0 a0 a1) (some (false,PUnit.unit)) fun y2 y3=>B_62_1 (L_62_1 4611686018427387904 0 y2 y3) (some (false,PUnit.unit)) (some (true,PUnit.unit))
noncomputable def Sp.p_62(a0:(Int×((List (List Int))×((List (List Int))×Unit))))(a1:(Int×((List (List Int))×((List (List Int))×Unit)))):Bool:=(F_62 a0 a1).isSome
noncomputable def Sp.v_62(a0:(Int×((List (List Int))×((List (List Int))×Unit))))(a1:(Int×((List (List Int))×((List (List Int))×Unit)))):Bool×Unit:=(F_62 a0 a1).getD (dfH R_62)
noncomputable def s_62:Summ:=shN A_62 R_62 (fun x=>p_62 x.1 x.2.1) (fun x=>v_62 x.1 x.2.1)
theorem pv_62(a0:(Int×((List (List Int))×((List (List Int))×Unit))))(a1:(Int×((List (List Int))×((List (List Int))×Unit)))){y:Bool×Unit}(h:F_62 a0 a1=some y):p_62 a0 a1=true/\v_62 a0 a1=y:=pvG h
theorem run_62(x:HDen A_62)(y:HDen R_62)(h:F_62 x.1 x.2.1=some y):rnF sm_62 1 62 A_62 R_62 x y:=runG noO_ok (os:=[O_62_0,O_62_1]) ⟨OK_62_0,OK_62_1,trivial⟩ (Eq.trans (by kernel_rfl) h)
end
noncomputable section
abbrev A_29:List Ty:=[(.pair (.int .i64) (.pair (.int .i64) (.pair (.arr 32 (.int .u8)) (.pair (.pair (.int .i64) (.pair (.slice (.arr 32 (.int .u8))) (.pair (.slice (.arr 32 (.int .u8))) .unit))) .unit)))),(.pair (.int .i64) (.pair (.int .i64) (.pair (.arr 32 (.int .u8)) (.pair (.pair (.int .i64) (.pair (.slice (.arr 32 (.int .u8))) (.pair (.slice (.arr 32 (.int .u8))) .unit))) .unit))))]
abbrev R_29:List Ty:=[.bool]
noncomputable def sm_29:Nat->Option Summ:=smL [(62,s_62)]
noncomputable def F_29(a0:(Int×(Int×((List Int)×((Int×((List (List Int))×((List (List Int))×Unit)))×Unit)))))(a1:(Int×(Int×((List Int)×((Int×((List (List Int))×((List (List Int))×Unit)))×Unit))))):Option (Bool×Unit) :=
 bif a0.1==a1.1 then bif a0.2.1==a1.2.1 then bif Ty.beq (Ty.arr 32 (Ty.int u8)) (a0.2.2.1) (a1.2.2.1)then gd (p_62 (a0.2.2.2.1) (a1.2.2.2.1)) (some ((v_62 (a0.2.2.2.1) (a1.2.2.2.1)).1,PUnit.unit))else some (false,PUnit.unit)else some (false,PUnit.unit)else some (false,PUnit.unit)
noncomputable def Sp.p_29(a0:(Int×(Int×((List Int)×((Int×((List (List Int))×((List (List Int))×Unit)))×Unit)))))(a1:(Int×(Int×((List Int)×((Int×((List (List Int))×((List (List Int))×Unit)))×Unit))))):Bool:=(F_29 a0 a1).isSome
noncomputable def Sp.v_29(a0:(Int×(Int×((List Int)×((Int×((List (List Int))×((List (List Int))×Unit)))×Unit)))))(a1:(Int×(Int×((List Int)×((Int×((List (List Int))×((List (List Int))×Unit)))×Unit))))):Bool×Unit:=(F_29 a0 a1).getD (dfH R_29)
noncomputable def s_29:Summ:=shN A_29 R_29 (fun x=>p_29 x.1 x.2.1) (fun x=>v_29 x.1 x.2.1)
theorem pv_29(a0:(Int×(Int×((List Int)×((Int×((List (List Int))×((List (List Int))×Unit)))×Unit)))))(a1:(Int×(Int×((List Int)×((Int×((List (List Int))×((List (List Int))×Unit)))×Unit))))){y:Bool×Unit}(h:F_29 a0 a1=some y):p_29 a0 a1=true/\v_29 a0 a1=y:=pvG h
theorem run_29(x:HDen A_29)(y:HDen R_29)(h:F_29 x.1 x.2.1=some y):rnF sm_29 1 29 A_29 R_29 x y:=runG noO_ok (os:=[]) trivial (Eq.trans (by kernel_rfl) h)
end
noncomputable section
abbrev A_30:List Ty:=[(.slice (.int .u32)),(.slice (.int .u32))]
abbrev R_30:List Ty:=[.bool]
noncomputable def sm_30:Nat->Option Summ:=smL []
noncomputable def T_30_0:PS:=⟨26,[(0,.hv (.slice (.int .u32))),(1,.hv (.slice (.int .u32))),(12,.hv (.int .i64)),(13,.hv (.int .i64))],[],0⟩
inductive Sp.E_30_0 where
 |e0
 |e1
noncomputable def Sp.B_30_0{R:Type}(r:Option E_30_0)(k0 k1:Option R):Option R:=match r with
 |none=>none
 |some (.e0)=>k0
 |some (.e1)=>k1
noncomputable def Y_30_0{R:Type}(k:Ex->St->Option R):E_30_0->Option R
 | .e0=>k Ex.ret (sx 26 [(4,CV.bool false)] [])
 | .e1=>k (Ex.exit 0) (sx 26 [] [])
noncomputable def Sp.S_30_0{R:Type}(K:List Int->List Int->Int->Int->Option R)(k:E_30_0->Option R)(p0 p1:List Int)(p2 p3:Int):Option R:=
 bif decide (p3<p2)then gd (inB p3 (length p0)) (gd (inB p3 (length p1)) (bif getD p0 (toNat p3) 0 !=getD p1 (toNat p3) 0 then k (E_30_0.e0)else K p0 p1 p2 (wrap i64 (p3+1))))else k (E_30_0.e1)
noncomputable def Sp.L_30_0:Nat->List Int->List Int->Int->Int->Option E_30_0
 |0,_,_,_,_=>none
 |m+1,p0,p1,p2,p3=>S_30_0 (L_30_0 m) some p0 p1 p2 p3
noncomputable def l_30_0(m:Nat)(a:T_30_0.E):Option E_30_0:=L_30_0 m a.1 a.2.1 a.2.2.1 a.2.2.2.1
noncomputable def O_30_0{R:Type}:Orc R:=orL T_30_0 (l_30_0 FU) Y_30_0
theorem OK_30_0{R:Type}:okF (R:=R) sm_30 0 (nf 30 0) O_30_0:=lp0 T_30_0 l_30_0 (fun R K k a=>S_30_0 (fun p0 p1 p2 p3=>K (p0,p1,p2,p3,())) k a.1 a.2.1 a.2.2.1 a.2.2.2.1) Y_30_0 (fun _ _ _=>by kernel_rfl) (fun _ _ _=>by
 unfold S_30_0
 repeat' first|apply gdN|apply condN|rfl) (ok0 _)
noncomputable def F_30(a0 a1:(List Int)):Option (Bool×Unit) :=
 bif(↑(length a0):Int)!=(↑(length a1):Int)then some (false,PUnit.unit)else B_30_0 (L_30_0 4611686018427387904 a0 a1 (↑(length a0):Int) 0) (some (false,PUnit.unit)) (some (true,PUnit.unit))
noncomputable def Sp.p_30(a0 a1:(List Int)):Bool:=(F_30 a0 a1).isSome
noncomputable def Sp.v_30(a0 a1:(List Int)):Bool×Unit:=(F_30 a0 a1).getD (dfH R_30)
noncomputable def s_30:Summ:=shN A_30 R_30 (fun x=>p_30 x.1 x.2.1) (fun x=>v_30 x.1 x.2.1)
theorem pv_30(a0 a1:(List Int)){y:Bool×Unit}(h:F_30 a0 a1=some y):p_30 a0 a1=true/\v_30 a0 a1=y:=pvG h
theorem run_30(x:HDen A_30)(y:HDen R_30)(h:F_30 x.1 x.2.1=some y):rnF sm_30 1 30 A_30 R_30 x y:=runG noO_ok (os:=[O_30_0]) ⟨OK_30_0,trivial⟩ (Eq.trans (by kernel_rfl) h)
end
noncomputable section
abbrev A_34:List Ty:=[]
abbrev R_34:List Ty:=[(.pair (.int .i64) (.pair (.int .u32) .unit))]
noncomputable def sm_34:Nat->Option Summ:=smL []
noncomputable def F_34:Option ((Int×(Int×Unit))×Unit) :=
 some ((1099511627776,0,PUnit.unit),PUnit.unit)
noncomputable def Sp.p_34:Bool:=(F_34).isSome
noncomputable def Sp.v_34:(Int×(Int×Unit))×Unit:=(F_34).getD (dfH R_34)
noncomputable def s_34:Summ:=shN A_34 R_34 (fun x=>p_34) (fun x=>v_34)
theorem pv_34{y:(Int×(Int×Unit))×Unit}(h:F_34=some y):p_34=true/\v_34=y:=pvG h
theorem run_34(x:HDen A_34)(y:HDen R_34)(h:F_34=some y):rnF sm_34 1 34 A_34 R_34 x y:=runG noO_ok (os:=[]) trivial (Eq.trans (by kernel_rfl) h)
end
noncomputable section
abbrev A_91:List Ty:=[(.pair (.slice (.int .u32)) (.pair (.slice (.int .i64)) (.pair (.int .i64) .unit))),(.pair (.int .i64) (.pair (.int .u32) .unit)),(.int .i64),(.int .i64)]
abbrev R_91:List Ty:=[(.int .i64)]
noncomputable def sm_91:Nat->Option Summ:=smL [(40,s_40)]
noncomputable def F_91(a0:((List Int)×((List Int)×(Int×Unit))))(a1:(Int×(Int×Unit)))(a2 a3:Int):Option (Int×Unit) :=
 gd (p_40 a0) (bif !(v_40 a0).1 then some (1,PUnit.unit)else bif decide (a1.1<0)then some (1,PUnit.unit)else bif decide (a1.1>1099511627776)then some (1,PUnit.unit)else bif decide (a2<0)then some (2,PUnit.unit)else bif decide (a2>=a3)then some (2,PUnit.unit)else some (0,PUnit.unit))
noncomputable def Sp.p_91(a0:((List Int)×((List Int)×(Int×Unit))))(a1:(Int×(Int×Unit)))(a2 a3:Int):Bool:=(F_91 a0 a1 a2 a3).isSome
noncomputable def Sp.v_91(a0:((List Int)×((List Int)×(Int×Unit))))(a1:(Int×(Int×Unit)))(a2 a3:Int):Int×Unit:=(F_91 a0 a1 a2 a3).getD (dfH R_91)
noncomputable def s_91:Summ:=shN A_91 R_91 (fun x=>p_91 x.1 x.2.1 x.2.2.1 x.2.2.2.1) (fun x=>v_91 x.1 x.2.1 x.2.2.1 x.2.2.2.1)
theorem pv_91(a0:((List Int)×((List Int)×(Int×Unit))))(a1:(Int×(Int×Unit)))(a2 a3:Int){y:Int×Unit}(h:F_91 a0 a1 a2 a3=some y):p_91 a0 a1 a2 a3=true/\v_91 a0 a1 a2 a3=y:=pvG h
theorem run_91(x:HDen A_91)(y:HDen R_91)(h:F_91 x.1 x.2.1 x.2.2.1 x.2.2.2.1=some y):rnF sm_91 1 91 A_91 R_91 x y:=runG noO_ok (os:=[]) trivial (Eq.trans (by kernel_rfl) h)
end
noncomputable section
abbrev A_63:List Ty:=[(.pair (.slice (.int .u32)) (.pair (.slice (.int .i64)) (.pair (.int .i64) .unit))),(.int .i64),(.int .u32),(.pair (.int .i64) (.pair (.int .u32) .unit))]
abbrev R_63:List Ty:=[(.pair (.slice (.int .u32)) (.pair (.slice (.int .i64)) (.pair (.int .i64) .unit))),(.pair (.int .i64) (.pair (.int .u32) .unit)),(.int .i64)]
noncomputable def sm_63:Nat->Option Summ:=smL [(61,s_61),(91,s_91),(103,s_103)]
noncomputable def F_63(a0:((List Int)×((List Int)×(Int×Unit))))(a1 a2:Int)(a3:(Int×(Int×Unit))):Option (((List Int)×((List Int)×(Int×Unit)))×(Int×(Int×Unit))×Int×Unit) :=
 gd (p_91 a0 a3 a1 (↑(length (a0.1)):Int)) (bif(v_91 a0 a3 a1 (↑(length (a0.1)):Int)).1 !=0 then some (([],[],0,PUnit.unit),(0,0,PUnit.unit),(v_91 a0 a3 a1 (↑(length (a0.1)):Int)).1,PUnit.unit)else gd (room (length (a0.1)) 4) (gd (room (length (a0.2.1)) 8) (bif a3.1==0 then some ((a0.1,a0.2.1,a0.2.2.1,PUnit.unit),a3,18,PUnit.unit)else bif a3.1==1 then gd (inB a1 (length (a0.1))) (gd (decide (toNat a1<length (a0.1))&&true) (gd (inB a1 (length (a0.1))) (gd (decide (toNat a1<length (a0.1))&&true&&true) (some ((List.set (a0.1) (toNat a1) (Sp.andnI u32 (getD (a0.1) (toNat a1) 0) (Sp.andnI u32 (a3.2.1) a2)),a0.2.1,a0.2.2.1,PUnit.unit),(0,a3.2),18,PUnit.unit)))))else gd (inB a1 (length (a0.1))) (gd (decide (toNat a1<length (a0.1))&&true) (gd (inB a1 (length (a0.1))) (gd (decide (toNat a1<length (a0.1))&&true&&true) (some ((List.set (a0.1) (toNat a1) (Sp.andnI u32 (getD (a0.1) (toNat a1) 0) (Sp.andnI u32 4294967295 a2)),a0.2.1,a0.2.2.1,PUnit.unit),(wrap i64 (a3.1-1),a3.2),0,PUnit.unit))))))))
noncomputable def Sp.p_63(a0:((List Int)×((List Int)×(Int×Unit))))(a1 a2:Int)(a3:(Int×(Int×Unit))):Bool:=(F_63 a0 a1 a2 a3).isSome
noncomputable def Sp.v_63(a0:((List Int)×((List Int)×(Int×Unit))))(a1 a2:Int)(a3:(Int×(Int×Unit))):((List Int)×((List Int)×(Int×Unit)))×(Int×(Int×Unit))×Int×Unit:=(F_63 a0 a1 a2 a3).getD (dfH R_63)
noncomputable def s_63:Summ:=shS A_63 R_63 (fun x=>p_63 x.1 x.2.1 x.2.2.1 x.2.2.2.1) (fun x=>v_63 x.1 x.2.1 x.2.2.1 x.2.2.2.1)
theorem pv_63(a0:((List Int)×((List Int)×(Int×Unit))))(a1 a2:Int)(a3:(Int×(Int×Unit))){y:((List Int)×((List Int)×(Int×Unit)))×(Int×(Int×Unit))×Int×Unit}(h:F_63 a0 a1 a2 a3=some y):p_63 a0 a1 a2 a3=true/\v_63 a0 a1 a2 a3=y:=pvG h
theorem run_63(x:HDen A_63)(y:HDen R_63)(h:F_63 x.1 x.2.1 x.2.2.1 x.2.2.2.1=some y):rnF sm_63 3 63 A_63 R_63 x y:=runG noO_ok (os:=[]) trivial (Eq.trans (by kernel_rfl) h)
end
noncomputable section
abbrev Zt31_0:Type:=(List Int×List Int×Int×Unit)×List Int×Unit
abbrev Zt31_1:Type:=Int×Int×Unit
abbrev Zy31_2:Ty:=(.pair (.pair (.slice (.int .u32)) (.pair (.slice (.int .i64)) (.pair (.int .i64) .unit))) (.pair (.arr 32 (.int .u8)) .unit))
abbrev Zy31_3:Ty:=(.pair (.int .i64) (.pair (.int .u32) .unit))
abbrev Zt31_4:Type:=((List Int)×((List Int)×(Int×Unit)))×((List Int)×Unit)
abbrev Zt31_5:Type:=Int×(Int×Unit)
abbrev A_31:List Ty:=[(.pair (.pair (.slice (.int .u32)) (.pair (.slice (.int .i64)) (.pair (.int .i64) .unit))) (.pair (.arr 32 (.int .u8)) .unit)),(.int .i64),(.pair (.int .i64) (.pair (.int .u32) .unit))]
abbrev R_31:List Ty:=[(.pair (.pair (.slice (.int .u32)) (.pair (.slice (.int .i64)) (.pair (.int .i64) .unit))) (.pair (.arr 32 (.int .u8)) .unit)),(.pair (.int .i64) (.pair (.int .u32) .unit)),(.int .i64)]
noncomputable def sm_31:Nat->Option Summ:=smL [(14,s_14),(20,s_20),(34,s_34),(51,s_51),(60,s_60),(63,s_63)]
noncomputable def T_31_1:PS:=⟨86,[(1,.hv (.int .i64)),(3,.kc (.ptr 0 [])),(5,.kc (.ptr 1 [])),(6,.kc (.ptr 2 [])),(7,.kc (.ptr 5 [])),(9,.hv (.int .i64))],[.mem (.hv Zy31_2),.mem (.hv Zy31_3),.mem (.pr (.pr (.kc (.whole 3)) (.pr (.kc (.whole 4)) (.hv (.pair (.int .i64) .unit)))) (.hv (.pair (.arr 32 (.int .u8)) .unit))),.vec 42 (.int .u32),.vec 3 (.int .i64),.mem (.hv Zy31_3)],0⟩
inductive Sp.E_31_1 where
 |e0 (p1:Int)
 |e1 (p0:Int) (p2:Zt31_0) (p3:Zt31_1)
 |e2 (p0:Int) (p2:Zt31_0) (p3:Zt31_1)
noncomputable def Sp.B_31_1{R:Type}(r:Option E_31_1)(k0:Int->Option R)(k1 k2:Int->Zt31_0->Zt31_1->Option R):Option R:=match r with
 |none=>none
 |some (.e0 p1)=>k0 p1
 |some (.e1 p0 p2 p3)=>k1 p0 p2 p3
 |some (.e2 p0 p2 p3)=>k2 p0 p2 p3
theorem Bn_31_1{A R:Type}{r:Option E_31_1}{f:A->Option R}{k0:Int->Option A}{k1:Int->Zt31_0->Zt31_1->Option A}{k2:Int->Zt31_0->Zt31_1->Option A}{l0:Int->Option R}{l1:Int->Zt31_0->Zt31_1->Option R}{l2:Int->Zt31_0->Zt31_1->Option R}(h0:∀p1,(k0 p1).bind f=l0 p1)(h1:∀p0 p2 p3,(k1 p0 p2 p3).bind f=l1 p0 p2 p3)(h2:∀p0 p2 p3,(k2 p0 p2 p3).bind f=l2 p0 p2 p3):(B_31_1 r k0 k1 k2).bind f=B_31_1 r l0 l1 l2:=by
 cases r with
 |none=>rfl
 |some e=>cases e<;>first|apply h0|apply h1|apply h2
noncomputable def Y_31_1{R:Type}(k:Ex->St->Option R):E_31_1->Option R
 | .e0 p1=>k Ex.ret (sx 86 [(6,CV.ptr 0 []),(7,CV.ptr 3 []),(8,CV.int i64 p1)] [Blk.mem (CV.pair (CV.pair (CV.whole 1) (CV.pair (CV.whole 2) (CV.pure (Ty.pair (Ty.int i64) Ty.unit) ((0,PUnit.unit):(Int×Unit))))) (CV.pure (Ty.pair (Ty.arr 32 (Ty.int u8)) Ty.unit) ((replicate 32 (0:Int),PUnit.unit):((List Int)×Unit)))),Blk.vec 42 (Ty.int u32) [],Blk.vec 3 (Ty.int i64) [],Blk.mem (CV.pure (Ty.pair (Ty.int i64) (Ty.pair (Ty.int u32) Ty.unit)) ((0,0,PUnit.unit):(Zt31_5)))])
 | .e1 p0 p2 p3=>k Ex.ret (sx 86 [(6,CV.ptr 0 []),(7,CV.ptr 3 []),(8,CV.int i64 ((v_63 (p2.1) (wrap i64 (wrap i64 (Int.tdiv (wrap i64 (p0*(↑(length (p2.1.1)):Int))) 2)+0)) 0 p3).2.2.1))] [Blk.mem (CV.pair (CV.pair (CV.whole 1) (CV.pair (CV.whole 2) (CV.pure (Ty.pair (Ty.int i64) Ty.unit) ((0,PUnit.unit):(Int×Unit))))) (CV.pure (Ty.pair (Ty.arr 32 (Ty.int u8)) Ty.unit) ((replicate 32 (0:Int),PUnit.unit):((List Int)×Unit)))),Blk.vec 42 (Ty.int u32) [],Blk.vec 3 (Ty.int i64) [],Blk.mem (CV.pure (Ty.pair (Ty.int i64) (Ty.pair (Ty.int u32) Ty.unit)) ((0,0,PUnit.unit):(Zt31_5)))])
 | .e2 p0 p2 p3=>k Ex.ret (sx 86 [(6,CV.ptr 0 []),(7,CV.ptr 1 []),(8,CV.int i64 ((v_63 (p2.1) (wrap i64 (wrap i64 (Int.tdiv (wrap i64 (p0*(↑(length (p2.1.1)):Int))) 2)+0)) 0 p3).2.2.1))] [Blk.mem (CV.pure (Ty.pair (Ty.pair (Ty.slice (Ty.int u32)) (Ty.pair (Ty.slice (Ty.int i64)) (Ty.pair (Ty.int i64) Ty.unit))) (Ty.pair (Ty.arr 32 (Ty.int u8)) Ty.unit)) (((v_63 (p2.1) (wrap i64 (wrap i64 (Int.tdiv (wrap i64 (p0*(↑(length (p2.1.1)):Int))) 2)+0)) 0 p3).1,p2.2.1,PUnit.unit):(Zt31_4))),Blk.mem (CV.pure (Ty.pair (Ty.int i64) (Ty.pair (Ty.int u32) Ty.unit)) (((v_63 (p2.1) (wrap i64 (wrap i64 (Int.tdiv (wrap i64 (p0*(↑(length (p2.1.1)):Int))) 2)+0)) 0 p3).2.1):(Zt31_5)))])
noncomputable def Sp.S_31_1{R:Type}(k:E_31_1->Option R)(p0 p1:Int)(p2:(List Int×List Int×Int×Unit)×List Int×Unit)(p3:Int×Int×Unit)(p4:Int×Unit)(p5:List Int×Unit)(p6 p7:List Int)(p8:Int×Int×Unit):Option R:=
 bif p1 !=0 then k (E_31_1.e0 p1)else gd (p_63 (p2.1) (wrap i64 (wrap i64 (Int.tdiv (wrap i64 (p0*(↑(length (p2.1.1)):Int))) 2)+0)) 0 p3) (bif(v_63 (p2.1) (wrap i64 (wrap i64 (Int.tdiv (wrap i64 (p0*(↑(length (p2.1.1)):Int))) 2)+0)) 0 p3).2.2.1 !=0 then bif(v_63 (p2.1) (wrap i64 (wrap i64 (Int.tdiv (wrap i64 (p0*(↑(length (p2.1.1)):Int))) 2)+0)) 0 p3).2.2.1 !=18 then k (E_31_1.e1 p0 p2 p3)else k (E_31_1.e2 p0 p2 p3)else k (E_31_1.e2 p0 p2 p3))
noncomputable def Sp.J_31_1(p0 p1:Int)(p2:(List Int×List Int×Int×Unit)×List Int×Unit)(p3:Int×Int×Unit)(p4:Int×Unit)(p5:List Int×Unit)(p6 p7:List Int)(p8:Int×Int×Unit):Option E_31_1:=S_31_1 some p0 p1 p2 p3 p4 p5 p6 p7 p8
noncomputable def O_31_1{R:Type}:Orc R:=orL T_31_1 (fun a=>J_31_1 a.1 a.2.1 a.2.2.1 a.2.2.2.1 a.2.2.2.2.1 a.2.2.2.2.2.1 a.2.2.2.2.2.2.1 a.2.2.2.2.2.2.2.1 a.2.2.2.2.2.2.2.2.1) Y_31_1
theorem OK_31_1{R:Type}:okF (R:=R) sm_31 0 (ni (nf 31 0) 0) O_31_1:=jp noO_ok (os:=[]) trivial T_31_1 (fun R k a=>S_31_1 k a.1 a.2.1 a.2.2.1 a.2.2.2.1 a.2.2.2.2.1 a.2.2.2.2.2.1 a.2.2.2.2.2.2.1 a.2.2.2.2.2.2.2.1 a.2.2.2.2.2.2.2.2.1) Y_31_1 (fun k a=>by kernel_rfl) (fun Y a=>by
 unfold S_31_1
 repeat' first|apply gdN|apply condN|rfl) (ok0 _)
noncomputable def T_31_0:PS:=⟨86,[(1,.hv (.int .i64)),(3,.kc (.ptr 0 [])),(5,.kc (.ptr 1 [])),(6,.kc (.ptr 2 [])),(7,.kc (.ptr 5 [])),(9,.hv (.int .i64))],[.mem (.hv Zy31_2),.mem (.hv Zy31_3),.mem (.pr (.pr (.kc (.whole 3)) (.pr (.kc (.whole 4)) (.hv (.pair (.int .i64) .unit)))) (.hv (.pair (.arr 32 (.int .u8)) .unit))),.vec 42 (.int .u32),.vec 3 (.int .i64),.mem (.hv Zy31_3)],0⟩
inductive Sp.E_31_0 where
 |e0 (y21:Int)
 |e1 (y22:Int) (y23:Zt31_0) (y24:Zt31_1)
 |e2 (y25:Int) (y26:Zt31_0) (y27:Zt31_1)
noncomputable def Sp.B_31_0{R:Type}(r:Option E_31_0)(k0:Int->Option R)(k1 k2:Int->Zt31_0->Zt31_1->Option R):Option R:=match r with
 |none=>none
 |some (.e0 y21)=>k0 y21
 |some (.e1 y22 y23 y24)=>k1 y22 y23 y24
 |some (.e2 y25 y26 y27)=>k2 y25 y26 y27
noncomputable def Y_31_0{R:Type}(k:Ex->St->Option R):E_31_0->Option R
 | .e0 y21=>k Ex.ret (sx 86 [(6,CV.ptr 0 []),(7,CV.ptr 3 []),(8,CV.int i64 y21)] [Blk.mem (CV.pair (CV.pair (CV.whole 1) (CV.pair (CV.whole 2) (CV.pure (Ty.pair (Ty.int i64) Ty.unit) ((0,PUnit.unit):(Int×Unit))))) (CV.pure (Ty.pair (Ty.arr 32 (Ty.int u8)) Ty.unit) ((replicate 32 (0:Int),PUnit.unit):((List Int)×Unit)))),Blk.vec 42 (Ty.int u32) [],Blk.vec 3 (Ty.int i64) [],Blk.mem (CV.pure (Ty.pair (Ty.int i64) (Ty.pair (Ty.int u32) Ty.unit)) ((0,0,PUnit.unit):(Zt31_5)))])
 | .e1 y22 y23 y24=>k Ex.ret (sx 86 [(6,CV.ptr 0 []),(7,CV.ptr 3 []),(8,CV.int i64 ((v_63 (y23.1) (wrap i64 (wrap i64 (Int.tdiv (wrap i64 (y22*(↑(length (y23.1.1)):Int))) 2)+0)) 0 y24).2.2.1))] [Blk.mem (CV.pair (CV.pair (CV.whole 1) (CV.pair (CV.whole 2) (CV.pure (Ty.pair (Ty.int i64) Ty.unit) ((0,PUnit.unit):(Int×Unit))))) (CV.pure (Ty.pair (Ty.arr 32 (Ty.int u8)) Ty.unit) ((replicate 32 (0:Int),PUnit.unit):((List Int)×Unit)))),Blk.vec 42 (Ty.int u32) [],Blk.vec 3 (Ty.int i64) [],Blk.mem (CV.pure (Ty.pair (Ty.int i64) (Ty.pair (Ty.int u32) Ty.unit)) ((0,0,PUnit.unit):(Zt31_5)))])
 | .e2 y25 y26 y27=>k Ex.ret (sx 86 [(6,CV.ptr 0 []),(7,CV.ptr 1 []),(8,CV.int i64 ((v_63 (y26.1) (wrap i64 (wrap i64 (Int.tdiv (wrap i64 (y25*(↑(length (y26.1.1)):Int))) 2)+0)) 0 y27).2.2.1))] [Blk.mem (CV.pure (Ty.pair (Ty.pair (Ty.slice (Ty.int u32)) (Ty.pair (Ty.slice (Ty.int i64)) (Ty.pair (Ty.int i64) Ty.unit))) (Ty.pair (Ty.arr 32 (Ty.int u8)) Ty.unit)) (((v_63 (y26.1) (wrap i64 (wrap i64 (Int.tdiv (wrap i64 (y25*(↑(length (y26.1.1)):Int))) 2)+0)) 0 y27).1,y26.2.1,PUnit.unit):(Zt31_4))),Blk.mem (CV.pure (Ty.pair (Ty.int i64) (Ty.pair (Ty.int u32) Ty.unit)) (((v_63 (y26.1) (wrap i64 (wrap i64 (Int.tdiv (wrap i64 (y25*(↑(length (y26.1.1)):Int))) 2)+0)) 0 y27).2.1):(Zt31_5)))])
noncomputable def Sp.S_31_0{R:Type}(k:E_31_0->Option R)(p0 p1:Int)(p2:(List Int×List Int×Int×Unit)×List Int×Unit)(p3:Int×Int×Unit)(p4:Int×Unit)(p5:List Int×Unit)(p6 p7:List Int)(p8:Int×Int×Unit):Option R:=
 gd (p_14 p2 p0) (bif p1==0 then gd (p_20 p2) (bif decide ((v_14 p2 p0).1.1<(v_20 p2).1)then B_31_1 (J_31_1 p0 20 p2 p3 p4 p5 p6 p7 p8) (fun y21=>k (E_31_0.e0 y21)) (fun y22 y23 y24=>k (E_31_0.e1 y22 y23 y24)) fun y25 y26 y27=>k (E_31_0.e2 y25 y26 y27)else B_31_1 (J_31_1 p0 p1 p2 p3 p4 p5 p6 p7 p8) (fun y28=>k (E_31_0.e0 y28)) (fun y29 y30 y31=>k (E_31_0.e1 y29 y30 y31)) fun y32 y33 y34=>k (E_31_0.e2 y32 y33 y34))else B_31_1 (J_31_1 p0 p1 p2 p3 p4 p5 p6 p7 p8) (fun y35=>k (E_31_0.e0 y35)) (fun y36 y37 y38=>k (E_31_0.e1 y36 y37 y38)) fun y39 y40 y41=>k (E_31_0.e2 y39 y40 y41))
noncomputable def Sp.J_31_0(p0 p1:Int)(p2:(List Int×List Int×Int×Unit)×List Int×Unit)(p3:Int×Int×Unit)(p4:Int×Unit)(p5:List Int×Unit)(p6 p7:List Int)(p8:Int×Int×Unit):Option E_31_0:=S_31_0 some p0 p1 p2 p3 p4 p5 p6 p7 p8
noncomputable def O_31_0{R:Type}:Orc R:=orL T_31_0 (fun a=>J_31_0 a.1 a.2.1 a.2.2.1 a.2.2.2.1 a.2.2.2.2.1 a.2.2.2.2.2.1 a.2.2.2.2.2.2.1 a.2.2.2.2.2.2.2.1 a.2.2.2.2.2.2.2.2.1) Y_31_0
theorem OK_31_0{R:Type}:okF (R:=R) sm_31 0 (nf 31 0) O_31_0:=jp noO_ok (os:=[O_31_1]) ⟨OK_31_1,trivial⟩ T_31_0 (fun R k a=>S_31_0 k a.1 a.2.1 a.2.2.1 a.2.2.2.1 a.2.2.2.2.1 a.2.2.2.2.2.1 a.2.2.2.2.2.2.1 a.2.2.2.2.2.2.2.1 a.2.2.2.2.2.2.2.2.1) Y_31_0 (fun k a=>by kernel_rfl) (fun Y a=>by
 unfold S_31_0
 repeat' first|apply gdN|apply condN|(apply Bn_31_1<;>intros)|rfl) (ok0 _)
noncomputable def F_31(a0:(((List Int)×((List Int)×(Int×Unit)))×((List Int)×Unit)))(a1:Int)(a2:(Int×(Int×Unit))):Option ((((List Int)×((List Int)×(Int×Unit)))×((List Int)×Unit))×(Int×(Int×Unit))×Int×Unit) :=
 bif decide (a2.1<0)then some ((([],[],0,PUnit.unit),replicate 32 (0:Int),PUnit.unit),(0,0,PUnit.unit),1,PUnit.unit)else gd p_34 (bif decide (a2.1>v_34.1.1)then some ((([],[],0,PUnit.unit),replicate 32 (0:Int),PUnit.unit),(0,0,PUnit.unit),1,PUnit.unit)else gd (p_60 a0 a1) (bif(v_60 a0 a1).1==0 then gd (p_51 a0 a1) (bif(v_51 a0 a1).1 then B_31_0 (J_31_0 a1 6 a0 a2 (0,PUnit.unit) (replicate 32 (0:Int),PUnit.unit) [] [] (0,0,PUnit.unit)) (fun y25=>some ((([],[],0,PUnit.unit),replicate 32 (0:Int),PUnit.unit),(0,0,PUnit.unit),y25,PUnit.unit)) (fun y26 y27 y28=>some ((([],[],0,PUnit.unit),replicate 32 (0:Int),PUnit.unit),(0,0,PUnit.unit),(v_63 (y27.1) (wrap i64 (wrap i64 (Int.tdiv (wrap i64 (y26*(↑(length (y27.1.1)):Int))) 2)+0)) 0 y28).2.2.1,PUnit.unit)) fun y29 y30 y31=>some (((v_63 (y30.1) (wrap i64 (wrap i64 (Int.tdiv (wrap i64 (y29*(↑(length (y30.1.1)):Int))) 2)+0)) 0 y31).1,y30.2.1,PUnit.unit),(v_63 (y30.1) (wrap i64 (wrap i64 (Int.tdiv (wrap i64 (y29*(↑(length (y30.1.1)):Int))) 2)+0)) 0 y31).2.1,(v_63 (y30.1) (wrap i64 (wrap i64 (Int.tdiv (wrap i64 (y29*(↑(length (y30.1.1)):Int))) 2)+0)) 0 y31).2.2.1,PUnit.unit)else B_31_0 (J_31_0 a1 ((v_60 a0 a1).1) a0 a2 (0,PUnit.unit) (replicate 32 (0:Int),PUnit.unit) [] [] (0,0,PUnit.unit)) (fun y32=>some ((([],[],0,PUnit.unit),replicate 32 (0:Int),PUnit.unit),(0,0,PUnit.unit),y32,PUnit.unit)) (fun y33 y34 y35=>some ((([],[],0,PUnit.unit),replicate 32 (0:Int),PUnit.unit),(0,0,PUnit.unit),(v_63 (y34.1) (wrap i64 (wrap i64 (Int.tdiv (wrap i64 (y33*(↑(length (y34.1.1)):Int))) 2)+0)) 0 y35).2.2.1,PUnit.unit)) fun y36 y37 y38=>some (((v_63 (y37.1) (wrap i64 (wrap i64 (Int.tdiv (wrap i64 (y36*(↑(length (y37.1.1)):Int))) 2)+0)) 0 y38).1,y37.2.1,PUnit.unit),(v_63 (y37.1) (wrap i64 (wrap i64 (Int.tdiv (wrap i64 (y36*(↑(length (y37.1.1)):Int))) 2)+0)) 0 y38).2.1,(v_63 (y37.1) (wrap i64 (wrap i64 (Int.tdiv (wrap i64 (y36*(↑(length (y37.1.1)):Int))) 2)+0)) 0 y38).2.2.1,PUnit.unit))else B_31_0 (J_31_0 a1 ((v_60 a0 a1).1) a0 a2 (0,PUnit.unit) (replicate 32 (0:Int),PUnit.unit) [] [] (0,0,PUnit.unit)) (fun y39=>some ((([],[],0,PUnit.unit),replicate 32 (0:Int),PUnit.unit),(0,0,PUnit.unit),y39,PUnit.unit)) (fun y40 y41 y42=>some ((([],[],0,PUnit.unit),replicate 32 (0:Int),PUnit.unit),(0,0,PUnit.unit),(v_63 (y41.1) (wrap i64 (wrap i64 (Int.tdiv (wrap i64 (y40*(↑(length (y41.1.1)):Int))) 2)+0)) 0 y42).2.2.1,PUnit.unit)) fun y43 y44 y45=>some (((v_63 (y44.1) (wrap i64 (wrap i64 (Int.tdiv (wrap i64 (y43*(↑(length (y44.1.1)):Int))) 2)+0)) 0 y45).1,y44.2.1,PUnit.unit),(v_63 (y44.1) (wrap i64 (wrap i64 (Int.tdiv (wrap i64 (y43*(↑(length (y44.1.1)):Int))) 2)+0)) 0 y45).2.1,(v_63 (y44.1) (wrap i64 (wrap i64 (Int.tdiv (wrap i64 (y43*(↑(length (y44.1.1)):Int))) 2)+0)) 0 y45).2.2.1,PUnit.unit)))
noncomputable def Sp.p_31(a0:(((List Int)×((List Int)×(Int×Unit)))×((List Int)×Unit)))(a1:Int)(a2:(Int×(Int×Unit))):Bool:=(F_31 a0 a1 a2).isSome
noncomputable def Sp.v_31(a0:(((List Int)×((List Int)×(Int×Unit)))×((List Int)×Unit)))(a1:Int)(a2:(Int×(Int×Unit))):(((List Int)×((List Int)×(Int×Unit)))×((List Int)×Unit))×(Int×(Int×Unit))×Int×Unit:=(F_31 a0 a1 a2).getD (dfH R_31)
noncomputable def s_31:Summ:=shS A_31 R_31 (fun x=>p_31 x.1 x.2.1 x.2.2.1) (fun x=>v_31 x.1 x.2.1 x.2.2.1)
theorem pv_31(a0:(((List Int)×((List Int)×(Int×Unit)))×((List Int)×Unit)))(a1:Int)(a2:(Int×(Int×Unit))){y:(((List Int)×((List Int)×(Int×Unit)))×((List Int)×Unit))×(Int×(Int×Unit))×Int×Unit}(h:F_31 a0 a1 a2=some y):p_31 a0 a1 a2=true/\v_31 a0 a1 a2=y:=pvG h
theorem run_31(x:HDen A_31)(y:HDen R_31)(h:F_31 x.1 x.2.1 x.2.2.1=some y):rnF sm_31 1 31 A_31 R_31 x y:=runG noO_ok (os:=[O_31_0]) ⟨OK_31_0,trivial⟩ (Eq.trans (by kernel_rfl) h)
end
noncomputable section
abbrev A_71:List Ty:=[(.arr 32 (.int .u8)),(.int .i64),(.int .i64)]
abbrev R_71:List Ty:=[(.arr 32 (.int .u8))]
noncomputable def sm_71:Nat->Option Summ:=smL [(35,s_35)]
noncomputable def F_71(a0:(List Int))(a1 a2:Int):Option ((List Int)×Unit) :=
 gd (p_35 (take 32 (drop 0 a0)++[wrap u8 a1,wrap u8 a2])) (some ((v_35 (take 32 (drop 0 a0)++[wrap u8 a1,wrap u8 a2])).1,PUnit.unit))
noncomputable def Sp.p_71(a0:(List Int))(a1 a2:Int):Bool:=(F_71 a0 a1 a2).isSome
noncomputable def Sp.v_71(a0:(List Int))(a1 a2:Int):(List Int)×Unit:=(F_71 a0 a1 a2).getD (dfH R_71)
noncomputable def s_71:Summ:=shN A_71 R_71 (fun x=>p_71 x.1 x.2.1 x.2.2.1) (fun x=>v_71 x.1 x.2.1 x.2.2.1)
theorem pv_71(a0:(List Int))(a1 a2:Int){y:(List Int)×Unit}(h:F_71 a0 a1 a2=some y):p_71 a0 a1 a2=true/\v_71 a0 a1 a2=y:=pvG h
theorem run_71(x:HDen A_71)(y:HDen R_71)(h:F_71 x.1 x.2.1 x.2.2.1=some y):rnF sm_71 1 71 A_71 R_71 x y:=runG noO_ok (os:=[]) trivial (Eq.trans (by kernel_rfl) h)
end
noncomputable section
abbrev A_72:List Ty:=[(.arr 32 (.int .u8)),(.int .i64)]
abbrev R_72:List Ty:=[(.arr 32 (.int .u8))]
noncomputable def sm_72:Nat->Option Summ:=smL [(70,s_70),(71,s_71),(79,s_79)]
noncomputable def T_72_0:PS:=⟨21,[(1,.hv (.int .i64)),(2,.kc (.ptr 0 [])),(4,.kc (.ptr 1 [])),(5,.kc (.whole 2)),(7,.hv (.int .i64))],[.mem (.hv (.arr 32 (.int .u8))),.mem (.hv (.arr 32 (.int .u8))),.vec 27 (.arr 32 (.int .u8))],0⟩
inductive Sp.E_72_0 where
 |e0 (p3:List Int) (p4:List (List Int))
noncomputable def Sp.B_72_0{R:Type}(r:Option E_72_0)(k0:List Int->List (List Int)->Option R):Option R:=match r with
 |none=>none
 |some (.e0 p3 p4)=>k0 p3 p4
noncomputable def Y_72_0{R:Type}(k:Ex->St->Option R):E_72_0->Option R
 | .e0 p3 p4=>k (Ex.exit 0) (sx 21 [(4,CV.ptr 0 []),(5,CV.whole 1)] [Blk.mem (CV.pure (Ty.arr 32 (Ty.int u8)) p3),Blk.vec 27 (Ty.arr 32 (Ty.int u8)) p4])
noncomputable def Sp.S_72_0{R:Type}(K:Int->Int->List Int->List Int->List (List Int)->Option R)(k:E_72_0->Option R)(p0 p1:Int)(p2 p3:List Int)(p4:List (List Int)):Option R:=
 bif decide (p1<67)then gd (p_71 p2 p0 p1) (gd (p_70 ((v_71 p2 p0 p1).1) 0 15) (gd (room (length p4+1) 32) (K p0 (wrap i64 (p1+1)) p2 p3 (p4++[(v_70 ((v_71 p2 p0 p1).1) 0 15).1]))))else k (E_72_0.e0 p3 p4)
noncomputable def Sp.L_72_0:Nat->Int->Int->List Int->List Int->List (List Int)->Option E_72_0
 |0,_,_,_,_,_=>none
 |m+1,p0,p1,p2,p3,p4=>S_72_0 (L_72_0 m) some p0 p1 p2 p3 p4
noncomputable def l_72_0(m:Nat)(a:T_72_0.E):Option E_72_0:=L_72_0 m a.1 a.2.1 a.2.2.1 a.2.2.2.1 a.2.2.2.2.1
noncomputable def O_72_0{R:Type}:Orc R:=orL T_72_0 (l_72_0 FU) Y_72_0
theorem OK_72_0{R:Type}:okF (R:=R) sm_72 0 (nf 72 0) O_72_0:=lp0 T_72_0 l_72_0 (fun R K k a=>S_72_0 (fun p0 p1 p2 p3 p4=>K (p0,p1,p2,p3,p4,())) k a.1 a.2.1 a.2.2.1 a.2.2.2.1 a.2.2.2.2.1) Y_72_0 (fun _ _ _=>by kernel_rfl) (fun _ _ _=>by
 unfold S_72_0
 repeat' first|apply gdN|apply condN|rfl) (ok0 _)
noncomputable def F_72(a0:(List Int))(a1:Int):Option ((List Int)×Unit) :=
 B_72_0 (L_72_0 4611686018427387904 a1 0 a0 (replicate 32 (0:Int)) []) fun y2 y3=>gd (p_79 y3) (some ((v_79 y3).1,PUnit.unit))
noncomputable def Sp.p_72(a0:(List Int))(a1:Int):Bool:=(F_72 a0 a1).isSome
noncomputable def Sp.v_72(a0:(List Int))(a1:Int):(List Int)×Unit:=(F_72 a0 a1).getD (dfH R_72)
noncomputable def s_72:Summ:=shN A_72 R_72 (fun x=>p_72 x.1 x.2.1) (fun x=>v_72 x.1 x.2.1)
theorem pv_72(a0:(List Int))(a1:Int){y:(List Int)×Unit}(h:F_72 a0 a1=some y):p_72 a0 a1=true/\v_72 a0 a1=y:=pvG h
theorem run_72(x:HDen A_72)(y:HDen R_72)(h:F_72 x.1 x.2.1=some y):rnF sm_72 1 72 A_72 R_72 x y:=runG noO_ok (os:=[O_72_0]) ⟨OK_72_0,trivial⟩ (Eq.trans (by kernel_rfl) h)
end
noncomputable section
abbrev A_36:List Ty:=[(.arr 32 (.int .u8)),(.int .i64),(.arr 32 (.int .u8))]
abbrev R_36:List Ty:=[(.pair (.int .i64) (.pair (.slice (.arr 32 (.int .u8))) (.pair (.slice (.arr 32 (.int .u8))) .unit))),(.int .i64)]
noncomputable def sm_36:Nat->Option Summ:=smL [(69,s_69),(70,s_70),(71,s_71),(72,s_72),(73,s_73)]
noncomputable def T_36_0:PS:=⟨59,[(1,.hv (.int .i64)),(3,.kc (.ptr 0 [])),(6,.kc (.ptr 1 [])),(8,.kc (.ptr 4 [])),(22,.hv (.slice (.int .i64))),(23,.hv (.int .i64)),(24,.hv (.int .i64))],[.mem (.hv (.arr 32 (.int .u8))),.mem (.pr (.hv (.int .i64)) (.kc (.pair (.whole 2) (.pair (.whole 3) (.pure .unit PUnit.unit))))),.vec 27 (.arr 32 (.int .u8)),.vec 27 (.arr 32 (.int .u8)),.mem (.pr (.hv (.int .i64)) (.kc (.pair (.whole 5) (.pair (.whole 6) (.pure .unit PUnit.unit))))),.vec 27 (.arr 32 (.int .u8)),.vec 27 (.arr 32 (.int .u8))],0⟩
inductive Sp.E_36_0 where
 |e0 (p0:Int) (p4:List Int) (p5:Int) (p6 p7:List (List Int)) (p8:Int) (p9 p10:List (List Int))
noncomputable def Sp.B_36_0{R:Type}(r:Option E_36_0)(k0:Int->List Int->Int->List (List Int)->List (List Int)->Int->List (List Int)->List (List Int)->Option R):Option R:=match r with
 |none=>none
 |some (.e0 p0 p4 p5 p6 p7 p8 p9 p10)=>k0 p0 p4 p5 p6 p7 p8 p9 p10
noncomputable def Y_36_0{R:Type}(k:Ex->St->Option R):E_36_0->Option R
 | .e0 p0 p4 p5 p6 p7 p8 p9 p10=>k (Ex.exit 0) (sx 59 [(1,CV.int i64 p0),(3,CV.ptr 0 []),(6,CV.ptr 1 []),(8,CV.ptr 4 [])] [Blk.mem (CV.pure (Ty.arr 32 (Ty.int u8)) p4),Blk.mem (CV.pair (CV.int i64 p5) (CV.pair (CV.whole 2) (CV.pair (CV.whole 3) (CV.pure Ty.unit PUnit.unit)))),Blk.vec 27 (Ty.arr 32 (Ty.int u8)) p6,Blk.vec 27 (Ty.arr 32 (Ty.int u8)) p7,Blk.mem (CV.pair (CV.int i64 p8) (CV.pair (CV.whole 5) (CV.pair (CV.whole 6) (CV.pure Ty.unit PUnit.unit)))),Blk.vec 27 (Ty.arr 32 (Ty.int u8)) p9,Blk.vec 27 (Ty.arr 32 (Ty.int u8)) p10])
noncomputable def Sp.S_36_0{R:Type}(K:Int->List Int->Int->Int->List Int->Int->List (List Int)->List (List Int)->Int->List (List Int)->List (List Int)->Option R)(k:E_36_0->Option R)(p0:Int)(p1:List Int)(p2 p3:Int)(p4:List Int)(p5:Int)(p6 p7:List (List Int))(p8:Int)(p9 p10:List (List Int)):Option R:=
 bif decide (p3<p2)then gd (inB p3 (length p1)) (gd (p_71 p4 p0 p3) (gd (p_70 ((v_71 p4 p0 p3).1) 0 (getD p1 (toNat p3) 0)) (gd (room (length p9+1) 32) (K p0 p1 p2 (wrap i64 (p3+1)) p4 p5 p6 p7 p8 (p9++[(v_70 ((v_71 p4 p0 p3).1) 0 (getD p1 (toNat p3) 0)).1]) p10))))else k (E_36_0.e0 p0 p4 p5 p6 p7 p8 p9 p10)
noncomputable def Sp.L_36_0:Nat->Int->List Int->Int->Int->List Int->Int->List (List Int)->List (List Int)->Int->List (List Int)->List (List Int)->Option E_36_0
 |0,_,_,_,_,_,_,_,_,_,_,_=>none
 |m+1,p0,p1,p2,p3,p4,p5,p6,p7,p8,p9,p10=>S_36_0 (L_36_0 m) some p0 p1 p2 p3 p4 p5 p6 p7 p8 p9 p10
noncomputable def l_36_0(m:Nat)(a:T_36_0.E):Option E_36_0:=L_36_0 m a.1 a.2.1 a.2.2.1 a.2.2.2.1 a.2.2.2.2.1 a.2.2.2.2.2.1 a.2.2.2.2.2.2.1 a.2.2.2.2.2.2.2.1 a.2.2.2.2.2.2.2.2.1 a.2.2.2.2.2.2.2.2.2.1 a.2.2.2.2.2.2.2.2.2.2.1
noncomputable def O_36_0{R:Type}:Orc R:=orL T_36_0 (l_36_0 FU) Y_36_0
theorem OK_36_0{R:Type}:okF (R:=R) sm_36 0 (nf 36 0) O_36_0:=lp0 T_36_0 l_36_0 (fun R K k a=>S_36_0 (fun p0 p1 p2 p3 p4 p5 p6 p7 p8 p9 p10=>K (p0,p1,p2,p3,p4,p5,p6,p7,p8,p9,p10,())) k a.1 a.2.1 a.2.2.1 a.2.2.2.1 a.2.2.2.2.1 a.2.2.2.2.2.1 a.2.2.2.2.2.2.1 a.2.2.2.2.2.2.2.1 a.2.2.2.2.2.2.2.2.1 a.2.2.2.2.2.2.2.2.2.1 a.2.2.2.2.2.2.2.2.2.2.1) Y_36_0 (fun _ _ _=>by kernel_rfl) (fun _ _ _=>by
 unfold S_36_0
 repeat' first|apply gdN|apply condN|rfl) (ok0 _)
noncomputable def F_36(a0:(List Int))(a1:Int)(a2:(List Int)):Option ((Int×((List (List Int))×((List (List Int))×Unit)))×Int×Unit) :=
 bif decide (a1<0)then some ((0,[],[],PUnit.unit),2,PUnit.unit)else bif decide (a1>=4)then some ((0,[],[],PUnit.unit),2,PUnit.unit)else gd (p_69 a2) (B_36_0 (L_36_0 4611686018427387904 a1 ((v_69 a2).1) (↑(length ((v_69 a2).1)):Int) 0 a0 0 [] [] a1 [] []) fun y8 y9 y10 y11 y12 y13 y14 y15=>gd (p_72 y9 (Sp.xorI i64 y8 1)) (gd (p_72 y9 (Sp.andnI i64 (Sp.xorI i64 y8 2) 1)) (gd (p_72 y9 (wrap i64 (Sp.andnI i64 (Sp.xorI i64 y8 2) (1:Int)+(1:Int)))) (gd (p_73 ((v_72 y9 (Sp.andnI i64 (Sp.xorI i64 y8 2) 1)).1) ((v_72 y9 (wrap i64 (Sp.andnI i64 (Sp.xorI i64 y8 2) (1:Int)+(1:Int)))).1)) (some ((y13,y14,[(v_72 y9 (Sp.xorI i64 y8 1)).1,(v_73 ((v_72 y9 (Sp.andnI i64 (Sp.xorI i64 y8 2) 1)).1) ((v_72 y9 (wrap i64 (Sp.andnI i64 (Sp.xorI i64 y8 2) (1:Int)+(1:Int)))).1)).1],PUnit.unit),0,PUnit.unit))))))
noncomputable def Sp.p_36(a0:(List Int))(a1:Int)(a2:(List Int)):Bool:=(F_36 a0 a1 a2).isSome
noncomputable def Sp.v_36(a0:(List Int))(a1:Int)(a2:(List Int)):(Int×((List (List Int))×((List (List Int))×Unit)))×Int×Unit:=(F_36 a0 a1 a2).getD (dfH R_36)
noncomputable def s_36:Summ:=shS A_36 R_36 (fun x=>p_36 x.1 x.2.1 x.2.2.1) (fun x=>v_36 x.1 x.2.1 x.2.2.1)
theorem pv_36(a0:(List Int))(a1:Int)(a2:(List Int)){y:(Int×((List (List Int))×((List (List Int))×Unit)))×Int×Unit}(h:F_36 a0 a1 a2=some y):p_36 a0 a1 a2=true/\v_36 a0 a1 a2=y:=pvG h
theorem run_36(x:HDen A_36)(y:HDen R_36)(h:F_36 x.1 x.2.1 x.2.2.1=some y):rnF sm_36 1 36 A_36 R_36 x y:=runG noO_ok (os:=[O_36_0]) ⟨OK_36_0,trivial⟩ (Eq.trans (by kernel_rfl) h)
end
noncomputable section
abbrev A_37:List Ty:=[(.arr 32 (.int .u8))]
abbrev R_37:List Ty:=[(.arr 32 (.int .u8))]
noncomputable def sm_37:Nat->Option Summ:=smL [(72,s_72),(73,s_73)]
noncomputable def F_37(a0:(List Int)):Option ((List Int)×Unit) :=
 gd (p_72 a0 0) (gd (p_72 a0 1) (gd (p_73 ((v_72 a0 0).1) ((v_72 a0 1).1)) (gd (p_72 a0 2) (gd (p_72 a0 3) (gd (p_73 ((v_72 a0 2).1) ((v_72 a0 3).1)) (gd (p_73 ((v_73 ((v_72 a0 0).1) ((v_72 a0 1).1)).1) ((v_73 ((v_72 a0 2).1) ((v_72 a0 3).1)).1)) (some ((v_73 ((v_73 ((v_72 a0 0).1) ((v_72 a0 1).1)).1) ((v_73 ((v_72 a0 2).1) ((v_72 a0 3).1)).1)).1,PUnit.unit))))))))
noncomputable def Sp.p_37(a0:(List Int)):Bool:=(F_37 a0).isSome
noncomputable def Sp.v_37(a0:(List Int)):(List Int)×Unit:=(F_37 a0).getD (dfH R_37)
noncomputable def s_37:Summ:=shN A_37 R_37 (fun x=>p_37 x.1) (fun x=>v_37 x.1)
theorem pv_37(a0:(List Int)){y:(List Int)×Unit}(h:F_37 a0=some y):p_37 a0=true/\v_37 a0=y:=pvG h
theorem run_37(x:HDen A_37)(y:HDen R_37)(h:F_37 x.1=some y):rnF sm_37 1 37 A_37 R_37 x y:=runG noO_ok (os:=[]) trivial (Eq.trans (by kernel_rfl) h)
end
noncomputable section
abbrev Zy15_0:Ty:=(.pair (.slice (.int .u32)) (.pair (.slice (.int .i64)) (.pair (.int .i64) .unit)))
abbrev Zt15_1:Type:=List Int×List Int×Int×Unit
abbrev A_15:List Ty:=[(.pair (.slice (.int .u32)) (.pair (.slice (.int .i64)) (.pair (.int .i64) .unit)))]
abbrev R_15:List Ty:=[(.pair (.slice (.int .u32)) (.pair (.slice (.int .i64)) (.pair (.int .i64) .unit)))]
noncomputable def sm_15:Nat->Option Summ:=smL []
noncomputable def T_15_0:PS:=⟨44,[(1,.kc (.ptr 0 [])),(2,.kc (.ptr 1 [])),(3,.kc (.ptr 4 [])),(4,.hv (.int .i64))],[.mem (.hv Zy15_0),.mem (.pr (.kc (.whole 2)) (.pr (.kc (.whole 3)) (.hv (.pair (.int .i64) .unit)))),.vec 42 (.int .u32),.vec 3 (.int .i64),.mem (.pr (.kc (.whole 5)) (.pr (.kc (.whole 6)) (.hv (.pair (.int .i64) .unit)))),.vec 42 (.int .u32),.vec 3 (.int .i64)],0⟩
inductive Sp.E_15_0 where
 |e0 (p1:Zt15_1) (p2:Int×Unit) (p3 p4:List Int) (p5:Int×Unit) (p6 p7:List Int)
noncomputable def Sp.B_15_0{R:Type}(r:Option E_15_0)(k0:Zt15_1->(Int×Unit)->List Int->List Int->(Int×Unit)->List Int->List Int->Option R):Option R:=match r with
 |none=>none
 |some (.e0 p1 p2 p3 p4 p5 p6 p7)=>k0 p1 p2 p3 p4 p5 p6 p7
noncomputable def Y_15_0{R:Type}(k:Ex->St->Option R):E_15_0->Option R
 | .e0 p1 p2 p3 p4 p5 p6 p7=>k (Ex.exit 0) (sx 44 [(1,CV.ptr 0 []),(2,CV.ptr 1 []),(3,CV.ptr 4 [])] [Blk.mem (CV.pure (Ty.pair (Ty.slice (Ty.int u32)) (Ty.pair (Ty.slice (Ty.int i64)) (Ty.pair (Ty.int i64) Ty.unit))) p1),Blk.mem (CV.pair (CV.whole 2) (CV.pair (CV.whole 3) (CV.pure (Ty.pair (Ty.int i64) Ty.unit) p2))),Blk.vec 42 (Ty.int u32) p3,Blk.vec 3 (Ty.int i64) p4,Blk.mem (CV.pair (CV.whole 5) (CV.pair (CV.whole 6) (CV.pure (Ty.pair (Ty.int i64) Ty.unit) p5))),Blk.vec 42 (Ty.int u32) p6,Blk.vec 3 (Ty.int i64) p7])
noncomputable def Sp.S_15_0{R:Type}(K:Int->(List Int×List Int×Int×Unit)->(Int×Unit)->List Int->List Int->(Int×Unit)->List Int->List Int->Option R)(k:E_15_0->Option R)(p0:Int)(p1:List Int×List Int×Int×Unit)(p2:Int×Unit)(p3 p4:List Int)(p5:Int×Unit)(p6 p7:List Int):Option R:=
 bif decide (p0<(↑(length (p1.1)):Int))then gd (inB p0 (length (p1.1))) (gd (room (length p6+1) 4) (K (wrap i64 (p0+1)) p1 p2 p3 p4 p5 (p6++[getD (p1.1) (toNat p0) 0]) p7))else k (E_15_0.e0 p1 p2 p3 p4 p5 p6 p7)
noncomputable def Sp.L_15_0:Nat->Int->(List Int×List Int×Int×Unit)->(Int×Unit)->List Int->List Int->(Int×Unit)->List Int->List Int->Option E_15_0
 |0,_,_,_,_,_,_,_,_=>none
 |m+1,p0,p1,p2,p3,p4,p5,p6,p7=>S_15_0 (L_15_0 m) some p0 p1 p2 p3 p4 p5 p6 p7
noncomputable def l_15_0(m:Nat)(a:T_15_0.E):Option E_15_0:=L_15_0 m a.1 a.2.1 a.2.2.1 a.2.2.2.1 a.2.2.2.2.1 a.2.2.2.2.2.1 a.2.2.2.2.2.2.1 a.2.2.2.2.2.2.2.1
noncomputable def O_15_0{R:Type}:Orc R:=orL T_15_0 (l_15_0 FU) Y_15_0
theorem OK_15_0{R:Type}:okF (R:=R) sm_15 0 (nf 15 0) O_15_0:=lp0 T_15_0 l_15_0 (fun R K k a=>S_15_0 (fun p0 p1 p2 p3 p4 p5 p6 p7=>K (p0,p1,p2,p3,p4,p5,p6,p7,())) k a.1 a.2.1 a.2.2.1 a.2.2.2.1 a.2.2.2.2.1 a.2.2.2.2.2.1 a.2.2.2.2.2.2.1 a.2.2.2.2.2.2.2.1) Y_15_0 (fun _ _ _=>by kernel_rfl) (fun _ _ _=>by
 unfold S_15_0
 repeat' first|apply gdN|apply condN|rfl) (ok0 _)
noncomputable def T_15_1:PS:=⟨44,[(1,.kc (.ptr 0 [])),(2,.kc (.ptr 1 [])),(3,.kc (.ptr 4 [])),(5,.hv (.int .i64))],[.mem (.hv Zy15_0),.mem (.pr (.kc (.whole 2)) (.pr (.kc (.whole 3)) (.hv (.pair (.int .i64) .unit)))),.vec 42 (.int .u32),.vec 3 (.int .i64),.mem (.pr (.kc (.whole 5)) (.pr (.kc (.whole 6)) (.hv (.pair (.int .i64) .unit)))),.vec 42 (.int .u32),.vec 3 (.int .i64)],0⟩
inductive Sp.E_15_1 where
 |e0 (p2:Int×Unit) (p3 p4:List Int) (p5:Int×Unit) (p6 p7:List Int)
noncomputable def Sp.B_15_1{R:Type}(r:Option E_15_1)(k0:(Int×Unit)->List Int->List Int->(Int×Unit)->List Int->List Int->Option R):Option R:=match r with
 |none=>none
 |some (.e0 p2 p3 p4 p5 p6 p7)=>k0 p2 p3 p4 p5 p6 p7
noncomputable def Y_15_1{R:Type}(k:Ex->St->Option R):E_15_1->Option R
 | .e0 p2 p3 p4 p5 p6 p7=>k (Ex.exit 2) (sx 44 [(2,CV.ptr 0 []),(3,CV.ptr 3 [])] [Blk.mem (CV.pair (CV.whole 1) (CV.pair (CV.whole 2) (CV.pure (Ty.pair (Ty.int i64) Ty.unit) p2))),Blk.vec 42 (Ty.int u32) p3,Blk.vec 3 (Ty.int i64) p4,Blk.mem (CV.pair (CV.whole 4) (CV.pair (CV.whole 5) (CV.pure (Ty.pair (Ty.int i64) Ty.unit) p5))),Blk.vec 42 (Ty.int u32) p6,Blk.vec 3 (Ty.int i64) p7])
noncomputable def Sp.S_15_1{R:Type}(K:Int->(List Int×List Int×Int×Unit)->(Int×Unit)->List Int->List Int->(Int×Unit)->List Int->List Int->Option R)(k:E_15_1->Option R)(p0:Int)(p1:List Int×List Int×Int×Unit)(p2:Int×Unit)(p3 p4:List Int)(p5:Int×Unit)(p6 p7:List Int):Option R:=
 bif decide (p0<(↑(length (p1.2.1)):Int))then gd (inB p0 (length (p1.2.1))) (gd (room (length p7+1) 8) (K (wrap i64 (p0+1)) p1 p2 p3 p4 p5 p6 (p7++[getD (p1.2.1) (toNat p0) 0])))else k (E_15_1.e0 p2 p3 p4 p5 p6 p7)
noncomputable def Sp.L_15_1:Nat->Int->(List Int×List Int×Int×Unit)->(Int×Unit)->List Int->List Int->(Int×Unit)->List Int->List Int->Option E_15_1
 |0,_,_,_,_,_,_,_,_=>none
 |m+1,p0,p1,p2,p3,p4,p5,p6,p7=>S_15_1 (L_15_1 m) some p0 p1 p2 p3 p4 p5 p6 p7
noncomputable def l_15_1(m:Nat)(a:T_15_1.E):Option E_15_1:=L_15_1 m a.1 a.2.1 a.2.2.1 a.2.2.2.1 a.2.2.2.2.1 a.2.2.2.2.2.1 a.2.2.2.2.2.2.1 a.2.2.2.2.2.2.2.1
noncomputable def O_15_1{R:Type}:Orc R:=orL T_15_1 (l_15_1 FU) Y_15_1
theorem OK_15_1{R:Type}:okF (R:=R) sm_15 0 (nf 15 1) O_15_1:=lp0 T_15_1 l_15_1 (fun R K k a=>S_15_1 (fun p0 p1 p2 p3 p4 p5 p6 p7=>K (p0,p1,p2,p3,p4,p5,p6,p7,())) k a.1 a.2.1 a.2.2.1 a.2.2.2.1 a.2.2.2.2.1 a.2.2.2.2.2.1 a.2.2.2.2.2.2.1 a.2.2.2.2.2.2.2.1) Y_15_1 (fun _ _ _=>by kernel_rfl) (fun _ _ _=>by
 unfold S_15_1
 repeat' first|apply gdN|apply condN|rfl) (ok0 _)
noncomputable def F_15(a0:((List Int)×((List Int)×(Int×Unit)))):Option (((List Int)×((List Int)×(Int×Unit)))×Unit) :=
 B_15_0 (L_15_0 4611686018427387904 0 a0 (0,PUnit.unit) [] [] (a0.2.2.1,PUnit.unit) [] []) fun y13 y14 y15 y16 y17 y18 y19=>B_15_1 (L_15_1 4611686018427387904 0 y13 y14 y15 y16 y17 y18 y19) fun y20 y21 y22 y23 y24 y25=>some ((y24,y25,y23),PUnit.unit)
noncomputable def Sp.p_15(a0:((List Int)×((List Int)×(Int×Unit)))):Bool:=(F_15 a0).isSome
noncomputable def Sp.v_15(a0:((List Int)×((List Int)×(Int×Unit)))):((List Int)×((List Int)×(Int×Unit)))×Unit:=(F_15 a0).getD (dfH R_15)
noncomputable def s_15:Summ:=ownS A_15 42 [] Zy15_0 [] (fun x=>p_15 x.1) (fun x=>v_15 x.1)
theorem pv_15(a0:((List Int)×((List Int)×(Int×Unit)))){y:((List Int)×((List Int)×(Int×Unit)))×Unit}(h:F_15 a0=some y):p_15 a0=true/\v_15 a0=y:=pvG h
theorem run_15(x:HDen A_15)(y:HDen R_15)(h:F_15 x.1=some y):evFn sm_15 fns FU 1 15 (ofH A_15 x) [] (ownK 42 [] Zy15_0 [])=some y:=runG noO_ok (os:=[O_15_0,O_15_1]) ⟨OK_15_0,OK_15_1,trivial⟩ (Eq.trans (by kernel_rfl) h)
end
noncomputable section
abbrev Zt38_0:Type:=(List Int×List Int×Int×Unit)×List Int×Unit
abbrev Zt38_1:Type:=List Int×Int×Unit
abbrev Zy38_2:Ty:=(.pair (.pair (.slice (.int .u32)) (.pair (.slice (.int .i64)) (.pair (.int .i64) .unit))) (.pair (.arr 32 (.int .u8)) .unit))
abbrev Zt38_3:Type:=List Int×Unit
abbrev A_38:List Ty:=[(.pair (.pair (.slice (.int .u32)) (.pair (.slice (.int .i64)) (.pair (.int .i64) .unit))) (.pair (.arr 32 (.int .u8)) .unit)),(.int .i64),(.slice (.int .u32)),.bool]
abbrev R_38:List Ty:=[(.pair (.pair (.slice (.int .u32)) (.pair (.slice (.int .i64)) (.pair (.int .i64) .unit))) (.pair (.arr 32 (.int .u8)) .unit))]
noncomputable def sm_38:Nat->Option Summ:=smL [(15,s_15)]
noncomputable def T_38_1:PS:=⟨56,[(1,.hv (.int .i64)),(2,.hv (.slice (.int .u32))),(3,.hv .bool),(4,.kc (.ptr 0 [])),(8,.kc (.ptr 1 [])),(9,.kc (.ptr 4 [])),(10,.hv (.int .i64)),(11,.hv (.int .i64)),(12,.hv (.int .u32))],[.mem (.hv Zy38_2),.mem (.pr (.pr (.kc (.whole 2)) (.pr (.kc (.whole 3)) (.hv (.pair (.int .i64) .unit)))) (.hv (.pair (.arr 32 (.int .u8)) .unit))),.vec 42 (.int .u32),.vec 3 (.int .i64),.mem (.pr (.kc (.whole 5)) (.hv (.pair (.slice (.int .i64)) (.pair (.int .i64) .unit)))),.vec 42 (.int .u32)],0⟩
inductive Sp.E_38_1 where
 |e0 (p0:Int) (p1:List Int) (p2:Bool) (p3 p4:Int) (p6:Zt38_0) (p7:Int×Unit) (p8:Zt38_3) (p9 p10:List Int) (p11:Zt38_1) (p12:List Int)
 |e1 (p0:Int) (p1:List Int) (p2:Bool) (p3 p4 p5:Int) (p6:Zt38_0) (p7:Int×Unit) (p8:Zt38_3) (p9 p10:List Int) (p11:Zt38_1) (p12:List Int)
 |e2 (p0:Int) (p1:List Int) (p2:Bool) (p3 p4 p5:Int) (p6:Zt38_0) (p7:Int×Unit) (p8:Zt38_3) (p9 p10:List Int) (p11:Zt38_1) (p12:List Int)
noncomputable def Sp.B_38_1{R:Type}(r:Option E_38_1)(k0:Int->List Int->Bool->Int->Int->Zt38_0->(Int×Unit)->Zt38_3->List Int->List Int->Zt38_1->List Int->Option R)(k1 k2:Int->List Int->Bool->Int->Int->Int->Zt38_0->(Int×Unit)->Zt38_3->List Int->List Int->Zt38_1->List Int->Option R):Option R:=match r with
 |none=>none
 |some (.e0 p0 p1 p2 p3 p4 p6 p7 p8 p9 p10 p11 p12)=>k0 p0 p1 p2 p3 p4 p6 p7 p8 p9 p10 p11 p12
 |some (.e1 p0 p1 p2 p3 p4 p5 p6 p7 p8 p9 p10 p11 p12)=>k1 p0 p1 p2 p3 p4 p5 p6 p7 p8 p9 p10 p11 p12
 |some (.e2 p0 p1 p2 p3 p4 p5 p6 p7 p8 p9 p10 p11 p12)=>k2 p0 p1 p2 p3 p4 p5 p6 p7 p8 p9 p10 p11 p12
theorem Bn_38_1{A R:Type}{r:Option E_38_1}{f:A->Option R}{k0:Int->List Int->Bool->Int->Int->Zt38_0->(Int×Unit)->Zt38_3->List Int->List Int->Zt38_1->List Int->Option A}{k1:Int->List Int->Bool->Int->Int->Int->Zt38_0->(Int×Unit)->Zt38_3->List Int->List Int->Zt38_1->List Int->Option A}{k2:Int->List Int->Bool->Int->Int->Int->Zt38_0->(Int×Unit)->Zt38_3->List Int->List Int->Zt38_1->List Int->Option A}{l0:Int->List Int->Bool->Int->Int->Zt38_0->(Int×Unit)->Zt38_3->List Int->List Int->Zt38_1->List Int->Option R}{l1:Int->List Int->Bool->Int->Int->Int->Zt38_0->(Int×Unit)->Zt38_3->List Int->List Int->Zt38_1->List Int->Option R}{l2:Int->List Int->Bool->Int->Int->Int->Zt38_0->(Int×Unit)->Zt38_3->List Int->List Int->Zt38_1->List Int->Option R}(h0:∀p0 p1 p2 p3 p4 p6 p7 p8 p9 p10 p11 p12,(k0 p0 p1 p2 p3 p4 p6 p7 p8 p9 p10 p11 p12).bind f=l0 p0 p1 p2 p3 p4 p6 p7 p8 p9 p10 p11 p12)(h1:∀p0 p1 p2 p3 p4 p5 p6 p7 p8 p9 p10 p11 p12,(k1 p0 p1 p2 p3 p4 p5 p6 p7 p8 p9 p10 p11 p12).bind f=l1 p0 p1 p2 p3 p4 p5 p6 p7 p8 p9 p10 p11 p12)(h2:∀p0 p1 p2 p3 p4 p5 p6 p7 p8 p9 p10 p11 p12,(k2 p0 p1 p2 p3 p4 p5 p6 p7 p8 p9 p10 p11 p12).bind f=l2 p0 p1 p2 p3 p4 p5 p6 p7 p8 p9 p10 p11 p12):(B_38_1 r k0 k1 k2).bind f=B_38_1 r l0 l1 l2:=by
 cases r with
 |none=>rfl
 |some e=>cases e<;>first|apply h0|apply h1|apply h2
noncomputable def Y_38_1{R:Type}(k:Ex->St->Option R):E_38_1->Option R
 | .e0 p0 p1 p2 p3 p4 p6 p7 p8 p9 p10 p11 p12=>k Ex.normal (sx 56 [(1,CV.int i64 p0),(2,CV.pure (Ty.slice (Ty.int u32)) p1),(3,CV.bool p2),(4,CV.ptr 0 []),(8,CV.ptr 1 []),(9,CV.ptr 4 []),(10,CV.int i64 p3),(11,CV.int i64 p4),(12,CV.int u32 0),(38,CV.int i64 p4),(39,CV.bool (p4==0)),(40,CV.bool true),(41,CV.bool p2),(42,CV.bool true),(43,CV.ptr 4 [Step.f 0 0]),(44,CV.whole 5),(45,CV.int i64 p0),(46,CV.int i64 p3),(47,CV.int i64 (wrap i64 (p0*p3))),(48,CV.int i64 p4),(49,CV.int i64 (wrap i64 (wrap i64 (p0*p3)+p4))),(50,CV.int u32 0),(51,CV.ptr 5 [Step.ix (toNat (wrap i64 (wrap i64 (p0*p3)+p4))) 1])] [Blk.mem (CV.pure (Ty.pair (Ty.pair (Ty.slice (Ty.int u32)) (Ty.pair (Ty.slice (Ty.int i64)) (Ty.pair (Ty.int i64) Ty.unit))) (Ty.pair (Ty.arr 32 (Ty.int u8)) Ty.unit)) p6),Blk.mem (CV.pair (CV.pair (CV.whole 2) (CV.pair (CV.whole 3) (CV.pure (Ty.pair (Ty.int i64) Ty.unit) p7))) (CV.pure (Ty.pair (Ty.arr 32 (Ty.int u8)) Ty.unit) p8)),Blk.vec 42 (Ty.int u32) p9,Blk.vec 3 (Ty.int i64) p10,Blk.mem (CV.pair (CV.whole 5) (CV.pure (Ty.pair (Ty.slice (Ty.int i64)) (Ty.pair (Ty.int i64) Ty.unit)) p11)),Blk.vec 42 (Ty.int u32) ((List.set p12 (toNat (wrap i64 (wrap i64 (p0*p3)+p4))) 0):(List Int))])
 | .e1 p0 p1 p2 p3 p4 p5 p6 p7 p8 p9 p10 p11 p12=>k Ex.normal (sx 56 [(1,CV.int i64 p0),(2,CV.pure (Ty.slice (Ty.int u32)) p1),(3,CV.bool p2),(4,CV.ptr 0 []),(8,CV.ptr 1 []),(9,CV.ptr 4 []),(10,CV.int i64 p3),(11,CV.int i64 p4),(12,CV.int u32 p5),(38,CV.int i64 p4),(39,CV.bool (p4==0)),(40,CV.bool true),(41,CV.bool p2),(42,CV.bool false),(43,CV.ptr 4 [Step.f 0 0]),(44,CV.whole 5),(45,CV.int i64 p0),(46,CV.int i64 p3),(47,CV.int i64 (wrap i64 (p0*p3))),(48,CV.int i64 p4),(49,CV.int i64 (wrap i64 (wrap i64 (p0*p3)+p4))),(50,CV.int u32 p5),(51,CV.ptr 5 [Step.ix (toNat (wrap i64 (wrap i64 (p0*p3)+p4))) 1])] [Blk.mem (CV.pure (Ty.pair (Ty.pair (Ty.slice (Ty.int u32)) (Ty.pair (Ty.slice (Ty.int i64)) (Ty.pair (Ty.int i64) Ty.unit))) (Ty.pair (Ty.arr 32 (Ty.int u8)) Ty.unit)) p6),Blk.mem (CV.pair (CV.pair (CV.whole 2) (CV.pair (CV.whole 3) (CV.pure (Ty.pair (Ty.int i64) Ty.unit) p7))) (CV.pure (Ty.pair (Ty.arr 32 (Ty.int u8)) Ty.unit) p8)),Blk.vec 42 (Ty.int u32) p9,Blk.vec 3 (Ty.int i64) p10,Blk.mem (CV.pair (CV.whole 5) (CV.pure (Ty.pair (Ty.slice (Ty.int i64)) (Ty.pair (Ty.int i64) Ty.unit)) p11)),Blk.vec 42 (Ty.int u32) ((List.set p12 (toNat (wrap i64 (wrap i64 (p0*p3)+p4))) p5):(List Int))])
 | .e2 p0 p1 p2 p3 p4 p5 p6 p7 p8 p9 p10 p11 p12=>k Ex.normal (sx 56 [(1,CV.int i64 p0),(2,CV.pure (Ty.slice (Ty.int u32)) p1),(3,CV.bool p2),(4,CV.ptr 0 []),(8,CV.ptr 1 []),(9,CV.ptr 4 []),(10,CV.int i64 p3),(11,CV.int i64 p4),(12,CV.int u32 p5),(38,CV.int i64 p4),(39,CV.bool (p4==0)),(40,CV.bool false),(41,CV.undef),(42,CV.bool false),(43,CV.ptr 4 [Step.f 0 0]),(44,CV.whole 5),(45,CV.int i64 p0),(46,CV.int i64 p3),(47,CV.int i64 (wrap i64 (p0*p3))),(48,CV.int i64 p4),(49,CV.int i64 (wrap i64 (wrap i64 (p0*p3)+p4))),(50,CV.int u32 p5),(51,CV.ptr 5 [Step.ix (toNat (wrap i64 (wrap i64 (p0*p3)+p4))) 1])] [Blk.mem (CV.pure (Ty.pair (Ty.pair (Ty.slice (Ty.int u32)) (Ty.pair (Ty.slice (Ty.int i64)) (Ty.pair (Ty.int i64) Ty.unit))) (Ty.pair (Ty.arr 32 (Ty.int u8)) Ty.unit)) p6),Blk.mem (CV.pair (CV.pair (CV.whole 2) (CV.pair (CV.whole 3) (CV.pure (Ty.pair (Ty.int i64) Ty.unit) p7))) (CV.pure (Ty.pair (Ty.arr 32 (Ty.int u8)) Ty.unit) p8)),Blk.vec 42 (Ty.int u32) p9,Blk.vec 3 (Ty.int i64) p10,Blk.mem (CV.pair (CV.whole 5) (CV.pure (Ty.pair (Ty.slice (Ty.int i64)) (Ty.pair (Ty.int i64) Ty.unit)) p11)),Blk.vec 42 (Ty.int u32) ((List.set p12 (toNat (wrap i64 (wrap i64 (p0*p3)+p4))) p5):(List Int))])
noncomputable def Sp.S_38_1{R:Type}(k:E_38_1->Option R)(p0:Int)(p1:List Int)(p2:Bool)(p3 p4 p5:Int)(p6:(List Int×List Int×Int×Unit)×List Int×Unit)(p7:Int×Unit)(p8:List Int×Unit)(p9 p10:List Int)(p11:List Int×Int×Unit)(p12:List Int):Option R:=
 bif p4==0 then bif p2 then gd (inB (wrap i64 (wrap i64 (p0*p3)+p4)) (length p12)) (gd (decide (toNat (wrap i64 (wrap i64 (p0*p3)+p4))<length p12)&&true&&true) (k (E_38_1.e0 p0 p1 p2 p3 p4 p6 p7 p8 p9 p10 p11 p12)))else gd (inB (wrap i64 (wrap i64 (p0*p3)+p4)) (length p12)) (gd (decide (toNat (wrap i64 (wrap i64 (p0*p3)+p4))<length p12)&&true&&true) (k (E_38_1.e1 p0 p1 p2 p3 p4 p5 p6 p7 p8 p9 p10 p11 p12)))else gd (inB (wrap i64 (wrap i64 (p0*p3)+p4)) (length p12)) (gd (decide (toNat (wrap i64 (wrap i64 (p0*p3)+p4))<length p12)&&true&&true) (k (E_38_1.e2 p0 p1 p2 p3 p4 p5 p6 p7 p8 p9 p10 p11 p12)))
noncomputable def Sp.J_38_1(p0:Int)(p1:List Int)(p2:Bool)(p3 p4 p5:Int)(p6:(List Int×List Int×Int×Unit)×List Int×Unit)(p7:Int×Unit)(p8:List Int×Unit)(p9 p10:List Int)(p11:List Int×Int×Unit)(p12:List Int):Option E_38_1:=S_38_1 some p0 p1 p2 p3 p4 p5 p6 p7 p8 p9 p10 p11 p12
noncomputable def O_38_1{R:Type}:Orc R:=orL T_38_1 (fun a=>J_38_1 a.1 a.2.1 a.2.2.1 a.2.2.2.1 a.2.2.2.2.1 a.2.2.2.2.2.1 a.2.2.2.2.2.2.1 a.2.2.2.2.2.2.2.1 a.2.2.2.2.2.2.2.2.1 a.2.2.2.2.2.2.2.2.2.1 a.2.2.2.2.2.2.2.2.2.2.1 a.2.2.2.2.2.2.2.2.2.2.2.1 a.2.2.2.2.2.2.2.2.2.2.2.2.1) Y_38_1
theorem OK_38_1{R:Type}:okF (R:=R) sm_38 0 (ni (nf 38 0) 0) O_38_1:=jp noO_ok (os:=[]) trivial T_38_1 (fun R k a=>S_38_1 k a.1 a.2.1 a.2.2.1 a.2.2.2.1 a.2.2.2.2.1 a.2.2.2.2.2.1 a.2.2.2.2.2.2.1 a.2.2.2.2.2.2.2.1 a.2.2.2.2.2.2.2.2.1 a.2.2.2.2.2.2.2.2.2.1 a.2.2.2.2.2.2.2.2.2.2.1 a.2.2.2.2.2.2.2.2.2.2.2.1 a.2.2.2.2.2.2.2.2.2.2.2.2.1) Y_38_1 (fun k a=>by kernel_rfl) (fun Y a=>by
 unfold S_38_1
 repeat' first|apply gdN|apply condN|rfl) (ok0 _)
noncomputable def T_38_0:PS:=⟨56,[(1,.hv (.int .i64)),(2,.hv (.slice (.int .u32))),(3,.hv .bool),(4,.kc (.ptr 0 [])),(8,.kc (.ptr 1 [])),(9,.kc (.ptr 4 [])),(10,.hv (.int .i64)),(11,.hv (.int .i64))],[.mem (.hv Zy38_2),.mem (.pr (.pr (.kc (.whole 2)) (.pr (.kc (.whole 3)) (.hv (.pair (.int .i64) .unit)))) (.hv (.pair (.arr 32 (.int .u8)) .unit))),.vec 42 (.int .u32),.vec 3 (.int .i64),.mem (.pr (.kc (.whole 5)) (.hv (.pair (.slice (.int .i64)) (.pair (.int .i64) .unit)))),.vec 42 (.int .u32)],0⟩
inductive Sp.E_38_0 where
 |e0 (p5:Zt38_0) (p6:Int×Unit) (p7:Zt38_3) (p8 p9:List Int) (p10:Zt38_1) (p11:List Int)
noncomputable def Sp.B_38_0{R:Type}(r:Option E_38_0)(k0:Zt38_0->(Int×Unit)->Zt38_3->List Int->List Int->Zt38_1->List Int->Option R):Option R:=match r with
 |none=>none
 |some (.e0 p5 p6 p7 p8 p9 p10 p11)=>k0 p5 p6 p7 p8 p9 p10 p11
noncomputable def Y_38_0{R:Type}(k:Ex->St->Option R):E_38_0->Option R
 | .e0 p5 p6 p7 p8 p9 p10 p11=>k (Ex.exit 0) (sx 56 [(4,CV.ptr 0 []),(8,CV.ptr 1 []),(9,CV.ptr 4 [])] [Blk.mem (CV.pure (Ty.pair (Ty.pair (Ty.slice (Ty.int u32)) (Ty.pair (Ty.slice (Ty.int i64)) (Ty.pair (Ty.int i64) Ty.unit))) (Ty.pair (Ty.arr 32 (Ty.int u8)) Ty.unit)) p5),Blk.mem (CV.pair (CV.pair (CV.whole 2) (CV.pair (CV.whole 3) (CV.pure (Ty.pair (Ty.int i64) Ty.unit) p6))) (CV.pure (Ty.pair (Ty.arr 32 (Ty.int u8)) Ty.unit) p7)),Blk.vec 42 (Ty.int u32) p8,Blk.vec 3 (Ty.int i64) p9,Blk.mem (CV.pair (CV.whole 5) (CV.pure (Ty.pair (Ty.slice (Ty.int i64)) (Ty.pair (Ty.int i64) Ty.unit)) p10)),Blk.vec 42 (Ty.int u32) p11])
noncomputable def Sp.S_38_0{R:Type}(K:Int->List Int->Bool->Int->Int->((List Int×List Int×Int×Unit)×List Int×Unit)->(Int×Unit)->(List Int×Unit)->List Int->List Int->(List Int×Int×Unit)->List Int->Option R)(k:E_38_0->Option R)(p0:Int)(p1:List Int)(p2:Bool)(p3 p4:Int)(p5:(List Int×List Int×Int×Unit)×List Int×Unit)(p6:Int×Unit)(p7:List Int×Unit)(p8 p9:List Int)(p10:List Int×Int×Unit)(p11:List Int):Option R:=
 bif decide (p4<p3)then bif decide (p4>0)then bif decide (p4<=(↑(length p1):Int))then gd (inB (wrap i64 (p4-1)) (length p1)) (B_38_1 (J_38_1 p0 p1 p2 p3 p4 (getD p1 (toNat (wrap i64 (p4-1))) 0) p5 p6 p7 p8 p9 p10 p11) (fun y118 y119 y120 y121 y122 y123 y124 y125 y126 y127 y128 y129=>K y118 y119 y120 y121 (wrap i64 (y122+1)) y123 y124 y125 y126 y127 y128 (List.set y129 (toNat (wrap i64 (wrap i64 (y118*y121)+y122))) 0)) (fun y130 y131 y132 y133 y134 y135 y136 y137 y138 y139 y140 y141 y142=>K y130 y131 y132 y133 (wrap i64 (y134+1)) y136 y137 y138 y139 y140 y141 (List.set y142 (toNat (wrap i64 (wrap i64 (y130*y133)+y134))) y135)) fun y143 y144 y145 y146 y147 y148 y149 y150 y151 y152 y153 y154 y155=>K y143 y144 y145 y146 (wrap i64 (y147+1)) y149 y150 y151 y152 y153 y154 (List.set y155 (toNat (wrap i64 (wrap i64 (y143*y146)+y147))) y148))else B_38_1 (J_38_1 p0 p1 p2 p3 p4 4294967295 p5 p6 p7 p8 p9 p10 p11) (fun y156 y157 y158 y159 y160 y161 y162 y163 y164 y165 y166 y167=>K y156 y157 y158 y159 (wrap i64 (y160+1)) y161 y162 y163 y164 y165 y166 (List.set y167 (toNat (wrap i64 (wrap i64 (y156*y159)+y160))) 0)) (fun y168 y169 y170 y171 y172 y173 y174 y175 y176 y177 y178 y179 y180=>K y168 y169 y170 y171 (wrap i64 (y172+1)) y174 y175 y176 y177 y178 y179 (List.set y180 (toNat (wrap i64 (wrap i64 (y168*y171)+y172))) y173)) fun y181 y182 y183 y184 y185 y186 y187 y188 y189 y190 y191 y192 y193=>K y181 y182 y183 y184 (wrap i64 (y185+1)) y187 y188 y189 y190 y191 y192 (List.set y193 (toNat (wrap i64 (wrap i64 (y181*y184)+y185))) y186)else B_38_1 (J_38_1 p0 p1 p2 p3 p4 4294967295 p5 p6 p7 p8 p9 p10 p11) (fun y194 y195 y196 y197 y198 y199 y200 y201 y202 y203 y204 y205=>K y194 y195 y196 y197 (wrap i64 (y198+1)) y199 y200 y201 y202 y203 y204 (List.set y205 (toNat (wrap i64 (wrap i64 (y194*y197)+y198))) 0)) (fun y206 y207 y208 y209 y210 y211 y212 y213 y214 y215 y216 y217 y218=>K y206 y207 y208 y209 (wrap i64 (y210+1)) y212 y213 y214 y215 y216 y217 (List.set y218 (toNat (wrap i64 (wrap i64 (y206*y209)+y210))) y211)) fun y219 y220 y221 y222 y223 y224 y225 y226 y227 y228 y229 y230 y231=>K y219 y220 y221 y222 (wrap i64 (y223+1)) y225 y226 y227 y228 y229 y230 (List.set y231 (toNat (wrap i64 (wrap i64 (y219*y222)+y223))) y224)else k (E_38_0.e0 p5 p6 p7 p8 p9 p10 p11)
noncomputable def Sp.L_38_0:Nat->Int->List Int->Bool->Int->Int->((List Int×List Int×Int×Unit)×List Int×Unit)->(Int×Unit)->(List Int×Unit)->List Int->List Int->(List Int×Int×Unit)->List Int->Option E_38_0
 |0,_,_,_,_,_,_,_,_,_,_,_,_=>none
 |m+1,p0,p1,p2,p3,p4,p5,p6,p7,p8,p9,p10,p11=>S_38_0 (L_38_0 m) some p0 p1 p2 p3 p4 p5 p6 p7 p8 p9 p10 p11
noncomputable def l_38_0(m:Nat)(a:T_38_0.E):Option E_38_0:=L_38_0 m a.1 a.2.1 a.2.2.1 a.2.2.2.1 a.2.2.2.2.1 a.2.2.2.2.2.1 a.2.2.2.2.2.2.1 a.2.2.2.2.2.2.2.1 a.2.2.2.2.2.2.2.2.1 a.2.2.2.2.2.2.2.2.2.1 a.2.2.2.2.2.2.2.2.2.2.1 a.2.2.2.2.2.2.2.2.2.2.2.1
noncomputable def O_38_0{R:Type}:Orc R:=orL T_38_0 (l_38_0 FU) Y_38_0
theorem OK_38_0{R:Type}:okF (R:=R) sm_38 0 (nf 38 0) O_38_0:=lp noO_ok (os:=[O_38_1]) ⟨OK_38_1,trivial⟩ T_38_0 l_38_0 (fun R K k a=>S_38_0 (fun p0 p1 p2 p3 p4 p5 p6 p7 p8 p9 p10 p11=>K (p0,p1,p2,p3,p4,p5,p6,p7,p8,p9,p10,p11,())) k a.1 a.2.1 a.2.2.1 a.2.2.2.1 a.2.2.2.2.1 a.2.2.2.2.2.1 a.2.2.2.2.2.2.1 a.2.2.2.2.2.2.2.1 a.2.2.2.2.2.2.2.2.1 a.2.2.2.2.2.2.2.2.2.1 a.2.2.2.2.2.2.2.2.2.2.1 a.2.2.2.2.2.2.2.2.2.2.2.1) Y_38_0 (fun _=>rfl) (fun _ _=>rfl) (fun k K a=>by kernel_rfl) (fun Y K a=>by
 unfold S_38_0
 repeat' first|apply gdN|apply condN|(apply Bn_38_1<;>intros)|rfl) (ok0 _)
noncomputable def F_38(a0:(((List Int)×((List Int)×(Int×Unit)))×((List Int)×Unit)))(a1:Int)(a2:(List Int))(a3:Bool):Option ((((List Int)×((List Int)×(Int×Unit)))×((List Int)×Unit))×Unit) :=
 gd (p_15 (a0.1)) (B_38_0 (L_38_0 4611686018427387904 a1 a2 a3 (wrap i64 (Int.tdiv (↑(length ((v_15 (a0.1)).1.1)):Int) 2)) 0 a0 (0,PUnit.unit) (replicate 32 (0:Int),PUnit.unit) [] [] ((v_15 (a0.1)).1.2) ((v_15 (a0.1)).1.1)) fun y7 y8 y9 y10 y11 y12 y13=>some (((y13,y12),y7.2.1,PUnit.unit),PUnit.unit))
noncomputable def Sp.p_38(a0:(((List Int)×((List Int)×(Int×Unit)))×((List Int)×Unit)))(a1:Int)(a2:(List Int))(a3:Bool):Bool:=(F_38 a0 a1 a2 a3).isSome
noncomputable def Sp.v_38(a0:(((List Int)×((List Int)×(Int×Unit)))×((List Int)×Unit)))(a1:Int)(a2:(List Int))(a3:Bool):(((List Int)×((List Int)×(Int×Unit)))×((List Int)×Unit))×Unit:=(F_38 a0 a1 a2 a3).getD (dfH R_38)
noncomputable def s_38:Summ:=shS A_38 R_38 (fun x=>p_38 x.1 x.2.1 x.2.2.1 x.2.2.2.1) (fun x=>v_38 x.1 x.2.1 x.2.2.1 x.2.2.2.1)
theorem pv_38(a0:(((List Int)×((List Int)×(Int×Unit)))×((List Int)×Unit)))(a1:Int)(a2:(List Int))(a3:Bool){y:(((List Int)×((List Int)×(Int×Unit)))×((List Int)×Unit))×Unit}(h:F_38 a0 a1 a2 a3=some y):p_38 a0 a1 a2 a3=true/\v_38 a0 a1 a2 a3=y:=pvG h
theorem run_38(x:HDen A_38)(y:HDen R_38)(h:F_38 x.1 x.2.1 x.2.2.1 x.2.2.2.1=some y):rnF sm_38 1 38 A_38 R_38 x y:=runG noO_ok (os:=[O_38_0]) ⟨OK_38_0,trivial⟩ (Eq.trans (by kernel_rfl) h)
end
noncomputable section
abbrev A_97:List Ty:=[(.arr 32 (.int .u8))]
abbrev R_97:List Ty:=[(.slice (.int .u32))]
noncomputable def sm_97:Nat->Option Summ:=smL []
noncomputable def T_97_0:PS:=⟨38,[(1,.kc (.ptr 0 [])),(3,.kc (.whole 1)),(4,.hv (.int .i64))],[.mem (.hv (.arr 32 (.int .u8))),.vec 42 (.int .u32)],0⟩
inductive Sp.E_97_0 where
 |e0 (p2:List Int)
noncomputable def Sp.B_97_0{R:Type}(r:Option E_97_0)(k0:List Int->Option R):Option R:=match r with
 |none=>none
 |some (.e0 p2)=>k0 p2
noncomputable def Y_97_0{R:Type}(k:Ex->St->Option R):E_97_0->Option R
 | .e0 p2=>k (Ex.exit 0) (sx 38 [(3,CV.whole 0)] [Blk.vec 42 (Ty.int u32) p2])
noncomputable def Sp.S_97_0{R:Type}(K:Int->List Int->List Int->Option R)(k:E_97_0->Option R)(p0:Int)(p1 p2:List Int):Option R:=
 bif decide (p0<32)then gd (inB p0 32) (gd (decide (toNat p0<32)&&true) (gd (inB (wrap i64 (p0+1)) 32) (gd (decide (toNat (wrap i64 (p0+1))<32)&&true) (gd (inB (wrap i64 (p0+2)) 32) (gd (decide (toNat (wrap i64 (p0+2))<32)&&true) (gd (inB (wrap i64 (p0+3)) 32) (gd (decide (toNat (wrap i64 (p0+3))<32)&&true) (gd (room (length p2+1) 4) (K (wrap i64 (p0+4)) p1 (p2++[Sp.orI u32 (Sp.orI u32 (Sp.orI u32 (wrap u32 (wrap u32 (getD p1 (toNat p0) 0)*16777216)) (wrap u32 (wrap u32 (getD p1 (toNat (wrap i64 (p0+1))) 0)*65536))) (wrap u32 (wrap u32 (getD p1 (toNat (wrap i64 (p0+2))) 0)*256))) (wrap u32 (getD p1 (toNat (wrap i64 (p0+3))) 0))]))))))))))else k (E_97_0.e0 p2)
noncomputable def Sp.L_97_0:Nat->Int->List Int->List Int->Option E_97_0
 |0,_,_,_=>none
 |m+1,p0,p1,p2=>S_97_0 (L_97_0 m) some p0 p1 p2
noncomputable def l_97_0(m:Nat)(a:T_97_0.E):Option E_97_0:=L_97_0 m a.1 a.2.1 a.2.2.1
noncomputable def O_97_0{R:Type}:Orc R:=orL T_97_0 (l_97_0 FU) Y_97_0
theorem OK_97_0{R:Type}:okF (R:=R) sm_97 0 (nf 97 0) O_97_0:=lp0 T_97_0 l_97_0 (fun R K k a=>S_97_0 (fun p0 p1 p2=>K (p0,p1,p2,())) k a.1 a.2.1 a.2.2.1) Y_97_0 (fun _ _ _=>by kernel_rfl) (fun _ _ _=>by
 unfold S_97_0
 repeat' first|apply gdN|apply condN|rfl) (ok0 _)
noncomputable def F_97(a0:(List Int)):Option ((List Int)×Unit) :=
 B_97_0 (L_97_0 4611686018427387904 0 a0 []) fun y1=>some (y1,PUnit.unit)
noncomputable def Sp.p_97(a0:(List Int)):Bool:=(F_97 a0).isSome
noncomputable def Sp.v_97(a0:(List Int)):(List Int)×Unit:=(F_97 a0).getD (dfH R_97)
noncomputable def s_97:Summ:=shS A_97 R_97 (fun x=>p_97 x.1) (fun x=>v_97 x.1)
theorem pv_97(a0:(List Int)){y:(List Int)×Unit}(h:F_97 a0=some y):p_97 a0=true/\v_97 a0=y:=pvG h
theorem run_97(x:HDen A_97)(y:HDen R_97)(h:F_97 x.1=some y):rnF sm_97 1 97 A_97 R_97 x y:=runG noO_ok (os:=[O_97_0]) ⟨OK_97_0,trivial⟩ (Eq.trans (by kernel_rfl) h)
end
noncomputable section
abbrev A_74:List Ty:=[(.pair (.int .i64) (.pair (.slice (.arr 32 (.int .u8))) (.pair (.slice (.arr 32 (.int .u8))) .unit)))]
abbrev R_74:List Ty:=[(.slice (.int .u32))]
noncomputable def sm_74:Nat->Option Summ:=smL [(97,s_97)]
noncomputable def T_74_0:PS:=⟨35,[(1,.kc (.ptr 0 [])),(3,.kc (.whole 1)),(4,.hv (.int .i64))],[.mem (.hv (.pair (.int .i64) (.pair (.slice (.arr 32 (.int .u8))) (.pair (.slice (.arr 32 (.int .u8))) .unit)))),.vec 42 (.int .u32)],0⟩
inductive Sp.E_74_0 where
 |e0 (p1:Int×List (List Int)×List (List Int)×Unit) (p2:List Int)
noncomputable def Sp.B_74_0{R:Type}(r:Option E_74_0)(k0:(Int×List (List Int)×List (List Int)×Unit)->List Int->Option R):Option R:=match r with
 |none=>none
 |some (.e0 p1 p2)=>k0 p1 p2
noncomputable def Y_74_0{R:Type}(k:Ex->St->Option R):E_74_0->Option R
 | .e0 p1 p2=>k (Ex.exit 0) (sx 35 [(1,CV.ptr 0 []),(3,CV.whole 1)] [Blk.mem (CV.pure (Ty.pair (Ty.int i64) (Ty.pair (Ty.slice (Ty.arr 32 (Ty.int u8))) (Ty.pair (Ty.slice (Ty.arr 32 (Ty.int u8))) Ty.unit))) p1),Blk.vec 42 (Ty.int u32) p2])
noncomputable def Sp.S_74_0{R:Type}(K:Int->(Int×List (List Int)×List (List Int)×Unit)->List Int->Option R)(k:E_74_0->Option R)(p0:Int)(p1:Int×List (List Int)×List (List Int)×Unit)(p2:List Int):Option R:=
 bif decide (p0<67)then gd (inB p0 (length (p1.2.1))) (gd (p_97 (getD (p1.2.1) (toNat p0) (Ty.dflt (Ty.arr 32 (Ty.int u8))))) (gd (room (length p2+length ((v_97 (getD (p1.2.1) (toNat p0) (Ty.dflt (Ty.arr 32 (Ty.int u8))))).1)) 4) (K (wrap i64 (p0+1)) p1 (p2++(v_97 (getD (p1.2.1) (toNat p0) (Ty.dflt (Ty.arr 32 (Ty.int u8))))).1))))else k (E_74_0.e0 p1 p2)
noncomputable def Sp.L_74_0:Nat->Int->(Int×List (List Int)×List (List Int)×Unit)->List Int->Option E_74_0
 |0,_,_,_=>none
 |m+1,p0,p1,p2=>S_74_0 (L_74_0 m) some p0 p1 p2
noncomputable def l_74_0(m:Nat)(a:T_74_0.E):Option E_74_0:=L_74_0 m a.1 a.2.1 a.2.2.1
noncomputable def O_74_0{R:Type}:Orc R:=orL T_74_0 (l_74_0 FU) Y_74_0
theorem OK_74_0{R:Type}:okF (R:=R) sm_74 0 (nf 74 0) O_74_0:=lp0 T_74_0 l_74_0 (fun R K k a=>S_74_0 (fun p0 p1 p2=>K (p0,p1,p2,())) k a.1 a.2.1 a.2.2.1) Y_74_0 (fun _ _ _=>by kernel_rfl) (fun _ _ _=>by
 unfold S_74_0
 repeat' first|apply gdN|apply condN|rfl) (ok0 _)
noncomputable def T_74_1:PS:=⟨35,[(1,.kc (.ptr 0 [])),(3,.kc (.whole 1)),(5,.hv (.int .i64))],[.mem (.hv (.pair (.int .i64) (.pair (.slice (.arr 32 (.int .u8))) (.pair (.slice (.arr 32 (.int .u8))) .unit)))),.vec 42 (.int .u32)],0⟩
inductive Sp.E_74_1 where
 |e0 (p2:List Int)
noncomputable def Sp.B_74_1{R:Type}(r:Option E_74_1)(k0:List Int->Option R):Option R:=match r with
 |none=>none
 |some (.e0 p2)=>k0 p2
noncomputable def Y_74_1{R:Type}(k:Ex->St->Option R):E_74_1->Option R
 | .e0 p2=>k (Ex.exit 2) (sx 35 [(3,CV.whole 0)] [Blk.vec 42 (Ty.int u32) p2])
noncomputable def Sp.S_74_1{R:Type}(K:Int->(Int×List (List Int)×List (List Int)×Unit)->List Int->Option R)(k:E_74_1->Option R)(p0:Int)(p1:Int×List (List Int)×List (List Int)×Unit)(p2:List Int):Option R:=
 bif decide (p0<2)then gd (inB p0 (length (p1.2.2.1))) (gd (p_97 (getD (p1.2.2.1) (toNat p0) (Ty.dflt (Ty.arr 32 (Ty.int u8))))) (gd (room (length p2+length ((v_97 (getD (p1.2.2.1) (toNat p0) (Ty.dflt (Ty.arr 32 (Ty.int u8))))).1)) 4) (K (wrap i64 (p0+1)) p1 (p2++(v_97 (getD (p1.2.2.1) (toNat p0) (Ty.dflt (Ty.arr 32 (Ty.int u8))))).1))))else k (E_74_1.e0 p2)
noncomputable def Sp.L_74_1:Nat->Int->(Int×List (List Int)×List (List Int)×Unit)->List Int->Option E_74_1
 |0,_,_,_=>none
 |m+1,p0,p1,p2=>S_74_1 (L_74_1 m) some p0 p1 p2
noncomputable def l_74_1(m:Nat)(a:T_74_1.E):Option E_74_1:=L_74_1 m a.1 a.2.1 a.2.2.1
noncomputable def O_74_1{R:Type}:Orc R:=orL T_74_1 (l_74_1 FU) Y_74_1
theorem OK_74_1{R:Type}:okF (R:=R) sm_74 0 (nf 74 1) O_74_1:=lp0 T_74_1 l_74_1 (fun R K k a=>S_74_1 (fun p0 p1 p2=>K (p0,p1,p2,())) k a.1 a.2.1 a.2.2.1) Y_74_1 (fun _ _ _=>by kernel_rfl) (fun _ _ _=>by
 unfold S_74_1
 repeat' first|apply gdN|apply condN|rfl) (ok0 _)
noncomputable def F_74(a0:(Int×((List (List Int))×((List (List Int))×Unit)))):Option ((List Int)×Unit) :=
 B_74_0 (L_74_0 4611686018427387904 0 a0 [wrap u32 (a0.1)]) fun y3 y4=>B_74_1 (L_74_1 4611686018427387904 0 y3 y4) fun y5=>some (y5,PUnit.unit)
noncomputable def Sp.p_74(a0:(Int×((List (List Int))×((List (List Int))×Unit)))):Bool:=(F_74 a0).isSome
noncomputable def Sp.v_74(a0:(Int×((List (List Int))×((List (List Int))×Unit)))):(List Int)×Unit:=(F_74 a0).getD (dfH R_74)
noncomputable def s_74:Summ:=shS A_74 R_74 (fun x=>p_74 x.1) (fun x=>v_74 x.1)
theorem pv_74(a0:(Int×((List (List Int))×((List (List Int))×Unit)))){y:(List Int)×Unit}(h:F_74 a0=some y):p_74 a0=true/\v_74 a0=y:=pvG h
theorem run_74(x:HDen A_74)(y:HDen R_74)(h:F_74 x.1=some y):rnF sm_74 1 74 A_74 R_74 x y:=runG noO_ok (os:=[O_74_0,O_74_1]) ⟨OK_74_0,OK_74_1,trivial⟩ (Eq.trans (by kernel_rfl) h)
end
end Go.Ev
