/- Helpers: functions of the program as Lean functions, and what they compute. No condition. -/
import Derived.Test.YtaaagikcbnbncaaProg
import Derived.WalkKit
import Derived.Test.YtaaagikcbnbncaaE5P3
import Derived.Test.YtaaagikcbnbncaaE5P2
set_option maxRecDepth 10000
set_option linter.unusedVariables false
set_option linter.unusedSimpArgs false
open Go.IntKind (wrap i64 i32 i16 i8 u64 u32 u16 u8)
open List (getD length take drop replicate)
open Int (toNat)
open Go.Ev.Sp
namespace Go.Ev
open Go Go.Proofs Go.RowKit
set_option maxRecDepth 100000
noncomputable section
noncomputable def smB:Nat->Bool:=fun f=>[8,9,10,11,12,13,14,15,16,17,18,21,22,23,24,25,26,27,28,29,30,31,32,33,34,35,36,37,38,39,40,41,44,46,47,48,49,50,51,53,54,55,56,57,58,59,60,61,62,63,65,66,68,69,70,71,72,73,74,75,76,77,78,79,80,81,82,83,84,85,86,87,88,89,90,91,93,97,98,99,100,101,104,105,107,108,109,110,116,117,118,119,120,123,124,125,126,127,128].contains f
noncomputable def wF:Nat->Nat:=fun f=>0
noncomputable def cF:Nat->Bool:=fun f=>false
noncomputable def dF:Nat->Bool:=fun f=>[3,4,6,7].contains f
noncomputable def fns:Nat->Option IFn:=fnsP Try.prog smB wF cF dF
theorem hm0:Try.prog.follows .mixedOrders=true:=by kernel_rfl
abbrev s_25:Summ:=vecS (.int .u32) 42 4
abbrev s_75:Summ:=vecS (.int .i64) 3 8
abbrev s_123:Summ:=curS
abbrev s_126:Summ:=growS (.int .u32) 42 4
abbrev okF{R:Type}(sm:Nat->Option Summ)(d:Nat)(c:IC)(o:Orc R):Prop:=okN sm FU (evFn sm fns FU d) c o
abbrev nf(f i:Nat):IC:=nd (fB fns f) i
abbrev nr(f i:Nat):IC:=nd (fR fns f).2.2 i
abbrev ni(c:IC)(i:Nat):IC:=nd (inner c) i
abbrev rnF(sm:Nat->Option Summ)(n f:Nat)(A R:List Ty)(x:HDen A)(y:HDen R):Prop:=evFn sm fns FU n f (ofH A x) [] (pureK R)=some y
end
set_option maxHeartbeats 4000000
set_option linter.unusedVariables false
noncomputable section
abbrev A_73:List Ty:=[(.pair (.int .i64) (.pair (.slice (.arr 32 (.int .u8))) (.pair (.slice (.arr 32 (.int .u8))) .unit))),(.pair (.int .i64) (.pair (.slice (.arr 32 (.int .u8))) (.pair (.slice (.arr 32 (.int .u8))) .unit)))]
abbrev R_73:List Ty:=[.bool]
noncomputable def sm_73:Nat->Option Summ:=smL []
noncomputable def T_73_0:PS:=⟨66,[(2,.kc (.ptr 0 [])),(3,.kc (.ptr 1 [])),(5,.hv (.int .i64))],[.mem (.hv (.pair (.int .i64) (.pair (.slice (.arr 32 (.int .u8))) (.pair (.slice (.arr 32 (.int .u8))) .unit)))),.mem (.hv (.pair (.int .i64) (.pair (.slice (.arr 32 (.int .u8))) (.pair (.slice (.arr 32 (.int .u8))) .unit))))],0⟩
inductive Sp.E_73_0 where
 |e0
 |e1 (p1 p2:Int×List (List Int)×List (List Int)×Unit)
noncomputable def Sp.B_73_0{R:Type}(r:Option E_73_0)(k0:Option R)(k1:(Int×List (List Int)×List (List Int)×Unit)->(Int×List (List Int)×List (List Int)×Unit)->Option R):Option R:=match r with
 |none=>none
 |some (.e0)=>k0
 |some (.e1 p1 p2)=>k1 p1 p2
noncomputable def Y_73_0{R:Type}(k:Ex->St->Option R):E_73_0->Option R
 | .e0=>k Ex.ret (sx 66 [(4,CV.bool false)] [])
 | .e1 p1 p2=>k (Ex.exit 0) (sx 66 [(2,CV.ptr 0 []),(3,CV.ptr 1 [])] [Blk.mem (CV.pure (Ty.pair (Ty.int i64) (Ty.pair (Ty.slice (Ty.arr 32 (Ty.int u8))) (Ty.pair (Ty.slice (Ty.arr 32 (Ty.int u8))) Ty.unit))) p1),Blk.mem (CV.pure (Ty.pair (Ty.int i64) (Ty.pair (Ty.slice (Ty.arr 32 (Ty.int u8))) (Ty.pair (Ty.slice (Ty.arr 32 (Ty.int u8))) Ty.unit))) p2)])
noncomputable def Sp.S_73_0{R:Type}(K:Int->(Int×List (List Int)×List (List Int)×Unit)->(Int×List (List Int)×List (List Int)×Unit)->Option R)(k:E_73_0->Option R)(p0:Int)(p1 p2:Int×List (List Int)×List (List Int)×Unit):Option R:=
 bif decide (p0<(↑(length (p1.2.1)):Int))then gd (inB p0 (length (p1.2.1))) (gd (inB p0 (length (p2.2.1))) (bif !Ty.beq (Ty.arr 32 (Ty.int u8)) (getD (p1.2.1) (toNat p0) (Ty.dflt (Ty.arr 32 (Ty.int u8)))) (getD (p2.2.1) (toNat p0) (Ty.dflt (Ty.arr 32 (Ty.int u8))))then k (E_73_0.e0)else K (wrap i64 (p0+1)) p1 p2))else k (E_73_0.e1 p1 p2)
noncomputable def Sp.L_73_0:Nat->Int->(Int×List (List Int)×List (List Int)×Unit)->(Int×List (List Int)×List (List Int)×Unit)->Option E_73_0
 |0,_,_,_=>none
 |m+1,p0,p1,p2=>S_73_0 (L_73_0 m) some p0 p1 p2
noncomputable def l_73_0(m:Nat)(a:T_73_0.E):Option E_73_0:=L_73_0 m a.1 a.2.1 a.2.2.1
noncomputable def O_73_0{R:Type}:Orc R:=orL T_73_0 (l_73_0 FU) Y_73_0
theorem OK_73_0{R:Type}:okF (R:=R) sm_73 0 (nf 73 0) O_73_0:=lp0 T_73_0 l_73_0 (fun R K k a=>S_73_0 (fun p0 p1 p2=>K (p0,p1,p2,())) k a.1 a.2.1 a.2.2.1) Y_73_0 (fun _ _ _=>by kernel_rfl) (fun _ _ _=>by
 unfold S_73_0
 repeat' first|apply gdN|apply condN|rfl) (ok0 _)
noncomputable def T_73_1:PS:=⟨66,[(2,.kc (.ptr 0 [])),(3,.kc (.ptr 1 [])),(6,.hv (.int .i64))],[.mem (.hv (.pair (.int .i64) (.pair (.slice (.arr 32 (.int .u8))) (.pair (.slice (.arr 32 (.int .u8))) .unit)))),.mem (.hv (.pair (.int .i64) (.pair (.slice (.arr 32 (.int .u8))) (.pair (.slice (.arr 32 (.int .u8))) .unit))))],0⟩
inductive Sp.E_73_1 where
 |e0
 |e1
noncomputable def Sp.B_73_1{R:Type}(r:Option E_73_1)(k0 k1:Option R):Option R:=match r with
 |none=>none
 |some (.e0)=>k0
 |some (.e1)=>k1
noncomputable def Y_73_1{R:Type}(k:Ex->St->Option R):E_73_1->Option R
 | .e0=>k Ex.ret (sx 66 [(4,CV.bool false)] [])
 | .e1=>k (Ex.exit 2) (sx 66 [] [])
noncomputable def Sp.S_73_1{R:Type}(K:Int->(Int×List (List Int)×List (List Int)×Unit)->(Int×List (List Int)×List (List Int)×Unit)->Option R)(k:E_73_1->Option R)(p0:Int)(p1 p2:Int×List (List Int)×List (List Int)×Unit):Option R:=
 bif decide (p0<(↑(length (p1.2.2.1)):Int))then gd (inB p0 (length (p1.2.2.1))) (gd (inB p0 (length (p2.2.2.1))) (bif !Ty.beq (Ty.arr 32 (Ty.int u8)) (getD (p1.2.2.1) (toNat p0) (Ty.dflt (Ty.arr 32 (Ty.int u8)))) (getD (p2.2.2.1) (toNat p0) (Ty.dflt (Ty.arr 32 (Ty.int u8))))then k (E_73_1.e0)else K (wrap i64 (p0+1)) p1 p2))else k (E_73_1.e1)
noncomputable def Sp.L_73_1:Nat->Int->(Int×List (List Int)×List (List Int)×Unit)->(Int×List (List Int)×List (List Int)×Unit)->Option E_73_1
 |0,_,_,_=>none
 |m+1,p0,p1,p2=>S_73_1 (L_73_1 m) some p0 p1 p2
noncomputable def l_73_1(m:Nat)(a:T_73_1.E):Option E_73_1:=L_73_1 m a.1 a.2.1 a.2.2.1
noncomputable def O_73_1{R:Type}:Orc R:=orL T_73_1 (l_73_1 FU) Y_73_1
theorem OK_73_1{R:Type}:okF (R:=R) sm_73 0 (nf 73 1) O_73_1:=lp0 T_73_1 l_73_1 (fun R K k a=>S_73_1 (fun p0 p1 p2=>K (p0,p1,p2,())) k a.1 a.2.1 a.2.2.1) Y_73_1 (fun _ _ _=>by kernel_rfl) (fun _ _ _=>by
 unfold S_73_1
 repeat' first|apply gdN|apply condN|rfl) (ok0 _)
noncomputable def F_73(a0:(Int×((List (List Int))×((List (List Int))×Unit))))(a1:(Int×((List (List Int))×((List (List Int))×Unit)))):Option (Bool×Unit) :=
 bif a0.1 !=a1.1 then some (false,PUnit.unit)else bif(↑(length (a0.2.1)):Int)!=(↑(length (a1.2.1)):Int)then some (false,PUnit.unit)else bif(↑(length (a0.2.2.1)):Int)!=(↑(length (a1.2.2.1)):Int)then some (false,PUnit.unit)else B_73_0 (L_73_0 4611686018427387904 0 a0 a1) (some (false,PUnit.unit)) fun y2 y3=>B_73_1 (L_73_1 4611686018427387904 0 y2 y3) (some (false,PUnit.unit)) (some (true,PUnit.unit))
noncomputable def Sp.p_73(a0:(Int×((List (List Int))×((List (List Int))×Unit))))(a1:(Int×((List (List Int))×((List (List Int))×Unit)))):Bool:=(F_73 a0 a1).isSome
noncomputable def Sp.v_73(a0:(Int×((List (List Int))×((List (List Int))×Unit))))(a1:(Int×((List (List Int))×((List (List Int))×Unit)))):Bool×Unit:=(F_73 a0 a1).getD (dfH R_73)
noncomputable def s_73:Summ:=shN A_73 R_73 (fun x=>p_73 x.1 x.2.1) (fun x=>v_73 x.1 x.2.1)
theorem pv_73(a0:(Int×((List (List Int))×((List (List Int))×Unit))))(a1:(Int×((List (List Int))×((List (List Int))×Unit)))){y:Bool×Unit}(h:F_73 a0 a1=some y):p_73 a0 a1=true/\v_73 a0 a1=y:=pvG h
theorem run_73(x:HDen A_73)(y:HDen R_73)(h:F_73 x.1 x.2.1=some y):rnF sm_73 1 73 A_73 R_73 x y:=runG noO_ok (os:=[O_73_0,O_73_1]) ⟨OK_73_0,OK_73_1,trivial⟩ (Eq.trans (by kernel_rfl) h)
end
noncomputable section
abbrev A_36:List Ty:=[(.pair (.int .i64) (.pair (.int .i64) (.pair (.arr 32 (.int .u8)) (.pair (.pair (.int .i64) (.pair (.slice (.arr 32 (.int .u8))) (.pair (.slice (.arr 32 (.int .u8))) .unit))) .unit)))),(.pair (.int .i64) (.pair (.int .i64) (.pair (.arr 32 (.int .u8)) (.pair (.pair (.int .i64) (.pair (.slice (.arr 32 (.int .u8))) (.pair (.slice (.arr 32 (.int .u8))) .unit))) .unit))))]
abbrev R_36:List Ty:=[.bool]
noncomputable def sm_36:Nat->Option Summ:=smL [(73,s_73)]
noncomputable def F_36(a0:(Int×(Int×((List Int)×((Int×((List (List Int))×((List (List Int))×Unit)))×Unit)))))(a1:(Int×(Int×((List Int)×((Int×((List (List Int))×((List (List Int))×Unit)))×Unit))))):Option (Bool×Unit) :=
 bif a0.1==a1.1 then bif a0.2.1==a1.2.1 then bif Ty.beq (Ty.arr 32 (Ty.int u8)) (a0.2.2.1) (a1.2.2.1)then gd (p_73 (a0.2.2.2.1) (a1.2.2.2.1)) (some ((v_73 (a0.2.2.2.1) (a1.2.2.2.1)).1,PUnit.unit))else some (false,PUnit.unit)else some (false,PUnit.unit)else some (false,PUnit.unit)
noncomputable def Sp.p_36(a0:(Int×(Int×((List Int)×((Int×((List (List Int))×((List (List Int))×Unit)))×Unit)))))(a1:(Int×(Int×((List Int)×((Int×((List (List Int))×((List (List Int))×Unit)))×Unit))))):Bool:=(F_36 a0 a1).isSome
noncomputable def Sp.v_36(a0:(Int×(Int×((List Int)×((Int×((List (List Int))×((List (List Int))×Unit)))×Unit)))))(a1:(Int×(Int×((List Int)×((Int×((List (List Int))×((List (List Int))×Unit)))×Unit))))):Bool×Unit:=(F_36 a0 a1).getD (dfH R_36)
noncomputable def s_36:Summ:=shN A_36 R_36 (fun x=>p_36 x.1 x.2.1) (fun x=>v_36 x.1 x.2.1)
theorem pv_36(a0:(Int×(Int×((List Int)×((Int×((List (List Int))×((List (List Int))×Unit)))×Unit)))))(a1:(Int×(Int×((List Int)×((Int×((List (List Int))×((List (List Int))×Unit)))×Unit))))){y:Bool×Unit}(h:F_36 a0 a1=some y):p_36 a0 a1=true/\v_36 a0 a1=y:=pvG h
theorem run_36(x:HDen A_36)(y:HDen R_36)(h:F_36 x.1 x.2.1=some y):rnF sm_36 1 36 A_36 R_36 x y:=runG noO_ok (os:=[]) trivial (Eq.trans (by kernel_rfl) h)
end
noncomputable section
abbrev A_10:List Ty:=[(.pair (.int .i64) (.pair (.int .i64) (.pair (.int .i64) (.pair (.pair (.int .i64) (.pair (.int .i64) (.pair (.arr 32 (.int .u8)) (.pair (.pair (.int .i64) (.pair (.slice (.arr 32 (.int .u8))) (.pair (.slice (.arr 32 (.int .u8))) .unit))) .unit)))) .unit))))]
abbrev R_10:List Ty:=[.bool]
noncomputable def sm_10:Nat->Option Summ:=smL [(36,s_36)]
noncomputable def F_10(a0:(Int×(Int×(Int×((Int×(Int×((List Int)×((Int×((List (List Int))×((List (List Int))×Unit)))×Unit))))×Unit))))):Option (Bool×Unit) :=
 bif a0.1==0 then bif a0.2.1==0 then bif a0.2.2.1==0 then gd (p_36 (a0.2.2.2.1) (0,0,replicate 32 (0:Int),(0,[],[],PUnit.unit),PUnit.unit)) (some ((v_36 (a0.2.2.2.1) (0,0,replicate 32 (0:Int),(0,[],[],PUnit.unit),PUnit.unit)).1,PUnit.unit))else some (false,PUnit.unit)else some (false,PUnit.unit)else some (false,PUnit.unit)
noncomputable def Sp.p_10(a0:(Int×(Int×(Int×((Int×(Int×((List Int)×((Int×((List (List Int))×((List (List Int))×Unit)))×Unit))))×Unit))))):Bool:=(F_10 a0).isSome
noncomputable def Sp.v_10(a0:(Int×(Int×(Int×((Int×(Int×((List Int)×((Int×((List (List Int))×((List (List Int))×Unit)))×Unit))))×Unit))))):Bool×Unit:=(F_10 a0).getD (dfH R_10)
noncomputable def s_10:Summ:=shN A_10 R_10 (fun x=>p_10 x.1) (fun x=>v_10 x.1)
theorem pv_10(a0:(Int×(Int×(Int×((Int×(Int×((List Int)×((Int×((List (List Int))×((List (List Int))×Unit)))×Unit))))×Unit))))){y:Bool×Unit}(h:F_10 a0=some y):p_10 a0=true/\v_10 a0=y:=pvG h
theorem run_10(x:HDen A_10)(y:HDen R_10)(h:F_10 x.1=some y):rnF sm_10 1 10 A_10 R_10 x y:=runG noO_ok (os:=[]) trivial (Eq.trans (by kernel_rfl) h)
end
noncomputable section
abbrev A_11:List Ty:=[]
abbrev R_11:List Ty:=[(.pair (.int .i64) (.pair (.int .i64) (.pair (.int .i64) (.pair (.pair (.int .i64) (.pair (.int .i64) (.pair (.arr 32 (.int .u8)) (.pair (.pair (.int .i64) (.pair (.slice (.arr 32 (.int .u8))) (.pair (.slice (.arr 32 (.int .u8))) .unit))) .unit)))) .unit))))]
noncomputable def sm_11:Nat->Option Summ:=smL []
noncomputable def F_11:Option ((Int×(Int×(Int×((Int×(Int×((List Int)×((Int×((List (List Int))×((List (List Int))×Unit)))×Unit))))×Unit))))×Unit) :=
 some ((0,0,0,(0,0,replicate 32 (0:Int),(0,[],[],PUnit.unit),PUnit.unit),PUnit.unit),PUnit.unit)
noncomputable def Sp.p_11:Bool:=(F_11).isSome
noncomputable def Sp.v_11:(Int×(Int×(Int×((Int×(Int×((List Int)×((Int×((List (List Int))×((List (List Int))×Unit)))×Unit))))×Unit))))×Unit:=(F_11).getD (dfH R_11)
noncomputable def s_11:Summ:=shS A_11 R_11 (fun x=>p_11) (fun x=>v_11)
theorem pv_11{y:(Int×(Int×(Int×((Int×(Int×((List Int)×((Int×((List (List Int))×((List (List Int))×Unit)))×Unit))))×Unit))))×Unit}(h:F_11=some y):p_11=true/\v_11=y:=pvG h
theorem run_11(x:HDen A_11)(y:HDen R_11)(h:F_11=some y):rnF sm_11 1 11 A_11 R_11 x y:=runG noO_ok (os:=[]) trivial (Eq.trans (by kernel_rfl) h)
end
noncomputable section
abbrev A_37:List Ty:=[(.pair (.int .i64) (.pair (.int .i64) (.pair (.int .i64) (.pair (.pair (.int .i64) (.pair (.int .i64) (.pair (.arr 32 (.int .u8)) (.pair (.pair (.int .i64) (.pair (.slice (.arr 32 (.int .u8))) (.pair (.slice (.arr 32 (.int .u8))) .unit))) .unit)))) .unit))))]
abbrev R_37:List Ty:=[.bool]
noncomputable def sm_37:Nat->Option Summ:=smL []
noncomputable def F_37(a0:(Int×(Int×(Int×((Int×(Int×((List Int)×((Int×((List (List Int))×((List (List Int))×Unit)))×Unit))))×Unit))))):Option (Bool×Unit) :=
 bif a0.1==0 then bif a0.2.1==0 then bif a0.2.2.1==0 then bif a0.2.2.2.1.1==0 then bif a0.2.2.2.1.2.1==0 then bif Ty.beq (Ty.arr 32 (Ty.int u8)) (a0.2.2.2.1.2.2.1) (replicate 32 (0:Int))then bif a0.2.2.2.1.2.2.2.1.1==0 then bif(↑(length (a0.2.2.2.1.2.2.2.1.2.1)):Int)==0 then some ((↑(length (a0.2.2.2.1.2.2.2.1.2.2.1)):Int)==0,PUnit.unit)else some (false,PUnit.unit)else some (false,PUnit.unit)else some (false,PUnit.unit)else some (false,PUnit.unit)else some (false,PUnit.unit)else some (false,PUnit.unit)else some (false,PUnit.unit)else some (false,PUnit.unit)
noncomputable def Sp.p_37(a0:(Int×(Int×(Int×((Int×(Int×((List Int)×((Int×((List (List Int))×((List (List Int))×Unit)))×Unit))))×Unit))))):Bool:=(F_37 a0).isSome
noncomputable def Sp.v_37(a0:(Int×(Int×(Int×((Int×(Int×((List Int)×((Int×((List (List Int))×((List (List Int))×Unit)))×Unit))))×Unit))))):Bool×Unit:=(F_37 a0).getD (dfH R_37)
noncomputable def s_37:Summ:=shN A_37 R_37 (fun x=>p_37 x.1) (fun x=>v_37 x.1)
theorem pv_37(a0:(Int×(Int×(Int×((Int×(Int×((List Int)×((Int×((List (List Int))×((List (List Int))×Unit)))×Unit))))×Unit))))){y:Bool×Unit}(h:F_37 a0=some y):p_37 a0=true/\v_37 a0=y:=pvG h
theorem run_37(x:HDen A_37)(y:HDen R_37)(h:F_37 x.1=some y):rnF sm_37 1 37 A_37 R_37 x y:=runG noO_ok (os:=[]) trivial (Eq.trans (by kernel_rfl) h)
end
noncomputable section
abbrev A_85:List Ty:=[(.pair (.int .i64) (.pair (.slice (.arr 32 (.int .u8))) (.pair (.slice (.arr 32 (.int .u8))) .unit)))]
abbrev R_85:List Ty:=[.bool]
noncomputable def sm_85:Nat->Option Summ:=smL []
noncomputable def F_85(a0:(Int×((List (List Int))×((List (List Int))×Unit)))):Option (Bool×Unit) :=
 bif decide (a0.1>=0)then bif decide (a0.1<4)then bif(↑(length (a0.2.1)):Int)==67 then some ((↑(length (a0.2.2.1)):Int)==2,PUnit.unit)else some (false,PUnit.unit)else some (false,PUnit.unit)else some (false,PUnit.unit)
noncomputable def Sp.p_85(a0:(Int×((List (List Int))×((List (List Int))×Unit)))):Bool:=(F_85 a0).isSome
noncomputable def Sp.v_85(a0:(Int×((List (List Int))×((List (List Int))×Unit)))):Bool×Unit:=(F_85 a0).getD (dfH R_85)
noncomputable def s_85:Summ:=shN A_85 R_85 (fun x=>p_85 x.1) (fun x=>v_85 x.1)
theorem pv_85(a0:(Int×((List (List Int))×((List (List Int))×Unit)))){y:Bool×Unit}(h:F_85 a0=some y):p_85 a0=true/\v_85 a0=y:=pvG h
theorem run_85(x:HDen A_85)(y:HDen R_85)(h:F_85 x.1=some y):rnF sm_85 1 85 A_85 R_85 x y:=runG noO_ok (os:=[]) trivial (Eq.trans (by kernel_rfl) h)
end
noncomputable section
abbrev A_100:List Ty:=[(.slice (.int .u8))]
abbrev R_100:List Ty:=[(.int .u32)]
noncomputable def sm_100:Nat->Option Summ:=smL []
noncomputable def F_100(a0:(List Int)):Option (Int×Unit) :=
 gd (inB 0 (length a0)) (gd (inB 1 (length a0)) (gd (inB 2 (length a0)) (gd (inB 3 (length a0)) (some (Sp.orI u32 (Sp.orI u32 (Sp.orI u32 (wrap u32 (wrap u32 (getD a0 0 0)*16777216)) (wrap u32 (wrap u32 (getD a0 1 0)*65536))) (wrap u32 (wrap u32 (getD a0 2 0)*256))) (wrap u32 (getD a0 3 0)),PUnit.unit)))))
noncomputable def Sp.p_100(a0:(List Int)):Bool:=(F_100 a0).isSome
noncomputable def Sp.v_100(a0:(List Int)):Int×Unit:=(F_100 a0).getD (dfH R_100)
noncomputable def s_100:Summ:=shN A_100 R_100 (fun x=>p_100 x.1) (fun x=>v_100 x.1)
theorem pv_100(a0:(List Int)){y:Int×Unit}(h:F_100 a0=some y):p_100 a0=true/\v_100 a0=y:=pvG h
theorem run_100(x:HDen A_100)(y:HDen R_100)(h:F_100 x.1=some y):rnF sm_100 1 100 A_100 R_100 x y:=runG noO_ok (os:=[]) trivial (Eq.trans (by kernel_rfl) h)
end
noncomputable section
abbrev Zt74_0:Type:=List (List (List Int))
abbrev A_74:List Ty:=[(.pair (.int .i64) (.pair (.slice (.arr 32 (.int .u8))) (.pair (.slice (.arr 32 (.int .u8))) .unit)))]
abbrev R_74:List Ty:=[(.slice (.int .u32)),(.int .i64)]
noncomputable def sm_74:Nat->Option Summ:=smL [(85,s_85),(100,s_100)]
noncomputable def T_74_2:PS:=⟨46,[(4,.kc (.whole 0)),(8,.kc (.ptr 1 [])),(9,.hv (.int .i64)),(21,.kc (.whole 2)),(22,.hv (.int .i64)),(23,.hv (.int .i64)),(27,.hv (.slice (.arr 32 (.int .u8)))),(28,.hv (.int .i64)),(29,.hv (.int .i64))],[.vec 42 (.int .u32),.mem (.hv (.arr 32 (.int .u8))),.vec 24 (.slice (.arr 32 (.int .u8)))],0⟩
inductive Sp.E_74_2 where
 |e0 (p1 p2:Int) (p3:List (List Int)) (p4 p5:Int) (p6:List Int) (p8:Zt74_0)
noncomputable def Sp.B_74_2{R:Type}(r:Option E_74_2)(k0:Int->Int->List (List Int)->Int->Int->List Int->Zt74_0->Option R):Option R:=match r with
 |none=>none
 |some (.e0 p1 p2 p3 p4 p5 p6 p8)=>k0 p1 p2 p3 p4 p5 p6 p8
theorem Bn_74_2{A R:Type}{r:Option E_74_2}{f:A->Option R}{k0:Int->Int->List (List Int)->Int->Int->List Int->Zt74_0->Option A}{l0:Int->Int->List (List Int)->Int->Int->List Int->Zt74_0->Option R}(h0:∀p1 p2 p3 p4 p5 p6 p8,(k0 p1 p2 p3 p4 p5 p6 p8).bind f=l0 p1 p2 p3 p4 p5 p6 p8):(B_74_2 r k0).bind f=B_74_2 r l0:=by
 cases r with
 |none=>rfl
 |some e=>cases e<;>first|apply h0
noncomputable def Y_74_2{R:Type}(k:Ex->St->Option R):E_74_2->Option R
 | .e0 p1 p2 p3 p4 p5 p6 p8=>k (Ex.exit 4) (sx 46 [(4,CV.whole 0),(21,CV.whole 1),(22,CV.int i64 p1),(23,CV.int i64 p2),(27,CV.pure (Ty.slice (Ty.arr 32 (Ty.int u8))) p3),(28,CV.int i64 p4),(29,CV.int i64 p5)] [Blk.vec 42 (Ty.int u32) p6,Blk.vec 24 (Ty.slice (Ty.arr 32 (Ty.int u8))) p8])
noncomputable def Sp.S_74_2{R:Type}(K:Int->Int->Int->List (List Int)->Int->Int->List Int->List Int->(List (List (List Int)))->Option R)(k:E_74_2->Option R)(p0 p1 p2:Int)(p3:List (List Int))(p4 p5:Int)(p6 p7:List Int)(p8:List (List (List Int))):Option R:=
 bif decide (p0<32)then gd (sl3 p0 32 32) (gd (decide (toNat p0+(32-toNat p0)<=32)&&true&&p_100 (take (32-toNat p0) (drop (toNat p0) p7))) (gd (room (length p6+1) 4) (K (wrap i64 (p0+4)) p1 p2 p3 p4 p5 (p6++[(v_100 (take (32-toNat p0) (drop (toNat p0) p7))).1]) p7 p8)))else k (E_74_2.e0 p1 p2 p3 p4 p5 p6 p8)
noncomputable def Sp.L_74_2:Nat->Int->Int->Int->List (List Int)->Int->Int->List Int->List Int->(List (List (List Int)))->Option E_74_2
 |0,_,_,_,_,_,_,_,_,_=>none
 |m+1,p0,p1,p2,p3,p4,p5,p6,p7,p8=>S_74_2 (L_74_2 m) some p0 p1 p2 p3 p4 p5 p6 p7 p8
noncomputable def l_74_2(m:Nat)(a:T_74_2.E):Option E_74_2:=L_74_2 m a.1 a.2.1 a.2.2.1 a.2.2.2.1 a.2.2.2.2.1 a.2.2.2.2.2.1 a.2.2.2.2.2.2.1 a.2.2.2.2.2.2.2.1 a.2.2.2.2.2.2.2.2.1
noncomputable def O_74_2{R:Type}:Orc R:=orL T_74_2 (l_74_2 FU) Y_74_2
theorem OK_74_2{R:Type}:okF (R:=R) sm_74 0 (ni (ni (nf 74 0) 0) 0) O_74_2:=lp0 T_74_2 l_74_2 (fun R K k a=>S_74_2 (fun p0 p1 p2 p3 p4 p5 p6 p7 p8=>K (p0,p1,p2,p3,p4,p5,p6,p7,p8,())) k a.1 a.2.1 a.2.2.1 a.2.2.2.1 a.2.2.2.2.1 a.2.2.2.2.2.1 a.2.2.2.2.2.2.1 a.2.2.2.2.2.2.2.1 a.2.2.2.2.2.2.2.2.1) Y_74_2 (fun _ _ _=>by kernel_rfl) (fun _ _ _=>by
 unfold S_74_2
 repeat' first|apply gdN|apply condN|rfl) (ok0 _)
noncomputable def T_74_1:PS:=⟨46,[(4,.kc (.whole 0)),(21,.kc (.whole 1)),(22,.hv (.int .i64)),(23,.hv (.int .i64)),(27,.hv (.slice (.arr 32 (.int .u8)))),(28,.hv (.int .i64)),(29,.hv (.int .i64))],[.vec 42 (.int .u32),.vec 24 (.slice (.arr 32 (.int .u8)))],0⟩
inductive Sp.E_74_1 where
 |e0 (p0 p1:Int) (p5:List Int) (p6:Zt74_0)
noncomputable def Sp.B_74_1{R:Type}(r:Option E_74_1)(k0:Int->Int->List Int->Zt74_0->Option R):Option R:=match r with
 |none=>none
 |some (.e0 p0 p1 p5 p6)=>k0 p0 p1 p5 p6
theorem Bn_74_1{A R:Type}{r:Option E_74_1}{f:A->Option R}{k0:Int->Int->List Int->Zt74_0->Option A}{l0:Int->Int->List Int->Zt74_0->Option R}(h0:∀p0 p1 p5 p6,(k0 p0 p1 p5 p6).bind f=l0 p0 p1 p5 p6):(B_74_1 r k0).bind f=B_74_1 r l0:=by
 cases r with
 |none=>rfl
 |some e=>cases e<;>first|apply h0
noncomputable def Y_74_1{R:Type}(k:Ex->St->Option R):E_74_1->Option R
 | .e0 p0 p1 p5 p6=>k (Ex.exit 2) (sx 46 [(4,CV.whole 0),(21,CV.whole 1),(22,CV.int i64 p0),(23,CV.int i64 p1)] [Blk.vec 42 (Ty.int u32) p5,Blk.vec 24 (Ty.slice (Ty.arr 32 (Ty.int u8))) p6])
noncomputable def Sp.S_74_1{R:Type}(K:Int->Int->List (List Int)->Int->Int->List Int->(List (List (List Int)))->Option R)(k:E_74_1->Option R)(p0 p1:Int)(p2:List (List Int))(p3 p4:Int)(p5:List Int)(p6:List (List (List Int))):Option R:=
 bif decide (p4<p3)then gd (inB p4 (length p2)) (B_74_2 (L_74_2 4611686018427387904 0 p0 p1 p2 p3 p4 p5 (getD p2 (toNat p4) (Ty.dflt (Ty.arr 32 (Ty.int u8)))) p6) fun y7 y8 y9 y10 y11 y12 y13=>K y7 y8 y9 y10 (wrap i64 (y11+1)) y12 y13)else k (E_74_1.e0 p0 p1 p5 p6)
noncomputable def Sp.L_74_1:Nat->Int->Int->List (List Int)->Int->Int->List Int->(List (List (List Int)))->Option E_74_1
 |0,_,_,_,_,_,_,_=>none
 |m+1,p0,p1,p2,p3,p4,p5,p6=>S_74_1 (L_74_1 m) some p0 p1 p2 p3 p4 p5 p6
noncomputable def l_74_1(m:Nat)(a:T_74_1.E):Option E_74_1:=L_74_1 m a.1 a.2.1 a.2.2.1 a.2.2.2.1 a.2.2.2.2.1 a.2.2.2.2.2.1 a.2.2.2.2.2.2.1
noncomputable def O_74_1{R:Type}:Orc R:=orL T_74_1 (l_74_1 FU) Y_74_1
theorem OK_74_1{R:Type}:okF (R:=R) sm_74 0 (ni (nf 74 0) 0) O_74_1:=lp noO_ok (os:=[O_74_2]) ⟨OK_74_2,trivial⟩ T_74_1 l_74_1 (fun R K k a=>S_74_1 (fun p0 p1 p2 p3 p4 p5 p6=>K (p0,p1,p2,p3,p4,p5,p6,())) k a.1 a.2.1 a.2.2.1 a.2.2.2.1 a.2.2.2.2.1 a.2.2.2.2.2.1 a.2.2.2.2.2.2.1) Y_74_1 (fun _=>rfl) (fun _ _=>rfl) (fun k K a=>by kernel_rfl) (fun Y K a=>by
 unfold S_74_1
 repeat' first|apply gdN|apply condN|(apply Bn_74_2<;>intros)|rfl) (ok0 _)
noncomputable def T_74_0:PS:=⟨46,[(4,.kc (.whole 0)),(21,.kc (.whole 1)),(22,.hv (.int .i64)),(23,.hv (.int .i64))],[.vec 42 (.int .u32),.vec 24 (.slice (.arr 32 (.int .u8)))],0⟩
inductive Sp.E_74_0 where
 |e0 (p2:List Int)
noncomputable def Sp.B_74_0{R:Type}(r:Option E_74_0)(k0:List Int->Option R):Option R:=match r with
 |none=>none
 |some (.e0 p2)=>k0 p2
noncomputable def Y_74_0{R:Type}(k:Ex->St->Option R):E_74_0->Option R
 | .e0 p2=>k (Ex.exit 0) (sx 46 [(4,CV.whole 0)] [Blk.vec 42 (Ty.int u32) p2])
noncomputable def Sp.S_74_0{R:Type}(K:Int->Int->List Int->(List (List (List Int)))->Option R)(k:E_74_0->Option R)(p0 p1:Int)(p2:List Int)(p3:List (List (List Int))):Option R:=
 bif decide (p1<p0)then gd (inB p1 (length p3)) (gd (decide (toNat p1<length p3)&&true) (B_74_1 (L_74_1 4611686018427387904 p0 p1 (getD p3 (toNat p1) (Ty.dflt (Ty.slice (Ty.arr 32 (Ty.int u8))))) (↑(length (getD p3 (toNat p1) (Ty.dflt (Ty.slice (Ty.arr 32 (Ty.int u8)))))):Int) 0 p2 p3) fun y4 y5 y6 y7=>K y4 (wrap i64 (y5+1)) y6 y7))else k (E_74_0.e0 p2)
noncomputable def Sp.L_74_0:Nat->Int->Int->List Int->(List (List (List Int)))->Option E_74_0
 |0,_,_,_,_=>none
 |m+1,p0,p1,p2,p3=>S_74_0 (L_74_0 m) some p0 p1 p2 p3
noncomputable def l_74_0(m:Nat)(a:T_74_0.E):Option E_74_0:=L_74_0 m a.1 a.2.1 a.2.2.1 a.2.2.2.1
noncomputable def O_74_0{R:Type}:Orc R:=orL T_74_0 (l_74_0 FU) Y_74_0
theorem OK_74_0{R:Type}:okF (R:=R) sm_74 0 (nf 74 0) O_74_0:=lp noO_ok (os:=[O_74_1]) ⟨OK_74_1,trivial⟩ T_74_0 l_74_0 (fun R K k a=>S_74_0 (fun p0 p1 p2 p3=>K (p0,p1,p2,p3,())) k a.1 a.2.1 a.2.2.1 a.2.2.2.1) Y_74_0 (fun _=>rfl) (fun _ _=>rfl) (fun k K a=>by kernel_rfl) (fun Y K a=>by
 unfold S_74_0
 repeat' first|apply gdN|apply condN|(apply Bn_74_1<;>intros)|rfl) (ok0 _)
noncomputable def F_74(a0:(Int×((List (List Int))×((List (List Int))×Unit)))):Option ((List Int)×Int×Unit) :=
 gd (p_85 a0) (bif !(v_85 a0).1 then some ([],1,PUnit.unit)else B_74_0 (L_74_0 4611686018427387904 (↑(2:Nat):Int) 0 [wrap u32 (a0.1)] [a0.2.1,a0.2.2.1]) fun y1=>some (y1,0,PUnit.unit))
noncomputable def Sp.p_74(a0:(Int×((List (List Int))×((List (List Int))×Unit)))):Bool:=(F_74 a0).isSome
noncomputable def Sp.v_74(a0:(Int×((List (List Int))×((List (List Int))×Unit)))):(List Int)×Int×Unit:=(F_74 a0).getD (dfH R_74)
noncomputable def s_74:Summ:=shS A_74 R_74 (fun x=>p_74 x.1) (fun x=>v_74 x.1)
theorem pv_74(a0:(Int×((List (List Int))×((List (List Int))×Unit)))){y:(List Int)×Int×Unit}(h:F_74 a0=some y):p_74 a0=true/\v_74 a0=y:=pvG h
theorem run_74(x:HDen A_74)(y:HDen R_74)(h:F_74 x.1=some y):rnF sm_74 1 74 A_74 R_74 x y:=runG noO_ok (os:=[O_74_0]) ⟨OK_74_0,trivial⟩ (Eq.trans (by kernel_rfl) h)
end
noncomputable section
abbrev A_38:List Ty:=[(.pair (.int .i64) (.pair (.int .i64) (.pair (.arr 32 (.int .u8)) (.pair (.pair (.int .i64) (.pair (.slice (.arr 32 (.int .u8))) (.pair (.slice (.arr 32 (.int .u8))) .unit))) .unit)))),(.int .i64)]
abbrev R_38:List Ty:=[.bool]
noncomputable def sm_38:Nat->Option Summ:=smL [(74,s_74)]
noncomputable def F_38(a0:(Int×(Int×((List Int)×((Int×((List (List Int))×((List (List Int))×Unit)))×Unit)))))(a1:Int):Option (Bool×Unit) :=
 gd (p_74 (a0.2.2.2.1)) (bif decide (a0.1>=1)then bif decide (a0.1<=2147483647)then bif decide (a0.2.1>=1)then bif decide (a0.2.1<=a1)then some ((v_74 (a0.2.2.2.1)).2.1==0,PUnit.unit)else some (false,PUnit.unit)else some (false,PUnit.unit)else some (false,PUnit.unit)else some (false,PUnit.unit))
noncomputable def Sp.p_38(a0:(Int×(Int×((List Int)×((Int×((List (List Int))×((List (List Int))×Unit)))×Unit)))))(a1:Int):Bool:=(F_38 a0 a1).isSome
noncomputable def Sp.v_38(a0:(Int×(Int×((List Int)×((Int×((List (List Int))×((List (List Int))×Unit)))×Unit)))))(a1:Int):Bool×Unit:=(F_38 a0 a1).getD (dfH R_38)
noncomputable def s_38:Summ:=shN A_38 R_38 (fun x=>p_38 x.1 x.2.1) (fun x=>v_38 x.1 x.2.1)
theorem pv_38(a0:(Int×(Int×((List Int)×((Int×((List (List Int))×((List (List Int))×Unit)))×Unit)))))(a1:Int){y:Bool×Unit}(h:F_38 a0 a1=some y):p_38 a0 a1=true/\v_38 a0 a1=y:=pvG h
theorem run_38(x:HDen A_38)(y:HDen R_38)(h:F_38 x.1 x.2.1=some y):rnF sm_38 1 38 A_38 R_38 x y:=runG noO_ok (os:=[]) trivial (Eq.trans (by kernel_rfl) h)
end
noncomputable section
abbrev A_13:List Ty:=[(.pair (.int .i64) (.pair (.int .i64) (.pair (.int .i64) (.pair (.pair (.int .i64) (.pair (.int .i64) (.pair (.arr 32 (.int .u8)) (.pair (.pair (.int .i64) (.pair (.slice (.arr 32 (.int .u8))) (.pair (.slice (.arr 32 (.int .u8))) .unit))) .unit)))) .unit))))]
abbrev R_13:List Ty:=[.bool]
noncomputable def sm_13:Nat->Option Summ:=smL [(37,s_37),(38,s_38)]
noncomputable def T_13_0:PS:=⟨48,[(1,.kc (.ptr 0 []))],[.mem (.hv (.pair (.int .i64) (.pair (.int .i64) (.pair (.int .i64) (.pair (.pair (.int .i64) (.pair (.int .i64) (.pair (.arr 32 (.int .u8)) (.pair (.pair (.int .i64) (.pair (.slice (.arr 32 (.int .u8))) (.pair (.slice (.arr 32 (.int .u8))) .unit))) .unit)))) .unit)))))],0⟩
inductive Sp.E_13_0 where
 |e0 (p0:Int×Int×Int×(Int×Int×List Int×(Int×List (List Int)×List (List Int)×Unit)×Unit)×Unit)
 |e1
 |e2 (p0:Int×Int×Int×(Int×Int×List Int×(Int×List (List Int)×List (List Int)×Unit)×Unit)×Unit)
noncomputable def Sp.B_13_0{R:Type}(r:Option E_13_0)(k0:(Int×Int×Int×(Int×Int×List Int×(Int×List (List Int)×List (List Int)×Unit)×Unit)×Unit)->Option R)(k1:Option R)(k2:(Int×Int×Int×(Int×Int×List Int×(Int×List (List Int)×List (List Int)×Unit)×Unit)×Unit)->Option R):Option R:=match r with
 |none=>none
 |some (.e0 p0)=>k0 p0
 |some (.e1)=>k1
 |some (.e2 p0)=>k2 p0
noncomputable def Y_13_0{R:Type}(k:Ex->St->Option R):E_13_0->Option R
 | .e0 p0=>k Ex.ret (sx 48 [(2,CV.bool (Int.tmod (p0.2.2.1) (32:Int)==(0:Int)))] [])
 | .e1=>k Ex.ret (sx 48 [(2,CV.bool false)] [])
 | .e2 p0=>k Ex.ret (sx 48 [(2,CV.bool (p0.2.2.1==p0.2.2.2.1.2.1))] [])
noncomputable def Sp.S_13_0{R:Type}(k:E_13_0->Option R)(p0:Int×Int×Int×(Int×Int×List Int×(Int×List (List Int)×List (List Int)×Unit)×Unit)×Unit):Option R:=
 bif p0.1==1 then bif decide (p0.2.2.1>=0)then bif decide (p0.2.2.1<p0.2.2.2.1.2.1)then k (E_13_0.e0 p0)else k (E_13_0.e1)else k (E_13_0.e1)else bif p0.1==2 then k (E_13_0.e2 p0)else k (E_13_0.e1)
noncomputable def Sp.J_13_0(p0:Int×Int×Int×(Int×Int×List Int×(Int×List (List Int)×List (List Int)×Unit)×Unit)×Unit):Option E_13_0:=S_13_0 some p0
noncomputable def O_13_0{R:Type}:Orc R:=orL T_13_0 (fun a=>J_13_0 a.1) Y_13_0
theorem OK_13_0{R:Type}:okF (R:=R) sm_13 0 (nf 13 0) O_13_0:=jp noO_ok (os:=[]) trivial T_13_0 (fun R k a=>S_13_0 k a.1) Y_13_0 (fun k a=>by kernel_rfl) (fun Y a=>by
 unfold S_13_0
 repeat' first|apply gdN|apply condN|rfl) (ok0 _)
noncomputable def F_13(a0:(Int×(Int×(Int×((Int×(Int×((List Int)×((Int×((List (List Int))×((List (List Int))×Unit)))×Unit))))×Unit))))):Option (Bool×Unit) :=
 gd (p_37 a0) (bif(v_37 a0).1 then some (true,PUnit.unit)else bif a0.2.1 !=0 then bif a0.2.1 !=1 then some (false,PUnit.unit)else gd (p_38 (a0.2.2.2.1) 1484) (bif !(v_38 (a0.2.2.2.1) 1484).1 then some (false,PUnit.unit)else B_13_0 (J_13_0 a0) (fun y4=>some (Int.tmod (y4.2.2.1) (32:Int)==(0:Int),PUnit.unit)) (some (false,PUnit.unit)) fun y5=>some (y5.2.2.1==y5.2.2.2.1.2.1,PUnit.unit))else gd (p_38 (a0.2.2.2.1) 1484) (bif !(v_38 (a0.2.2.2.1) 1484).1 then some (false,PUnit.unit)else B_13_0 (J_13_0 a0) (fun y6=>some (Int.tmod (y6.2.2.1) (32:Int)==(0:Int),PUnit.unit)) (some (false,PUnit.unit)) fun y7=>some (y7.2.2.1==y7.2.2.2.1.2.1,PUnit.unit)))
noncomputable def Sp.p_13(a0:(Int×(Int×(Int×((Int×(Int×((List Int)×((Int×((List (List Int))×((List (List Int))×Unit)))×Unit))))×Unit))))):Bool:=(F_13 a0).isSome
noncomputable def Sp.v_13(a0:(Int×(Int×(Int×((Int×(Int×((List Int)×((Int×((List (List Int))×((List (List Int))×Unit)))×Unit))))×Unit))))):Bool×Unit:=(F_13 a0).getD (dfH R_13)
noncomputable def s_13:Summ:=shN A_13 R_13 (fun x=>p_13 x.1) (fun x=>v_13 x.1)
theorem pv_13(a0:(Int×(Int×(Int×((Int×(Int×((List Int)×((Int×((List (List Int))×((List (List Int))×Unit)))×Unit))))×Unit))))){y:Bool×Unit}(h:F_13 a0=some y):p_13 a0=true/\v_13 a0=y:=pvG h
theorem run_13(x:HDen A_13)(y:HDen R_13)(h:F_13 x.1=some y):rnF sm_13 1 13 A_13 R_13 x y:=runG noO_ok (os:=[O_13_0]) ⟨OK_13_0,trivial⟩ (Eq.trans (by kernel_rfl) h)
end
noncomputable section
abbrev A_69:List Ty:=[(.pair (.slice (.int .u32)) (.pair (.slice (.int .i64)) (.pair (.int .i64) .unit)))]
abbrev R_69:List Ty:=[.bool]
noncomputable def sm_69:Nat->Option Summ:=smL []
noncomputable def T_69_114_0_0:PS:=⟨19,[(0,.hv (.slice (.int .i64))),(1,.kc (.clo 96 (.pair (.ptr 0 []) (.pure .unit PUnit.unit)))),(7,.hv (.int .i64)),(8,.hv (.int .i64))],[.mem (.hv (.pair (.slice (.int .u32)) (.pair (.slice (.int .i64)) (.pair (.int .i64) .unit))))],1⟩
inductive Sp.E_69_114_0_0 where
 |e0 (p2:Int) (p3:List Int×List Int×Int×Unit)
 |e1 (p3:List Int×List Int×Int×Unit)
noncomputable def Sp.B_69_114_0_0{R:Type}(r:Option E_69_114_0_0)(k0:Int->(List Int×List Int×Int×Unit)->Option R)(k1:(List Int×List Int×Int×Unit)->Option R):Option R:=match r with
 |none=>none
 |some (.e0 p2 p3)=>k0 p2 p3
 |some (.e1 p3)=>k1 p3
noncomputable def Y_69_114_0_0{R:Type}(k:Ex->St->Option R):E_69_114_0_0->Option R
 | .e0 p2 p3=>k Ex.ret (sx 19 [(4,CV.int i64 p2)] [Blk.mem (CV.pure (Ty.pair (Ty.slice (Ty.int u32)) (Ty.pair (Ty.slice (Ty.int i64)) (Ty.pair (Ty.int i64) Ty.unit))) p3)] 1)
 | .e1 p3=>k (Ex.exit 0) (sx 19 [] [Blk.mem (CV.pure (Ty.pair (Ty.slice (Ty.int u32)) (Ty.pair (Ty.slice (Ty.int i64)) (Ty.pair (Ty.int i64) Ty.unit))) p3)] 1)
noncomputable def Sp.S_69_114_0_0{R:Type}(K:List Int->Int->Int->(List Int×List Int×Int×Unit)->Option R)(k:E_69_114_0_0->Option R)(p0:List Int)(p1 p2:Int)(p3:List Int×List Int×Int×Unit):Option R:=
 bif decide (p2<p1)then gd (inB p2 (length p0)) (bif decide (getD p0 (toNat p2) (0:Int)<(0:Int))then k (E_69_114_0_0.e0 p2 p3)else bif decide (getD p0 (toNat p2) 0>p3.2.2.1)then k (E_69_114_0_0.e0 p2 p3)else K p0 p1 (wrap i64 (p2+1)) p3)else k (E_69_114_0_0.e1 p3)
noncomputable def Sp.L_69_114_0_0:Nat->List Int->Int->Int->(List Int×List Int×Int×Unit)->Option E_69_114_0_0
 |0,_,_,_,_=>none
 |m+1,p0,p1,p2,p3=>S_69_114_0_0 (L_69_114_0_0 m) some p0 p1 p2 p3
noncomputable def l_69_114_0_0(m:Nat)(a:T_69_114_0_0.E):Option E_69_114_0_0:=L_69_114_0_0 m a.1 a.2.1 a.2.2.1 a.2.2.2.1
noncomputable def O_69_114_0_0{R:Type}:Orc R:=orL T_69_114_0_0 (l_69_114_0_0 FU) Y_69_114_0_0
theorem OK_69_114_0_0{R:Type}:okF (R:=R) sm_69 2 (nf 114 0) O_69_114_0_0:=lp0 T_69_114_0_0 l_69_114_0_0 (fun R K k a=>S_69_114_0_0 (fun p0 p1 p2 p3=>K (p0,p1,p2,p3,())) k a.1 a.2.1 a.2.2.1 a.2.2.2.1) Y_69_114_0_0 (fun _ _ _=>by kernel_rfl) (fun _ _ _=>by
 unfold S_69_114_0_0
 repeat' first|apply gdN|apply condN|rfl) (ok0 _)
noncomputable def g_69_114{R:Type}:List CV->List Blk->(CV->List Blk->Option R)->Option R:=evFnL sm_69 FU (ovr noO (evFn sm_69 fns FU 2)) (mkT (fB fns 114) [O_69_114_0_0]) (fO fns 114)
theorem g_69_114_ok{R:Type}(args:List CV)(hp:List Blk)(k:CV->List Blk->Option R)(r:R)(h:g_69_114 args hp k=some r):evFn sm_69 fns FU 3 114 args hp k=some r:=runG noO_ok (os:=[O_69_114_0_0]) ⟨OK_69_114_0_0,trivial⟩ h
noncomputable def ov_69_95{R:Type}:Nat->Option (List CV->List Blk->(CV->List Blk->Option R)->Option R):=fun f'=>bif Nat.beq f' 114 then some g_69_114 else none
theorem ov_69_95_ok{R:Type}:OvrOK (R:=R) ov_69_95 (evFn sm_69 fns FU 3):=by
 intro f' g h args hp k r hg
 dsimp only[ov_69_95]at h
 by_cases h114:f'=114
 ·subst h114
  injection h with h
  subst h
  exact evFn_le 0 (g_69_114_ok _ _ _ _ hg)
 rw[nbeq_ne h114,cond_false]at h
 cases h
noncomputable def g_69_95{R:Type}:List CV->List Blk->(CV->List Blk->Option R)->Option R:=evFnL sm_69 FU (ovr ov_69_95 (evFn sm_69 fns FU 3)) (mkT (fB fns 95) []) (fO fns 95)
theorem g_69_95_ok{R:Type}(args:List CV)(hp:List Blk)(k:CV->List Blk->Option R)(r:R)(h:g_69_95 args hp k=some r):evFn sm_69 fns FU 4 95 args hp k=some r:=runG ov_69_95_ok (os:=[]) trivial h
noncomputable def ov_69_69{R:Type}:Nat->Option (List CV->List Blk->(CV->List Blk->Option R)->Option R):=fun f'=>bif Nat.beq f' 95 then some g_69_95 else none
theorem ov_69_69_ok{R:Type}:OvrOK (R:=R) ov_69_69 (evFn sm_69 fns FU 4):=by
 intro f' g h args hp k r hg
 dsimp only[ov_69_69]at h
 by_cases h95:f'=95
 ·subst h95
  injection h with h
  subst h
  exact evFn_le 0 (g_69_95_ok _ _ _ _ hg)
 rw[nbeq_ne h95,cond_false]at h
 cases h
noncomputable def F_69(a0:((List Int)×((List Int)×(Int×Unit)))):Option (Bool×Unit) :=
 bif decide ((↑(length (a0.2.1)):Int)<1)then some (false,PUnit.unit)else bif decide ((↑(length (a0.2.1)):Int)>64)then some (false,PUnit.unit)else bif(↑(length (a0.1)):Int)!=wrap i64 ((↑(length (a0.2.1)):Int)*64)then some (false,PUnit.unit)else bif decide (a0.2.2.1<1)then some (false,PUnit.unit)else bif decide (a0.2.2.1>1000000)then some (false,PUnit.unit)else B_69_114_0_0 (L_69_114_0_0 4611686018427387904 (a0.2.1) (↑(length (a0.2.1)):Int) 0 a0) (fun y23 y24=>some (!decide (y23>=0),PUnit.unit)) fun y25=>some (true,PUnit.unit)
noncomputable def Sp.p_69(a0:((List Int)×((List Int)×(Int×Unit)))):Bool:=(F_69 a0).isSome
noncomputable def Sp.v_69(a0:((List Int)×((List Int)×(Int×Unit)))):Bool×Unit:=(F_69 a0).getD (dfH R_69)
noncomputable def s_69:Summ:=shN A_69 R_69 (fun x=>p_69 x.1) (fun x=>v_69 x.1)
theorem pv_69(a0:((List Int)×((List Int)×(Int×Unit)))){y:Bool×Unit}(h:F_69 a0=some y):p_69 a0=true/\v_69 a0=y:=pvG h
theorem run_69(x:HDen A_69)(y:HDen R_69)(h:F_69 x.1=some y):rnF sm_69 5 69 A_69 R_69 x y:=runG ov_69_69_ok (os:=[]) trivial (Eq.trans (by kernel_rfl) h)
end
noncomputable section
abbrev A_70:List Ty:=[(.int .i64)]
abbrev R_70:List Ty:=[.bool]
noncomputable def sm_70:Nat->Option Summ:=smL []
noncomputable def F_70(a0:Int):Option (Bool×Unit) :=
 bif Int.tmod a0 (2:Int)==(0:Int)then bif decide (a0>=18)then some (decide (a0<=64),PUnit.unit)else some (false,PUnit.unit)else some (false,PUnit.unit)
noncomputable def Sp.p_70(a0:Int):Bool:=(F_70 a0).isSome
noncomputable def Sp.v_70(a0:Int):Bool×Unit:=(F_70 a0).getD (dfH R_70)
noncomputable def s_70:Summ:=shN A_70 R_70 (fun x=>p_70 x.1) (fun x=>v_70 x.1)
theorem pv_70(a0:Int){y:Bool×Unit}(h:F_70 a0=some y):p_70 a0=true/\v_70 a0=y:=pvG h
theorem run_70(x:HDen A_70)(y:HDen R_70)(h:F_70 x.1=some y):rnF sm_70 1 70 A_70 R_70 x y:=runG noO_ok (os:=[]) trivial (Eq.trans (by kernel_rfl) h)
end
noncomputable section
abbrev A_33:List Ty:=[(.pair (.pair (.slice (.int .u32)) (.pair (.slice (.int .i64)) (.pair (.int .i64) .unit))) (.pair (.arr 32 (.int .u8)) .unit))]
abbrev R_33:List Ty:=[.bool]
noncomputable def sm_33:Nat->Option Summ:=smL [(69,s_69),(70,s_70)]
noncomputable def F_33(a0:(((List Int)×((List Int)×(Int×Unit)))×((List Int)×Unit))):Option (Bool×Unit) :=
 gd (p_69 (a0.1)) (bif(v_69 (a0.1)).1 then gd (p_70 (↑(length (a0.1.2.1)):Int)) (some ((v_70 (↑(length (a0.1.2.1)):Int)).1,PUnit.unit))else some (false,PUnit.unit))
noncomputable def Sp.p_33(a0:(((List Int)×((List Int)×(Int×Unit)))×((List Int)×Unit))):Bool:=(F_33 a0).isSome
noncomputable def Sp.v_33(a0:(((List Int)×((List Int)×(Int×Unit)))×((List Int)×Unit))):Bool×Unit:=(F_33 a0).getD (dfH R_33)
noncomputable def s_33:Summ:=shN A_33 R_33 (fun x=>p_33 x.1) (fun x=>v_33 x.1)
theorem pv_33(a0:(((List Int)×((List Int)×(Int×Unit)))×((List Int)×Unit))){y:Bool×Unit}(h:F_33 a0=some y):p_33 a0=true/\v_33 a0=y:=pvG h
theorem run_33(x:HDen A_33)(y:HDen R_33)(h:F_33 x.1=some y):rnF sm_33 1 33 A_33 R_33 x y:=runG noO_ok (os:=[]) trivial (Eq.trans (by kernel_rfl) h)
end
noncomputable section
abbrev A_84:List Ty:=[(.pair (.pair (.slice (.int .u32)) (.pair (.slice (.int .i64)) (.pair (.int .i64) .unit))) (.pair (.arr 32 (.int .u8)) .unit)),(.int .i64)]
abbrev R_84:List Ty:=[(.slice (.int .u32))]
noncomputable def sm_84:Nat->Option Summ:=smL []
noncomputable def F_84(a0:(((List Int)×((List Int)×(Int×Unit)))×((List Int)×Unit)))(a1:Int):Option ((List Int)×Unit) :=
 gd (sl3 (wrap i64 (a1*wrap i64 (Int.tdiv (↑(length (a0.1.1)):Int) 2))) (wrap i64 (wrap i64 (a1+1)*wrap i64 (Int.tdiv (↑(length (a0.1.1)):Int) 2))) (↑(length (a0.1.1)):Int)) (some (take (toNat (wrap i64 (wrap i64 (a1+1)*wrap i64 (Int.tdiv (↑(length (a0.1.1)):Int) 2)))-toNat (wrap i64 (a1*wrap i64 (Int.tdiv (↑(length (a0.1.1)):Int) 2)))) (drop (toNat (wrap i64 (a1*wrap i64 (Int.tdiv (↑(length (a0.1.1)):Int) 2)))) (a0.1.1)),PUnit.unit))
noncomputable def Sp.p_84(a0:(((List Int)×((List Int)×(Int×Unit)))×((List Int)×Unit)))(a1:Int):Bool:=(F_84 a0 a1).isSome
noncomputable def Sp.v_84(a0:(((List Int)×((List Int)×(Int×Unit)))×((List Int)×Unit)))(a1:Int):(List Int)×Unit:=(F_84 a0 a1).getD (dfH R_84)
noncomputable def s_84:Summ:=shS A_84 R_84 (fun x=>p_84 x.1 x.2.1) (fun x=>v_84 x.1 x.2.1)
theorem pv_84(a0:(((List Int)×((List Int)×(Int×Unit)))×((List Int)×Unit)))(a1:Int){y:(List Int)×Unit}(h:F_84 a0 a1=some y):p_84 a0 a1=true/\v_84 a0 a1=y:=pvG h
theorem run_84(x:HDen A_84)(y:HDen R_84)(h:F_84 x.1 x.2.1=some y):rnF sm_84 1 84 A_84 R_84 x y:=runG noO_ok (os:=[]) trivial (Eq.trans (by kernel_rfl) h)
end
noncomputable section
abbrev A_97:List Ty:=[(.int .i64)]
abbrev R_97:List Ty:=[.bool]
noncomputable def sm_97:Nat->Option Summ:=smL []
noncomputable def F_97(a0:Int):Option (Bool×Unit) :=
 bif a0==0 then some (true,PUnit.unit)else some (a0==1,PUnit.unit)
noncomputable def Sp.p_97(a0:Int):Bool:=(F_97 a0).isSome
noncomputable def Sp.v_97(a0:Int):Bool×Unit:=(F_97 a0).getD (dfH R_97)
noncomputable def s_97:Summ:=shN A_97 R_97 (fun x=>p_97 x.1) (fun x=>v_97 x.1)
theorem pv_97(a0:Int){y:Bool×Unit}(h:F_97 a0=some y):p_97 a0=true/\v_97 a0=y:=pvG h
theorem run_97(x:HDen A_97)(y:HDen R_97)(h:F_97 x.1=some y):rnF sm_97 1 97 A_97 R_97 x y:=runG noO_ok (os:=[]) trivial (Eq.trans (by kernel_rfl) h)
end
noncomputable section
abbrev A_116:List Ty:=[(.slice (.int .u32))]
abbrev R_116:List Ty:=[(.slice (.int .u8))]
noncomputable def sm_116:Nat->Option Summ:=smL []
noncomputable def T_116_0:PS:=⟨28,[(3,.kc (.whole 0)),(6,.hv (.slice (.int .u32))),(7,.hv (.int .i64)),(8,.hv (.int .i64))],[.vec 5 (.int .u8)],0⟩
inductive Sp.E_116_0 where
 |e0 (p3:List Int)
noncomputable def Sp.B_116_0{R:Type}(r:Option E_116_0)(k0:List Int->Option R):Option R:=match r with
 |none=>none
 |some (.e0 p3)=>k0 p3
noncomputable def Y_116_0{R:Type}(k:Ex->St->Option R):E_116_0->Option R
 | .e0 p3=>k (Ex.exit 0) (sx 28 [(3,CV.whole 0)] [Blk.vec 5 (Ty.int u8) p3])
noncomputable def Sp.S_116_0{R:Type}(K:List Int->Int->Int->List Int->Option R)(k:E_116_0->Option R)(p0:List Int)(p1 p2:Int)(p3:List Int):Option R:=
 bif decide (p2<p1)then gd (inB p2 (length p0)) (gd (room (length p3+4) 1) (K p0 p1 (wrap i64 (p2+1)) (p3++[wrap u8 (Int.fdiv (getD p0 (toNat p2) 0) 16777216),wrap u8 (Int.fdiv (getD p0 (toNat p2) 0) 65536),wrap u8 (Int.fdiv (getD p0 (toNat p2) 0) 256),wrap u8 (getD p0 (toNat p2) 0)])))else k (E_116_0.e0 p3)
noncomputable def Sp.L_116_0:Nat->List Int->Int->Int->List Int->Option E_116_0
 |0,_,_,_,_=>none
 |m+1,p0,p1,p2,p3=>S_116_0 (L_116_0 m) some p0 p1 p2 p3
noncomputable def l_116_0(m:Nat)(a:T_116_0.E):Option E_116_0:=L_116_0 m a.1 a.2.1 a.2.2.1 a.2.2.2.1
noncomputable def O_116_0{R:Type}:Orc R:=orL T_116_0 (l_116_0 FU) Y_116_0
theorem OK_116_0{R:Type}:okF (R:=R) sm_116 0 (nf 116 0) O_116_0:=lp0 T_116_0 l_116_0 (fun R K k a=>S_116_0 (fun p0 p1 p2 p3=>K (p0,p1,p2,p3,())) k a.1 a.2.1 a.2.2.1 a.2.2.2.1) Y_116_0 (fun _ _ _=>by kernel_rfl) (fun _ _ _=>by
 unfold S_116_0
 repeat' first|apply gdN|apply condN|rfl) (ok0 _)
noncomputable def F_116(a0:(List Int)):Option ((List Int)×Unit) :=
 B_116_0 (L_116_0 4611686018427387904 a0 (↑(length a0):Int) 0 []) fun y1=>some (y1,PUnit.unit)
noncomputable def Sp.p_116(a0:(List Int)):Bool:=(F_116 a0).isSome
noncomputable def Sp.v_116(a0:(List Int)):(List Int)×Unit:=(F_116 a0).getD (dfH R_116)
noncomputable def s_116:Summ:=shS A_116 R_116 (fun x=>p_116 x.1) (fun x=>v_116 x.1)
theorem pv_116(a0:(List Int)){y:(List Int)×Unit}(h:F_116 a0=some y):p_116 a0=true/\v_116 a0=y:=pvG h
theorem run_116(x:HDen A_116)(y:HDen R_116)(h:F_116 x.1=some y):rnF sm_116 1 116 A_116 R_116 x y:=runG noO_ok (os:=[O_116_0]) ⟨OK_116_0,trivial⟩ (Eq.trans (by kernel_rfl) h)
end
noncomputable section
abbrev Zt117_0:Type:=List (List Int)
abbrev A_117:List Ty:=[(.slice (.int .u32))]
abbrev R_117:List Ty:=[(.pair (.int .i64) (.pair (.slice (.arr 32 (.int .u8))) (.pair (.slice (.arr 32 (.int .u8))) .unit))),(.int .i64)]
noncomputable def sm_117:Nat->Option Summ:=smL []
noncomputable def T_117_1:PS:=⟨58,[(0,.hv (.slice (.int .u32))),(2,.kc (.ptr 0 [])),(4,.kc (.ptr 3 [])),(5,.hv (.int .i64)),(6,.kc (.ptr 6 [])),(23,.hv (.int .i64)),(26,.hv (.int .i64))],[.mem (.pr (.hv (.int .i64)) (.kc (.pair (.whole 1) (.pair (.whole 2) (.pure .unit PUnit.unit))))),.vec 23 (.arr 32 (.int .u8)),.vec 23 (.arr 32 (.int .u8)),.mem (.pr (.hv (.int .i64)) (.kc (.pair (.whole 4) (.pair (.whole 5) (.pure .unit PUnit.unit))))),.vec 23 (.arr 32 (.int .u8)),.vec 23 (.arr 32 (.int .u8)),.mem (.hv (.arr 32 (.int .u8)))],0⟩
inductive Sp.E_117_1 where
 |e0 (p0:List Int) (p1 p2 p4:Int) (p5 p6:Zt117_0) (p7:Int) (p8 p9:Zt117_0) (p10:List Int)
noncomputable def Sp.B_117_1{R:Type}(r:Option E_117_1)(k0:List Int->Int->Int->Int->Zt117_0->Zt117_0->Int->Zt117_0->Zt117_0->List Int->Option R):Option R:=match r with
 |none=>none
 |some (.e0 p0 p1 p2 p4 p5 p6 p7 p8 p9 p10)=>k0 p0 p1 p2 p4 p5 p6 p7 p8 p9 p10
theorem Bn_117_1{A R:Type}{r:Option E_117_1}{f:A->Option R}{k0:List Int->Int->Int->Int->Zt117_0->Zt117_0->Int->Zt117_0->Zt117_0->List Int->Option A}{l0:List Int->Int->Int->Int->Zt117_0->Zt117_0->Int->Zt117_0->Zt117_0->List Int->Option R}(h0:∀p0 p1 p2 p4 p5 p6 p7 p8 p9 p10,(k0 p0 p1 p2 p4 p5 p6 p7 p8 p9 p10).bind f=l0 p0 p1 p2 p4 p5 p6 p7 p8 p9 p10):(B_117_1 r k0).bind f=B_117_1 r l0:=by
 cases r with
 |none=>rfl
 |some e=>cases e<;>first|apply h0
noncomputable def Y_117_1{R:Type}(k:Ex->St->Option R):E_117_1->Option R
 | .e0 p0 p1 p2 p4 p5 p6 p7 p8 p9 p10=>k (Ex.exit 2) (sx 58 [(0,CV.pure (Ty.slice (Ty.int u32)) p0),(2,CV.ptr 0 []),(4,CV.ptr 3 []),(5,CV.int i64 p1),(6,CV.ptr 6 []),(23,CV.int i64 p2)] [Blk.mem (CV.pair (CV.int i64 p4) (CV.pair (CV.whole 1) (CV.pair (CV.whole 2) (CV.pure Ty.unit PUnit.unit)))),Blk.vec 23 (Ty.arr 32 (Ty.int u8)) p5,Blk.vec 23 (Ty.arr 32 (Ty.int u8)) p6,Blk.mem (CV.pair (CV.int i64 p7) (CV.pair (CV.whole 4) (CV.pair (CV.whole 5) (CV.pure Ty.unit PUnit.unit)))),Blk.vec 23 (Ty.arr 32 (Ty.int u8)) p8,Blk.vec 23 (Ty.arr 32 (Ty.int u8)) p9,Blk.mem (CV.pure (Ty.arr 32 (Ty.int u8)) p10)])
noncomputable def Sp.S_117_1{R:Type}(K:List Int->Int->Int->Int->Int->List (List Int)->List (List Int)->Int->List (List Int)->List (List Int)->List Int->Option R)(k:E_117_1->Option R)(p0:List Int)(p1 p2 p3 p4:Int)(p5 p6:List (List Int))(p7:Int)(p8 p9:List (List Int))(p10:List Int):Option R:=
 bif decide (p3<8)then gd (sl3 (wrap i64 (4*p3)) 32 32) (gd (inB (wrap i64 (wrap i64 (1+wrap i64 (8*p1))+p3)) (length p0)) (gd (inB 0 (32-toNat (wrap i64 (4*p3)))) (gd (decide (toNat (wrap i64 (4*p3))+(0:Nat)<(32:Nat))&&true) (gd (inB 1 (32-toNat (wrap i64 (4*p3)))) (gd (decide (toNat (wrap i64 (4*p3))+(1:Nat)<(32:Nat))&&true) (gd (inB 2 (32-toNat (wrap i64 (4*p3)))) (gd (decide (toNat (wrap i64 (4*p3))+(2:Nat)<(32:Nat))&&true) (gd (inB 3 (32-toNat (wrap i64 (4*p3)))) (gd (decide (toNat (wrap i64 (4*p3))+(3:Nat)<(32:Nat))&&true) (K p0 p1 p2 (wrap i64 (p3+1)) p4 p5 p6 p7 p8 p9 (List.set (List.set (List.set (List.set p10 (toNat (wrap i64 (4*p3))+0) (wrap u8 (Int.fdiv (getD p0 (toNat (wrap i64 (wrap i64 (1+wrap i64 (8*p1))+p3))) 0) 16777216))) (toNat (wrap i64 (4*p3))+1) (wrap u8 (Int.fdiv (getD p0 (toNat (wrap i64 (wrap i64 (1+wrap i64 (8*p1))+p3))) 0) 65536))) (toNat (wrap i64 (4*p3))+2) (wrap u8 (Int.fdiv (getD p0 (toNat (wrap i64 (wrap i64 (1+wrap i64 (8*p1))+p3))) 0) 256))) (toNat (wrap i64 (4*p3))+3) (wrap u8 (getD p0 (toNat (wrap i64 (wrap i64 (1+wrap i64 (8*p1))+p3))) 0)))))))))))))else k (E_117_1.e0 p0 p1 p2 p4 p5 p6 p7 p8 p9 p10)
noncomputable def Sp.L_117_1:Nat->List Int->Int->Int->Int->Int->List (List Int)->List (List Int)->Int->List (List Int)->List (List Int)->List Int->Option E_117_1
 |0,_,_,_,_,_,_,_,_,_,_,_=>none
 |m+1,p0,p1,p2,p3,p4,p5,p6,p7,p8,p9,p10=>S_117_1 (L_117_1 m) some p0 p1 p2 p3 p4 p5 p6 p7 p8 p9 p10
noncomputable def l_117_1(m:Nat)(a:T_117_1.E):Option E_117_1:=L_117_1 m a.1 a.2.1 a.2.2.1 a.2.2.2.1 a.2.2.2.2.1 a.2.2.2.2.2.1 a.2.2.2.2.2.2.1 a.2.2.2.2.2.2.2.1 a.2.2.2.2.2.2.2.2.1 a.2.2.2.2.2.2.2.2.2.1 a.2.2.2.2.2.2.2.2.2.2.1
noncomputable def O_117_1{R:Type}:Orc R:=orL T_117_1 (l_117_1 FU) Y_117_1
theorem OK_117_1{R:Type}:okF (R:=R) sm_117 1 (ni (nf 117 0) 0) O_117_1:=lp0 T_117_1 l_117_1 (fun R K k a=>S_117_1 (fun p0 p1 p2 p3 p4 p5 p6 p7 p8 p9 p10=>K (p0,p1,p2,p3,p4,p5,p6,p7,p8,p9,p10,())) k a.1 a.2.1 a.2.2.1 a.2.2.2.1 a.2.2.2.2.1 a.2.2.2.2.2.1 a.2.2.2.2.2.2.1 a.2.2.2.2.2.2.2.1 a.2.2.2.2.2.2.2.2.1 a.2.2.2.2.2.2.2.2.2.1 a.2.2.2.2.2.2.2.2.2.2.1) Y_117_1 (fun _ _ _=>by kernel_rfl) (fun _ _ _=>by
 unfold S_117_1
 repeat' first|apply gdN|apply condN|rfl) (ok0 _)
noncomputable def T_117_0:PS:=⟨58,[(0,.hv (.slice (.int .u32))),(2,.kc (.ptr 0 [])),(4,.kc (.ptr 3 [])),(23,.hv (.int .i64))],[.mem (.pr (.hv (.int .i64)) (.kc (.pair (.whole 1) (.pair (.whole 2) (.pure .unit PUnit.unit))))),.vec 23 (.arr 32 (.int .u8)),.vec 23 (.arr 32 (.int .u8)),.mem (.pr (.hv (.int .i64)) (.kc (.pair (.whole 4) (.pair (.whole 5) (.pure .unit PUnit.unit))))),.vec 23 (.arr 32 (.int .u8)),.vec 23 (.arr 32 (.int .u8))],0⟩
inductive Sp.E_117_0 where
 |e0 (p2:Int) (p3 p4:Zt117_0) (p5:Int) (p6 p7:Zt117_0)
noncomputable def Sp.B_117_0{R:Type}(r:Option E_117_0)(k0:Int->Zt117_0->Zt117_0->Int->Zt117_0->Zt117_0->Option R):Option R:=match r with
 |none=>none
 |some (.e0 p2 p3 p4 p5 p6 p7)=>k0 p2 p3 p4 p5 p6 p7
noncomputable def Y_117_0{R:Type}(k:Ex->St->Option R):E_117_0->Option R
 | .e0 p2 p3 p4 p5 p6 p7=>k (Ex.exit 0) (sx 58 [(2,CV.ptr 0 []),(4,CV.ptr 3 [])] [Blk.mem (CV.pair (CV.int i64 p2) (CV.pair (CV.whole 1) (CV.pair (CV.whole 2) (CV.pure Ty.unit PUnit.unit)))),Blk.vec 23 (Ty.arr 32 (Ty.int u8)) p3,Blk.vec 23 (Ty.arr 32 (Ty.int u8)) p4,Blk.mem (CV.pair (CV.int i64 p5) (CV.pair (CV.whole 4) (CV.pair (CV.whole 5) (CV.pure Ty.unit PUnit.unit)))),Blk.vec 23 (Ty.arr 32 (Ty.int u8)) p6,Blk.vec 23 (Ty.arr 32 (Ty.int u8)) p7])
noncomputable def Sp.S_117_0{R:Type}(K:List Int->Int->Int->List (List Int)->List (List Int)->Int->List (List Int)->List (List Int)->Option R)(k:E_117_0->Option R)(p0:List Int)(p1 p2:Int)(p3 p4:List (List Int))(p5:Int)(p6 p7:List (List Int)):Option R:=
 bif decide (p1<69)then B_117_1 (L_117_1 4611686018427387904 p0 p1 p1 0 p2 p3 p4 p5 p6 p7 (replicate 32 (0:Int))) fun y10 y11 y12 y13 y14 y15 y16 y17 y18 y19=>bif decide (y11<67)then gd (room (length y17+1) 32) (K y10 (wrap i64 (y12+1)) y13 y14 y15 y16 (y17++[y19]) y18)else gd (room (length y18+1) 32) (K y10 (wrap i64 (y12+1)) y13 y14 y15 y16 y17 (y18++[y19]))else k (E_117_0.e0 p2 p3 p4 p5 p6 p7)
noncomputable def Sp.L_117_0:Nat->List Int->Int->Int->List (List Int)->List (List Int)->Int->List (List Int)->List (List Int)->Option E_117_0
 |0,_,_,_,_,_,_,_,_=>none
 |m+1,p0,p1,p2,p3,p4,p5,p6,p7=>S_117_0 (L_117_0 m) some p0 p1 p2 p3 p4 p5 p6 p7
noncomputable def l_117_0(m:Nat)(a:T_117_0.E):Option E_117_0:=L_117_0 m a.1 a.2.1 a.2.2.1 a.2.2.2.1 a.2.2.2.2.1 a.2.2.2.2.2.1 a.2.2.2.2.2.2.1 a.2.2.2.2.2.2.2.1
noncomputable def O_117_0{R:Type}:Orc R:=orL T_117_0 (l_117_0 FU) Y_117_0
theorem OK_117_0{R:Type}:okF (R:=R) sm_117 1 (nf 117 0) O_117_0:=lp noO_ok (os:=[O_117_1]) ⟨OK_117_1,trivial⟩ T_117_0 l_117_0 (fun R K k a=>S_117_0 (fun p0 p1 p2 p3 p4 p5 p6 p7=>K (p0,p1,p2,p3,p4,p5,p6,p7,())) k a.1 a.2.1 a.2.2.1 a.2.2.2.1 a.2.2.2.2.1 a.2.2.2.2.2.1 a.2.2.2.2.2.2.1 a.2.2.2.2.2.2.2.1) Y_117_0 (fun _=>rfl) (fun _ _=>rfl) (fun k K a=>by kernel_rfl) (fun Y K a=>by
 unfold S_117_0
 repeat' first|apply gdN|apply condN|(apply Bn_117_1<;>intros)|rfl) (ok0 _)
noncomputable def F_117(a0:(List Int)):Option ((Int×((List (List Int))×((List (List Int))×Unit)))×Int×Unit) :=
 bif(↑(length a0):Int)!=553 then some ((0,[],[],PUnit.unit),3,PUnit.unit)else gd (inB 0 (length a0)) (bif decide (getD a0 0 (0:Int)>=(4:Int))then some ((0,[],[],PUnit.unit),3,PUnit.unit)else gd (inB 0 (length a0)) (B_117_0 (L_117_0 4611686018427387904 a0 0 0 [] [] (wrap i64 (getD a0 0 0)) [] []) fun y6 y7 y8 y9 y10 y11=>some ((y9,y10,y11,PUnit.unit),0,PUnit.unit)))
noncomputable def Sp.p_117(a0:(List Int)):Bool:=(F_117 a0).isSome
noncomputable def Sp.v_117(a0:(List Int)):(Int×((List (List Int))×((List (List Int))×Unit)))×Int×Unit:=(F_117 a0).getD (dfH R_117)
noncomputable def s_117:Summ:=shS A_117 R_117 (fun x=>p_117 x.1) (fun x=>v_117 x.1)
theorem pv_117(a0:(List Int)){y:(Int×((List (List Int))×((List (List Int))×Unit)))×Int×Unit}(h:F_117 a0=some y):p_117 a0=true/\v_117 a0=y:=pvG h
theorem run_117(x:HDen A_117)(y:HDen R_117)(h:F_117 x.1=some y):rnF sm_117 2 117 A_117 R_117 x y:=runG noO_ok (os:=[O_117_0]) ⟨OK_117_0,trivial⟩ (Eq.trans (by kernel_rfl) h)
end
noncomputable section
abbrev A_98:List Ty:=[(.slice (.int .u32))]
abbrev R_98:List Ty:=[(.pair (.int .i64) (.pair (.int .i64) (.pair (.arr 32 (.int .u8)) (.pair (.pair (.int .i64) (.pair (.slice (.arr 32 (.int .u8))) (.pair (.slice (.arr 32 (.int .u8))) .unit))) .unit)))),.bool]
noncomputable def sm_98:Nat->Option Summ:=smL [(116,s_116),(117,s_117),(123,s_123)]
noncomputable def F_98(a0:(List Int)):Option ((Int×(Int×((List Int)×((Int×((List (List Int))×((List (List Int))×Unit)))×Unit))))×Bool×Unit) :=
 gd (sl3 0 1 (↑(length a0):Int)) (gd (decide (2<=(↑(length a0):Int))) (gd (inB 0 (length (take 1 (drop 1 a0)))) (gd (decide (3<=(↑(length a0):Int))) (gd (inB 0 (length (take 1 (drop 2 a0)))) (gd (decide (11<=(↑(length a0):Int))) (gd (p_116 (take 8 (drop 3 a0))) (gd (sl3 11 564 (↑(length a0):Int)) (gd (p_117 (take 553 (drop 11 a0))) (bif(v_117 (take 553 (drop 11 a0))).2.1 !=0 then some ((0,0,replicate 32 (0:Int),(0,[],[],PUnit.unit),PUnit.unit),false,PUnit.unit)else bif decide (wrap i64 (getD (take 1 (drop 1 a0)) 0 0)<1)then some ((0,0,replicate 32 (0:Int),(0,[],[],PUnit.unit),PUnit.unit),false,PUnit.unit)else bif decide (wrap i64 (getD (take 1 (drop 1 a0)) 0 0)>2147483647)then some ((0,0,replicate 32 (0:Int),(0,[],[],PUnit.unit),PUnit.unit),false,PUnit.unit)else bif decide (wrap i64 (getD (take 1 (drop 2 a0)) 0 0)<1)then some ((0,0,replicate 32 (0:Int),(0,[],[],PUnit.unit),PUnit.unit),false,PUnit.unit)else bif decide (wrap i64 (getD (take 1 (drop 2 a0)) 0 0)>wrap i64 ((↑(length a0):Int)-564))then some ((0,0,replicate 32 (0:Int),(0,[],[],PUnit.unit),PUnit.unit),false,PUnit.unit)else some ((wrap i64 (getD (take 1 (drop 1 a0)) 0 0),wrap i64 (getD (take 1 (drop 2 a0)) 0 0),over (replicate 32 (0:Int)) 0 (take 32 ((v_116 (take 8 (drop 3 a0))).1)),(v_117 (take 553 (drop 11 a0))).1,PUnit.unit),true,PUnit.unit))))))))))
noncomputable def Sp.p_98(a0:(List Int)):Bool:=(F_98 a0).isSome
noncomputable def Sp.v_98(a0:(List Int)):(Int×(Int×((List Int)×((Int×((List (List Int))×((List (List Int))×Unit)))×Unit))))×Bool×Unit:=(F_98 a0).getD (dfH R_98)
noncomputable def s_98:Summ:=shS A_98 R_98 (fun x=>p_98 x.1) (fun x=>v_98 x.1)
theorem pv_98(a0:(List Int)){y:(Int×(Int×((List Int)×((Int×((List (List Int))×((List (List Int))×Unit)))×Unit))))×Bool×Unit}(h:F_98 a0=some y):p_98 a0=true/\v_98 a0=y:=pvG h
theorem run_98(x:HDen A_98)(y:HDen R_98)(h:F_98 x.1=some y):rnF sm_98 3 98 A_98 R_98 x y:=runG noO_ok (os:=[]) trivial (Eq.trans (by kernel_rfl) h)
end
noncomputable section
abbrev A_71:List Ty:=[(.pair (.pair (.slice (.int .u32)) (.pair (.slice (.int .i64)) (.pair (.int .i64) .unit))) (.pair (.arr 32 (.int .u8)) .unit)),(.int .i64)]
abbrev R_71:List Ty:=[(.pair (.int .i64) (.pair (.int .i64) (.pair (.arr 32 (.int .u8)) (.pair (.pair (.int .i64) (.pair (.slice (.arr 32 (.int .u8))) (.pair (.slice (.arr 32 (.int .u8))) .unit))) .unit)))),.bool]
noncomputable def sm_71:Nat->Option Summ:=smL [(33,s_33),(84,s_84),(97,s_97),(98,s_98)]
noncomputable def F_71(a0:(((List Int)×((List Int)×(Int×Unit)))×((List Int)×Unit)))(a1:Int):Option ((Int×(Int×((List Int)×((Int×((List (List Int))×((List (List Int))×Unit)))×Unit))))×Bool×Unit) :=
 gd (p_33 a0) (bif !(v_33 a0).1 then some ((0,0,replicate 32 (0:Int),(0,[],[],PUnit.unit),PUnit.unit),false,PUnit.unit)else gd (p_97 a1) (bif !(v_97 a1).1 then some ((0,0,replicate 32 (0:Int),(0,[],[],PUnit.unit),PUnit.unit),false,PUnit.unit)else gd (p_84 a0 a1) (gd (p_98 ((v_84 a0 a1).1)) (some ((v_98 ((v_84 a0 a1).1)).1,(v_98 ((v_84 a0 a1).1)).2.1,PUnit.unit)))))
noncomputable def Sp.p_71(a0:(((List Int)×((List Int)×(Int×Unit)))×((List Int)×Unit)))(a1:Int):Bool:=(F_71 a0 a1).isSome
noncomputable def Sp.v_71(a0:(((List Int)×((List Int)×(Int×Unit)))×((List Int)×Unit)))(a1:Int):(Int×(Int×((List Int)×((Int×((List (List Int))×((List (List Int))×Unit)))×Unit))))×Bool×Unit:=(F_71 a0 a1).getD (dfH R_71)
noncomputable def s_71:Summ:=shS A_71 R_71 (fun x=>p_71 x.1 x.2.1) (fun x=>v_71 x.1 x.2.1)
theorem pv_71(a0:(((List Int)×((List Int)×(Int×Unit)))×((List Int)×Unit)))(a1:Int){y:(Int×(Int×((List Int)×((Int×((List (List Int))×((List (List Int))×Unit)))×Unit))))×Bool×Unit}(h:F_71 a0 a1=some y):p_71 a0 a1=true/\v_71 a0 a1=y:=pvG h
theorem run_71(x:HDen A_71)(y:HDen R_71)(h:F_71 x.1 x.2.1=some y):rnF sm_71 1 71 A_71 R_71 x y:=runG noO_ok (os:=[]) trivial (Eq.trans (by kernel_rfl) h)
end
noncomputable section
abbrev A_93:List Ty:=[(.pair (.pair (.slice (.int .u32)) (.pair (.slice (.int .i64)) (.pair (.int .i64) .unit))) (.pair (.arr 32 (.int .u8)) .unit)),(.int .i64)]
abbrev R_93:List Ty:=[.bool]
noncomputable def sm_93:Nat->Option Summ:=smL [(84,s_84)]
noncomputable def F_93(a0:(((List Int)×((List Int)×(Int×Unit)))×((List Int)×Unit)))(a1:Int):Option (Bool×Unit) :=
 gd (p_84 a0 a1) (gd (inB 0 (length ((v_84 a0 a1).1))) (some (getD ((v_84 a0 a1).1) 0 (0:Int)==(0:Int),PUnit.unit)))
noncomputable def Sp.p_93(a0:(((List Int)×((List Int)×(Int×Unit)))×((List Int)×Unit)))(a1:Int):Bool:=(F_93 a0 a1).isSome
noncomputable def Sp.v_93(a0:(((List Int)×((List Int)×(Int×Unit)))×((List Int)×Unit)))(a1:Int):Bool×Unit:=(F_93 a0 a1).getD (dfH R_93)
noncomputable def s_93:Summ:=shN A_93 R_93 (fun x=>p_93 x.1 x.2.1) (fun x=>v_93 x.1 x.2.1)
theorem pv_93(a0:(((List Int)×((List Int)×(Int×Unit)))×((List Int)×Unit)))(a1:Int){y:Bool×Unit}(h:F_93 a0 a1=some y):p_93 a0 a1=true/\v_93 a0 a1=y:=pvG h
theorem run_93(x:HDen A_93)(y:HDen R_93)(h:F_93 x.1 x.2.1=some y):rnF sm_93 1 93 A_93 R_93 x y:=runG noO_ok (os:=[]) trivial (Eq.trans (by kernel_rfl) h)
end
noncomputable section
abbrev A_86:List Ty:=[(.arr 32 (.int .u8))]
abbrev R_86:List Ty:=[(.slice (.int .i64))]
noncomputable def sm_86:Nat->Option Summ:=smL []
noncomputable def T_86_1:PS:=⟨43,[(3,.kc (.whole 0)),(4,.hv (.int .i64)),(9,.hv (.arr 32 (.int .u8))),(10,.hv (.int .i64)),(19,.hv (.arr 2 (.int .i64))),(20,.hv (.int .i64))],[.vec 3 (.int .i64)],0⟩
inductive Sp.E_86_1 where
 |e0 (p0:Int) (p1:List Int) (p2:Int) (p5:List Int)
noncomputable def Sp.B_86_1{R:Type}(r:Option E_86_1)(k0:Int->List Int->Int->List Int->Option R):Option R:=match r with
 |none=>none
 |some (.e0 p0 p1 p2 p5)=>k0 p0 p1 p2 p5
theorem Bn_86_1{A R:Type}{r:Option E_86_1}{f:A->Option R}{k0:Int->List Int->Int->List Int->Option A}{l0:Int->List Int->Int->List Int->Option R}(h0:∀p0 p1 p2 p5,(k0 p0 p1 p2 p5).bind f=l0 p0 p1 p2 p5):(B_86_1 r k0).bind f=B_86_1 r l0:=by
 cases r with
 |none=>rfl
 |some e=>cases e<;>first|apply h0
noncomputable def Y_86_1{R:Type}(k:Ex->St->Option R):E_86_1->Option R
 | .e0 p0 p1 p2 p5=>k (Ex.exit 2) (sx 43 [(3,CV.whole 0),(4,CV.int i64 p0),(9,CV.pure (Ty.arr 32 (Ty.int u8)) p1),(10,CV.int i64 p2)] [Blk.vec 3 (Ty.int i64) p5])
noncomputable def Sp.S_86_1{R:Type}(K:Int->List Int->Int->List Int->Int->List Int->Option R)(k:E_86_1->Option R)(p0:Int)(p1:List Int)(p2:Int)(p3:List Int)(p4:Int)(p5:List Int):Option R:=
 bif decide (p4<2)then gd (inB p4 2) (gd (room (length p5+1) 8) (K (wrap i64 (p0+wrap i64 (15-getD p3 (toNat p4) 0))) p1 p2 p3 (wrap i64 (p4+1)) (p5++[getD p3 (toNat p4) 0])))else k (E_86_1.e0 p0 p1 p2 p5)
noncomputable def Sp.L_86_1:Nat->Int->List Int->Int->List Int->Int->List Int->Option E_86_1
 |0,_,_,_,_,_,_=>none
 |m+1,p0,p1,p2,p3,p4,p5=>S_86_1 (L_86_1 m) some p0 p1 p2 p3 p4 p5
noncomputable def l_86_1(m:Nat)(a:T_86_1.E):Option E_86_1:=L_86_1 m a.1 a.2.1 a.2.2.1 a.2.2.2.1 a.2.2.2.2.1 a.2.2.2.2.2.1
noncomputable def O_86_1{R:Type}:Orc R:=orL T_86_1 (l_86_1 FU) Y_86_1
theorem OK_86_1{R:Type}:okF (R:=R) sm_86 0 (ni (nf 86 0) 0) O_86_1:=lp0 T_86_1 l_86_1 (fun R K k a=>S_86_1 (fun p0 p1 p2 p3 p4 p5=>K (p0,p1,p2,p3,p4,p5,())) k a.1 a.2.1 a.2.2.1 a.2.2.2.1 a.2.2.2.2.1 a.2.2.2.2.2.1) Y_86_1 (fun _ _ _=>by kernel_rfl) (fun _ _ _=>by
 unfold S_86_1
 repeat' first|apply gdN|apply condN|rfl) (ok0 _)
noncomputable def T_86_0:PS:=⟨43,[(3,.kc (.whole 0)),(4,.hv (.int .i64)),(9,.hv (.arr 32 (.int .u8))),(10,.hv (.int .i64))],[.vec 3 (.int .i64)],0⟩
inductive Sp.E_86_0 where
 |e0 (p0:Int) (p3:List Int)
noncomputable def Sp.B_86_0{R:Type}(r:Option E_86_0)(k0:Int->List Int->Option R):Option R:=match r with
 |none=>none
 |some (.e0 p0 p3)=>k0 p0 p3
noncomputable def Y_86_0{R:Type}(k:Ex->St->Option R):E_86_0->Option R
 | .e0 p0 p3=>k (Ex.exit 0) (sx 43 [(3,CV.whole 0),(4,CV.int i64 p0)] [Blk.vec 3 (Ty.int i64) p3])
noncomputable def Sp.S_86_0{R:Type}(K:Int->List Int->Int->List Int->Option R)(k:E_86_0->Option R)(p0:Int)(p1:List Int)(p2:Int)(p3:List Int):Option R:=
 bif decide (p2<32)then gd (inB p2 32) (B_86_1 (L_86_1 4611686018427387904 p0 p1 p2 [wrap i64 (Int.fdiv (getD p1 (toNat p2) 0) 16),wrap i64 (Sp.andI u8 (getD p1 (toNat p2) 0) 15)] 0 p3) fun y4 y5 y6 y7=>K y4 y5 (wrap i64 (y6+1)) y7)else k (E_86_0.e0 p0 p3)
noncomputable def Sp.L_86_0:Nat->Int->List Int->Int->List Int->Option E_86_0
 |0,_,_,_,_=>none
 |m+1,p0,p1,p2,p3=>S_86_0 (L_86_0 m) some p0 p1 p2 p3
noncomputable def l_86_0(m:Nat)(a:T_86_0.E):Option E_86_0:=L_86_0 m a.1 a.2.1 a.2.2.1 a.2.2.2.1
noncomputable def O_86_0{R:Type}:Orc R:=orL T_86_0 (l_86_0 FU) Y_86_0
theorem OK_86_0{R:Type}:okF (R:=R) sm_86 0 (nf 86 0) O_86_0:=lp noO_ok (os:=[O_86_1]) ⟨OK_86_1,trivial⟩ T_86_0 l_86_0 (fun R K k a=>S_86_0 (fun p0 p1 p2 p3=>K (p0,p1,p2,p3,())) k a.1 a.2.1 a.2.2.1 a.2.2.2.1) Y_86_0 (fun _=>rfl) (fun _ _=>rfl) (fun k K a=>by kernel_rfl) (fun Y K a=>by
 unfold S_86_0
 repeat' first|apply gdN|apply condN|(apply Bn_86_1<;>intros)|rfl) (ok0 _)
noncomputable def F_86(a0:(List Int)):Option ((List Int)×Unit) :=
 B_86_0 (L_86_0 4611686018427387904 0 a0 0 []) fun y2 y3=>gd (room (length y3+3) 8) (some (y3++[Int.fdiv y2 256,Sp.andI i64 (Int.fdiv y2 16) 15,Sp.andI i64 y2 15],PUnit.unit))
noncomputable def Sp.p_86(a0:(List Int)):Bool:=(F_86 a0).isSome
noncomputable def Sp.v_86(a0:(List Int)):(List Int)×Unit:=(F_86 a0).getD (dfH R_86)
noncomputable def s_86:Summ:=shS A_86 R_86 (fun x=>p_86 x.1) (fun x=>v_86 x.1)
theorem pv_86(a0:(List Int)){y:(List Int)×Unit}(h:F_86 a0=some y):p_86 a0=true/\v_86 a0=y:=pvG h
theorem run_86(x:HDen A_86)(y:HDen R_86)(h:F_86 x.1=some y):rnF sm_86 1 86 A_86 R_86 x y:=runG noO_ok (os:=[O_86_0]) ⟨OK_86_0,trivial⟩ (Eq.trans (by kernel_rfl) h)
end
noncomputable section
abbrev A_120:List Ty:=[]
abbrev R_120:List Ty:=[(.arr 64 (.int .u32))]
noncomputable def sm_120:Nat->Option Summ:=smL []
noncomputable def F_120:Option ((List Int)×Unit) :=
 some ([1116352408,1899447441,3049323471,3921009573,961987163,1508970993,2453635748,2870763221,3624381080,310598401,607225278,1426881987,1925078388,2162078206,2614888103,3248222580,3835390401,4022224774,264347078,604807628,770255983,1249150122,1555081692,1996064986,2554220882,2821834349,2952996808,3210313671,3336571891,3584528711,113926993,338241895,666307205,773529912,1294757372,1396182291,1695183700,1986661051,2177026350,2456956037,2730485921,2820302411,3259730800,3345764771,3516065817,3600352804,4094571909,275423344,430227734,506948616,659060556,883997877,958139571,1322822218,1537002063,1747873779,1955562222,2024104815,2227730452,2361852424,2428436474,2756734187,3204031479,3329325298],PUnit.unit)
noncomputable def Sp.p_120:Bool:=(F_120).isSome
noncomputable def Sp.v_120:(List Int)×Unit:=(F_120).getD (dfH R_120)
noncomputable def s_120:Summ:=shN A_120 R_120 (fun x=>p_120) (fun x=>v_120)
theorem run_120(x:HDen A_120)(y:HDen R_120)(h:F_120=some y):rnF sm_120 1 120 A_120 R_120 x y:=runG noO_ok (os:=[]) trivial (Eq.trans (by kernel_rfl) h)
end
noncomputable section
abbrev A_128:List Ty:=[(.int .u32),(.int .i64)]
abbrev R_128:List Ty:=[(.int .u32)]
noncomputable def sm_128:Nat->Option Summ:=smL []
noncomputable def F_128(a0 a1:Int):Option (Int×Unit) :=
 gd (decide (0<=wrap u64 (32-Sp.andI u64 (wrap u64 a1) 31))) (some (Sp.orI u32 (wrap u32 (a0*2^Nat.min (toNat (Sp.andI u64 (wrap u64 a1) 31)) 32)) (Int.fdiv a0 (2^Nat.min (toNat (wrap u64 (32-Sp.andI u64 (wrap u64 a1) 31))) 32)),PUnit.unit))
noncomputable def Sp.p_128(a0 a1:Int):Bool:=(F_128 a0 a1).isSome
noncomputable def Sp.v_128(a0 a1:Int):Int×Unit:=(F_128 a0 a1).getD (dfH R_128)
noncomputable def s_128:Summ:=shN A_128 R_128 (fun x=>p_128 x.1 x.2.1) (fun x=>v_128 x.1 x.2.1)
theorem pv_128(a0 a1:Int){y:Int×Unit}(h:F_128 a0 a1=some y):p_128 a0 a1=true/\v_128 a0 a1=y:=pvG h
theorem run_128(x:HDen A_128)(y:HDen R_128)(h:F_128 x.1 x.2.1=some y):rnF sm_128 1 128 A_128 R_128 x y:=runG noO_ok (os:=[]) trivial (Eq.trans (by kernel_rfl) h)
end
noncomputable section
abbrev A_127:List Ty:=[(.int .u32),(.int .i64)]
abbrev R_127:List Ty:=[(.int .u32)]
noncomputable def sm_127:Nat->Option Summ:=smL [(128,s_128)]
noncomputable def F_127(a0 a1:Int):Option (Int×Unit) :=
 gd (p_128 a0 (wrap i64 (0-a1))) (some ((v_128 a0 (wrap i64 (0-a1))).1,PUnit.unit))
noncomputable def Sp.p_127(a0 a1:Int):Bool:=(F_127 a0 a1).isSome
noncomputable def Sp.v_127(a0 a1:Int):Int×Unit:=(F_127 a0 a1).getD (dfH R_127)
noncomputable def s_127:Summ:=shN A_127 R_127 (fun x=>p_127 x.1 x.2.1) (fun x=>v_127 x.1 x.2.1)
theorem pv_127(a0 a1:Int){y:Int×Unit}(h:F_127 a0 a1=some y):p_127 a0 a1=true/\v_127 a0 a1=y:=pvG h
theorem run_127(x:HDen A_127)(y:HDen R_127)(h:F_127 x.1 x.2.1=some y):rnF sm_127 1 127 A_127 R_127 x y:=runG noO_ok (os:=[]) trivial (Eq.trans (by kernel_rfl) h)
end
noncomputable section
abbrev A_110:List Ty:=[(.slice (.int .u8))]
abbrev R_110:List Ty:=[(.arr 32 (.int .u8))]
noncomputable def sm_110:Nat->Option Summ:=smL [(100,s_100),(120,s_120),(127,s_127)]
noncomputable def T_110_121_0_0:PS:=⟨176,[(0,.kc (.ptr 1 [])),(1,.kc (.ptr 2 [])),(2,.hv (.slice (.int .u8))),(6,.kc (.ptr 3 [])),(20,.hv (.int .i64))],[.mem (.hv (.arr 32 (.int .u8))),.mem (.hv (.arr 8 (.int .u32))),.mem (.hv (.arr 64 (.int .u32))),.mem (.hv (.arr 64 (.int .u32)))],3⟩
inductive Sp.E_110_121_0_0 where
 |e0 (p2 p3 p4 p5:List Int)
noncomputable def Sp.B_110_121_0_0{R:Type}(r:Option E_110_121_0_0)(k0:List Int->List Int->List Int->List Int->Option R):Option R:=match r with
 |none=>none
 |some (.e0 p2 p3 p4 p5)=>k0 p2 p3 p4 p5
theorem Bn_110_121_0_0{A R:Type}{r:Option E_110_121_0_0}{f:A->Option R}{k0:List Int->List Int->List Int->List Int->Option A}{l0:List Int->List Int->List Int->List Int->Option R}(h0:∀p2 p3 p4 p5,(k0 p2 p3 p4 p5).bind f=l0 p2 p3 p4 p5):(B_110_121_0_0 r k0).bind f=B_110_121_0_0 r l0:=by
 cases r with
 |none=>rfl
 |some e=>cases e<;>first|apply h0
noncomputable def Y_110_121_0_0{R:Type}(k:Ex->St->Option R):E_110_121_0_0->Option R
 | .e0 p2 p3 p4 p5=>k (Ex.exit 0) (sx 176 [(0,CV.ptr 1 []),(1,CV.ptr 2 []),(6,CV.ptr 3 [])] [Blk.mem (CV.pure (Ty.arr 32 (Ty.int u8)) p2),Blk.mem (CV.pure (Ty.arr 8 (Ty.int u32)) p3),Blk.mem (CV.pure (Ty.arr 64 (Ty.int u32)) p4),Blk.mem (CV.pure (Ty.arr 64 (Ty.int u32)) p5)] 3)
noncomputable def Sp.S_110_121_0_0{R:Type}(K:List Int->Int->List Int->List Int->List Int->List Int->Option R)(k:E_110_121_0_0->Option R)(p0:List Int)(p1:Int)(p2 p3 p4 p5:List Int):Option R:=
 bif decide (p1<16)then gd (sl3 (wrap i64 (4*p1)) (↑(length p0):Int) (↑(length p0):Int)) (gd (p_100 (drop (toNat (wrap i64 (4*p1))) p0)) (gd (inB p1 64) (gd (decide (toNat p1<64)&&true) (K p0 (wrap i64 (p1+1)) p2 p3 p4 (List.set p5 (toNat p1) ((v_100 (drop (toNat (wrap i64 (4*p1))) p0)).1))))))else k (E_110_121_0_0.e0 p2 p3 p4 p5)
noncomputable def Sp.L_110_121_0_0:Nat->List Int->Int->List Int->List Int->List Int->List Int->Option E_110_121_0_0
 |0,_,_,_,_,_,_=>none
 |m+1,p0,p1,p2,p3,p4,p5=>S_110_121_0_0 (L_110_121_0_0 m) some p0 p1 p2 p3 p4 p5
noncomputable def l_110_121_0_0(m:Nat)(a:T_110_121_0_0.E):Option E_110_121_0_0:=L_110_121_0_0 m a.1 a.2.1 a.2.2.1 a.2.2.2.1 a.2.2.2.2.1 a.2.2.2.2.2.1
noncomputable def O_110_121_0_0{R:Type}:Orc R:=orL T_110_121_0_0 (l_110_121_0_0 FU) Y_110_121_0_0
theorem OK_110_121_0_0{R:Type}:okF (R:=R) sm_110 0 (nf 121 0) O_110_121_0_0:=lp0 T_110_121_0_0 l_110_121_0_0 (fun R K k a=>S_110_121_0_0 (fun p0 p1 p2 p3 p4 p5=>K (p0,p1,p2,p3,p4,p5,())) k a.1 a.2.1 a.2.2.1 a.2.2.2.1 a.2.2.2.2.1 a.2.2.2.2.2.1) Y_110_121_0_0 (fun _ _ _=>by kernel_rfl) (fun _ _ _=>by
 unfold S_110_121_0_0
 repeat' first|apply gdN|apply condN|rfl) (ok0 _)
noncomputable def T_110_121_0_1:PS:=⟨176,[(0,.kc (.ptr 1 [])),(1,.kc (.ptr 2 [])),(2,.sb 3 [] 1 none none (some none)),(6,.kc (.ptr 4 [])),(20,.hv (.int .i64))],[.mem (.hv (.arr 32 (.int .u8))),.mem (.hv (.arr 8 (.int .u32))),.mem (.hv (.arr 64 (.int .u32))),.mem (.hv (.arr 128 (.int .u8))),.mem (.hv (.arr 64 (.int .u32)))],4⟩
inductive Sp.E_110_121_0_1 where
 |e0 (p4 p5 p6 p7 p8:List Int)
noncomputable def Sp.B_110_121_0_1{R:Type}(r:Option E_110_121_0_1)(k0:List Int->List Int->List Int->List Int->List Int->Option R):Option R:=match r with
 |none=>none
 |some (.e0 p4 p5 p6 p7 p8)=>k0 p4 p5 p6 p7 p8
theorem Bn_110_121_0_1{A R:Type}{r:Option E_110_121_0_1}{f:A->Option R}{k0:List Int->List Int->List Int->List Int->List Int->Option A}{l0:List Int->List Int->List Int->List Int->List Int->Option R}(h0:∀p4 p5 p6 p7 p8,(k0 p4 p5 p6 p7 p8).bind f=l0 p4 p5 p6 p7 p8):(B_110_121_0_1 r k0).bind f=B_110_121_0_1 r l0:=by
 cases r with
 |none=>rfl
 |some e=>cases e<;>first|apply h0
noncomputable def Y_110_121_0_1{R:Type}(k:Ex->St->Option R):E_110_121_0_1->Option R
 | .e0 p4 p5 p6 p7 p8=>k (Ex.exit 0) (sx 176 [(0,CV.ptr 1 []),(1,CV.ptr 2 []),(6,CV.ptr 4 [])] [Blk.mem (CV.pure (Ty.arr 32 (Ty.int u8)) p4),Blk.mem (CV.pure (Ty.arr 8 (Ty.int u32)) p5),Blk.mem (CV.pure (Ty.arr 64 (Ty.int u32)) p6),Blk.mem (CV.pure (Ty.arr 128 (Ty.int u8)) p7),Blk.mem (CV.pure (Ty.arr 64 (Ty.int u32)) p8)] 4)
noncomputable def Sp.S_110_121_0_1{R:Type}(K:Nat->Nat->Nat->Int->List Int->List Int->List Int->List Int->List Int->Option R)(k:E_110_121_0_1->Option R)(p0 p1 p2:Nat)(p3:Int)(p4 p5 p6 p7 p8:List Int):Option R:=
 bif decide (p3<16)then gd (sl3 (wrap i64 (4*p3)) (↑p1:Int) (↑p1:Int)) (gd (decide (p0+toNat (wrap i64 (4*p3))+(toNat (↑p1:Int)-toNat (wrap i64 (4*p3)))<=128)&&true&&p_100 (take (toNat (↑p1:Int)-toNat (wrap i64 (4*p3))) (drop (p0+toNat (wrap i64 (4*p3))) p7))) (gd (inB p3 64) (gd (decide (toNat p3<64)&&true) (K p0 p1 p2 (wrap i64 (p3+1)) p4 p5 p6 p7 (List.set p8 (toNat p3) ((v_100 (take (toNat (↑p1:Int)-toNat (wrap i64 (4*p3))) (drop (p0+toNat (wrap i64 (4*p3))) p7))).1))))))else k (E_110_121_0_1.e0 p4 p5 p6 p7 p8)
noncomputable def Sp.L_110_121_0_1:Nat->Nat->Nat->Nat->Int->List Int->List Int->List Int->List Int->List Int->Option E_110_121_0_1
 |0,_,_,_,_,_,_,_,_,_=>none
 |m+1,p0,p1,p2,p3,p4,p5,p6,p7,p8=>S_110_121_0_1 (L_110_121_0_1 m) some p0 p1 p2 p3 p4 p5 p6 p7 p8
noncomputable def l_110_121_0_1(m:Nat)(a:T_110_121_0_1.E):Option E_110_121_0_1:=L_110_121_0_1 m a.1 a.2.1 a.2.2.1 a.2.2.2.1 a.2.2.2.2.1 a.2.2.2.2.2.1 a.2.2.2.2.2.2.1 a.2.2.2.2.2.2.2.1 a.2.2.2.2.2.2.2.2.1
noncomputable def O_110_121_0_1{R:Type}:Orc R:=orL T_110_121_0_1 (l_110_121_0_1 FU) Y_110_121_0_1 O_110_121_0_0
theorem OK_110_121_0_1{R:Type}:okF (R:=R) sm_110 0 (nf 121 0) O_110_121_0_1:=lp0 T_110_121_0_1 l_110_121_0_1 (fun R K k a=>S_110_121_0_1 (fun p0 p1 p2 p3 p4 p5 p6 p7 p8=>K (p0,p1,p2,p3,p4,p5,p6,p7,p8,())) k a.1 a.2.1 a.2.2.1 a.2.2.2.1 a.2.2.2.2.1 a.2.2.2.2.2.1 a.2.2.2.2.2.2.1 a.2.2.2.2.2.2.2.1 a.2.2.2.2.2.2.2.2.1) Y_110_121_0_1 (fun _ _ _=>by kernel_rfl) (fun _ _ _=>by
 unfold S_110_121_0_1
 repeat' first|apply gdN|apply condN|rfl) OK_110_121_0_0
noncomputable def T_110_121_1_0:PS:=⟨176,[(0,.kc (.ptr 1 [])),(1,.kc (.ptr 2 [])),(6,.kc (.ptr 3 [])),(8,.hv (.int .i64))],[.mem (.hv (.arr 32 (.int .u8))),.mem (.hv (.arr 8 (.int .u32))),.mem (.hv (.arr 64 (.int .u32))),.mem (.hv (.arr 64 (.int .u32)))],3⟩
inductive Sp.E_110_121_1_0 where
 |e0 (p1 p2 p3 p4:List Int)
noncomputable def Sp.B_110_121_1_0{R:Type}(r:Option E_110_121_1_0)(k0:List Int->List Int->List Int->List Int->Option R):Option R:=match r with
 |none=>none
 |some (.e0 p1 p2 p3 p4)=>k0 p1 p2 p3 p4
theorem Bn_110_121_1_0{A R:Type}{r:Option E_110_121_1_0}{f:A->Option R}{k0:List Int->List Int->List Int->List Int->Option A}{l0:List Int->List Int->List Int->List Int->Option R}(h0:∀p1 p2 p3 p4,(k0 p1 p2 p3 p4).bind f=l0 p1 p2 p3 p4):(B_110_121_1_0 r k0).bind f=B_110_121_1_0 r l0:=by
 cases r with
 |none=>rfl
 |some e=>cases e<;>first|apply h0
noncomputable def Y_110_121_1_0{R:Type}(k:Ex->St->Option R):E_110_121_1_0->Option R
 | .e0 p1 p2 p3 p4=>k (Ex.exit 2) (sx 176 [(0,CV.ptr 1 []),(1,CV.ptr 2 []),(6,CV.ptr 3 [])] [Blk.mem (CV.pure (Ty.arr 32 (Ty.int u8)) p1),Blk.mem (CV.pure (Ty.arr 8 (Ty.int u32)) p2),Blk.mem (CV.pure (Ty.arr 64 (Ty.int u32)) p3),Blk.mem (CV.pure (Ty.arr 64 (Ty.int u32)) p4)] 3)
noncomputable def Sp.S_110_121_1_0{R:Type}(K:Int->List Int->List Int->List Int->List Int->Option R)(k:E_110_121_1_0->Option R)(p0:Int)(p1 p2 p3 p4:List Int):Option R:=
 bif decide (p0<64)then gd (inB (wrap i64 (p0-15)) 64) (gd (decide (toNat (wrap i64 (p0-15))<64)&&true) (gd (inB (wrap i64 (p0-2)) 64) (gd (decide (toNat (wrap i64 (p0-2))<64)&&true) (gd (p_127 (getD p4 (toNat (wrap i64 (p0-15))) 0) 7) (gd (p_127 (getD p4 (toNat (wrap i64 (p0-15))) 0) 18) (gd (p_127 (getD p4 (toNat (wrap i64 (p0-2))) 0) 17) (gd (p_127 (getD p4 (toNat (wrap i64 (p0-2))) 0) 19) (gd (inB (wrap i64 (p0-7)) 64) (gd (decide (toNat (wrap i64 (p0-7))<64)&&true) (gd (inB (wrap i64 (p0-16)) 64) (gd (decide (toNat (wrap i64 (p0-16))<64)&&true) (gd (inB p0 64) (gd (decide (toNat p0<64)&&true) (K (wrap i64 (p0+1)) p1 p2 p3 (List.set p4 (toNat p0) (wrap u32 (wrap u32 (wrap u32 (Sp.xorI u32 (Sp.xorI u32 ((v_127 (getD p4 (toNat (wrap i64 (p0-2))) 0) 17).1) ((v_127 (getD p4 (toNat (wrap i64 (p0-2))) 0) 19).1)) (Int.fdiv (getD p4 (toNat (wrap i64 (p0-2))) 0) 1024)+getD p4 (toNat (wrap i64 (p0-7))) 0)+Sp.xorI u32 (Sp.xorI u32 ((v_127 (getD p4 (toNat (wrap i64 (p0-15))) 0) 7).1) ((v_127 (getD p4 (toNat (wrap i64 (p0-15))) 0) 18).1)) (Int.fdiv (getD p4 (toNat (wrap i64 (p0-15))) 0) 8))+getD p4 (toNat (wrap i64 (p0-16))) 0)))))))))))))))))else k (E_110_121_1_0.e0 p1 p2 p3 p4)
noncomputable def Sp.L_110_121_1_0:Nat->Int->List Int->List Int->List Int->List Int->Option E_110_121_1_0
 |0,_,_,_,_,_=>none
 |m+1,p0,p1,p2,p3,p4=>S_110_121_1_0 (L_110_121_1_0 m) some p0 p1 p2 p3 p4
noncomputable def l_110_121_1_0(m:Nat)(a:T_110_121_1_0.E):Option E_110_121_1_0:=L_110_121_1_0 m a.1 a.2.1 a.2.2.1 a.2.2.2.1 a.2.2.2.2.1
noncomputable def O_110_121_1_0{R:Type}:Orc R:=orL T_110_121_1_0 (l_110_121_1_0 FU) Y_110_121_1_0
theorem OK_110_121_1_0{R:Type}:okF (R:=R) sm_110 0 (nf 121 1) O_110_121_1_0:=lp0 T_110_121_1_0 l_110_121_1_0 (fun R K k a=>S_110_121_1_0 (fun p0 p1 p2 p3 p4=>K (p0,p1,p2,p3,p4,())) k a.1 a.2.1 a.2.2.1 a.2.2.2.1 a.2.2.2.2.1) Y_110_121_1_0 (fun _ _ _=>by kernel_rfl) (fun _ _ _=>by
 unfold S_110_121_1_0
 repeat' first|apply gdN|apply condN|rfl) (ok0 _)
noncomputable def T_110_121_1_1:PS:=⟨176,[(0,.kc (.ptr 1 [])),(1,.kc (.ptr 2 [])),(6,.kc (.ptr 4 [])),(8,.hv (.int .i64))],[.mem (.hv (.arr 32 (.int .u8))),.mem (.hv (.arr 8 (.int .u32))),.mem (.hv (.arr 64 (.int .u32))),.mem (.hv (.arr 128 (.int .u8))),.mem (.hv (.arr 64 (.int .u32)))],4⟩
inductive Sp.E_110_121_1_1 where
 |e0 (p1 p2 p3 p4 p5:List Int)
noncomputable def Sp.B_110_121_1_1{R:Type}(r:Option E_110_121_1_1)(k0:List Int->List Int->List Int->List Int->List Int->Option R):Option R:=match r with
 |none=>none
 |some (.e0 p1 p2 p3 p4 p5)=>k0 p1 p2 p3 p4 p5
theorem Bn_110_121_1_1{A R:Type}{r:Option E_110_121_1_1}{f:A->Option R}{k0:List Int->List Int->List Int->List Int->List Int->Option A}{l0:List Int->List Int->List Int->List Int->List Int->Option R}(h0:∀p1 p2 p3 p4 p5,(k0 p1 p2 p3 p4 p5).bind f=l0 p1 p2 p3 p4 p5):(B_110_121_1_1 r k0).bind f=B_110_121_1_1 r l0:=by
 cases r with
 |none=>rfl
 |some e=>cases e<;>first|apply h0
noncomputable def Y_110_121_1_1{R:Type}(k:Ex->St->Option R):E_110_121_1_1->Option R
 | .e0 p1 p2 p3 p4 p5=>k (Ex.exit 2) (sx 176 [(0,CV.ptr 1 []),(1,CV.ptr 2 []),(6,CV.ptr 4 [])] [Blk.mem (CV.pure (Ty.arr 32 (Ty.int u8)) p1),Blk.mem (CV.pure (Ty.arr 8 (Ty.int u32)) p2),Blk.mem (CV.pure (Ty.arr 64 (Ty.int u32)) p3),Blk.mem (CV.pure (Ty.arr 128 (Ty.int u8)) p4),Blk.mem (CV.pure (Ty.arr 64 (Ty.int u32)) p5)] 4)
noncomputable def Sp.S_110_121_1_1{R:Type}(K:Int->List Int->List Int->List Int->List Int->List Int->Option R)(k:E_110_121_1_1->Option R)(p0:Int)(p1 p2 p3 p4 p5:List Int):Option R:=
 bif decide (p0<64)then gd (inB (wrap i64 (p0-15)) 64) (gd (decide (toNat (wrap i64 (p0-15))<64)&&true) (gd (inB (wrap i64 (p0-2)) 64) (gd (decide (toNat (wrap i64 (p0-2))<64)&&true) (gd (p_127 (getD p5 (toNat (wrap i64 (p0-15))) 0) 7) (gd (p_127 (getD p5 (toNat (wrap i64 (p0-15))) 0) 18) (gd (p_127 (getD p5 (toNat (wrap i64 (p0-2))) 0) 17) (gd (p_127 (getD p5 (toNat (wrap i64 (p0-2))) 0) 19) (gd (inB (wrap i64 (p0-7)) 64) (gd (decide (toNat (wrap i64 (p0-7))<64)&&true) (gd (inB (wrap i64 (p0-16)) 64) (gd (decide (toNat (wrap i64 (p0-16))<64)&&true) (gd (inB p0 64) (gd (decide (toNat p0<64)&&true) (K (wrap i64 (p0+1)) p1 p2 p3 p4 (List.set p5 (toNat p0) (wrap u32 (wrap u32 (wrap u32 (Sp.xorI u32 (Sp.xorI u32 ((v_127 (getD p5 (toNat (wrap i64 (p0-2))) 0) 17).1) ((v_127 (getD p5 (toNat (wrap i64 (p0-2))) 0) 19).1)) (Int.fdiv (getD p5 (toNat (wrap i64 (p0-2))) 0) 1024)+getD p5 (toNat (wrap i64 (p0-7))) 0)+Sp.xorI u32 (Sp.xorI u32 ((v_127 (getD p5 (toNat (wrap i64 (p0-15))) 0) 7).1) ((v_127 (getD p5 (toNat (wrap i64 (p0-15))) 0) 18).1)) (Int.fdiv (getD p5 (toNat (wrap i64 (p0-15))) 0) 8))+getD p5 (toNat (wrap i64 (p0-16))) 0)))))))))))))))))else k (E_110_121_1_1.e0 p1 p2 p3 p4 p5)
noncomputable def Sp.L_110_121_1_1:Nat->Int->List Int->List Int->List Int->List Int->List Int->Option E_110_121_1_1
 |0,_,_,_,_,_,_=>none
 |m+1,p0,p1,p2,p3,p4,p5=>S_110_121_1_1 (L_110_121_1_1 m) some p0 p1 p2 p3 p4 p5
noncomputable def l_110_121_1_1(m:Nat)(a:T_110_121_1_1.E):Option E_110_121_1_1:=L_110_121_1_1 m a.1 a.2.1 a.2.2.1 a.2.2.2.1 a.2.2.2.2.1 a.2.2.2.2.2.1
noncomputable def O_110_121_1_1{R:Type}:Orc R:=orL T_110_121_1_1 (l_110_121_1_1 FU) Y_110_121_1_1 O_110_121_1_0
theorem OK_110_121_1_1{R:Type}:okF (R:=R) sm_110 0 (nf 121 1) O_110_121_1_1:=lp0 T_110_121_1_1 l_110_121_1_1 (fun R K k a=>S_110_121_1_1 (fun p0 p1 p2 p3 p4 p5=>K (p0,p1,p2,p3,p4,p5,())) k a.1 a.2.1 a.2.2.1 a.2.2.2.1 a.2.2.2.2.1 a.2.2.2.2.2.1) Y_110_121_1_1 (fun _ _ _=>by kernel_rfl) (fun _ _ _=>by
 unfold S_110_121_1_1
 repeat' first|apply gdN|apply condN|rfl) OK_110_121_1_0
noncomputable def T_110_121_2_0:PS:=⟨176,[(0,.kc (.ptr 1 [])),(1,.kc (.ptr 2 [])),(6,.kc (.ptr 3 [])),(13,.kc (.ptr 4 [])),(77,.hv (.int .i64))],[.mem (.hv (.arr 32 (.int .u8))),.mem (.hv (.arr 8 (.int .u32))),.mem (.hv (.arr 64 (.int .u32))),.mem (.hv (.arr 64 (.int .u32))),.mem (.hv (.arr 8 (.int .u32)))],3⟩
inductive Sp.E_110_121_2_0 where
 |e0 (p1 p2 p3 p5:List Int)
noncomputable def Sp.B_110_121_2_0{R:Type}(r:Option E_110_121_2_0)(k0:List Int->List Int->List Int->List Int->Option R):Option R:=match r with
 |none=>none
 |some (.e0 p1 p2 p3 p5)=>k0 p1 p2 p3 p5
theorem Bn_110_121_2_0{A R:Type}{r:Option E_110_121_2_0}{f:A->Option R}{k0:List Int->List Int->List Int->List Int->Option A}{l0:List Int->List Int->List Int->List Int->Option R}(h0:∀p1 p2 p3 p5,(k0 p1 p2 p3 p5).bind f=l0 p1 p2 p3 p5):(B_110_121_2_0 r k0).bind f=B_110_121_2_0 r l0:=by
 cases r with
 |none=>rfl
 |some e=>cases e<;>first|apply h0
noncomputable def Y_110_121_2_0{R:Type}(k:Ex->St->Option R):E_110_121_2_0->Option R
 | .e0 p1 p2 p3 p5=>k (Ex.exit 4) (sx 176 [(0,CV.ptr 1 []),(13,CV.ptr 3 [])] [Blk.mem (CV.pure (Ty.arr 32 (Ty.int u8)) p1),Blk.mem (CV.pure (Ty.arr 8 (Ty.int u32)) p2),Blk.mem (CV.pure (Ty.arr 64 (Ty.int u32)) p3),Blk.mem (CV.pure (Ty.arr 8 (Ty.int u32)) p5)] 3)
noncomputable def Sp.S_110_121_2_0{R:Type}(K:Int->List Int->List Int->List Int->List Int->List Int->Option R)(k:E_110_121_2_0->Option R)(p0:Int)(p1 p2 p3 p4 p5:List Int):Option R:=
 bif decide (p0<64)then gd (p_127 (getD p5 4 0) 6) (gd (p_127 (getD p5 4 0) 11) (gd (p_127 (getD p5 4 0) 25) (gd (inB p0 64) (gd (decide (toNat p0<64)&&true) (gd (inB p0 64) (gd (decide (toNat p0<64)&&true) (gd (p_127 (getD p5 0 0) 2) (gd (p_127 (getD p5 0 0) 13) (gd (p_127 (getD p5 0 0) 22) (K (wrap i64 (p0+1)) p1 p2 p3 p4 [wrap u32 (wrap u32 (wrap u32 (wrap u32 (wrap u32 (getD p5 7 0+Sp.xorI u32 (Sp.xorI u32 ((v_127 (getD p5 4 0) 6).1) ((v_127 (getD p5 4 0) 11).1)) ((v_127 (getD p5 4 0) 25).1))+Sp.xorI u32 (Sp.andI u32 (getD p5 4 0) (getD p5 5 0)) (Sp.andI u32 (Sp.xorI u32 4294967295 (getD p5 4 0)) (getD p5 6 0)))+getD p3 (toNat p0) 0)+getD p4 (toNat p0) 0)+wrap u32 (Sp.xorI u32 (Sp.xorI u32 ((v_127 (getD p5 0 0) 2).1) ((v_127 (getD p5 0 0) 13).1)) ((v_127 (getD p5 0 0) 22).1)+Sp.xorI u32 (Sp.xorI u32 (Sp.andI u32 (getD p5 0 0) (getD p5 1 0)) (Sp.andI u32 (getD p5 0 0) (getD p5 2 0))) (Sp.andI u32 (getD p5 1 0) (getD p5 2 0)))),getD p5 0 0,getD p5 1 0,getD p5 2 0,wrap u32 (getD p5 3 0+wrap u32 (wrap u32 (wrap u32 (wrap u32 (getD p5 7 0+Sp.xorI u32 (Sp.xorI u32 ((v_127 (getD p5 4 0) 6).1) ((v_127 (getD p5 4 0) 11).1)) ((v_127 (getD p5 4 0) 25).1))+Sp.xorI u32 (Sp.andI u32 (getD p5 4 0) (getD p5 5 0)) (Sp.andI u32 (Sp.xorI u32 4294967295 (getD p5 4 0)) (getD p5 6 0)))+getD p3 (toNat p0) 0)+getD p4 (toNat p0) 0)),getD p5 4 0,getD p5 5 0,getD p5 6 0]))))))))))else k (E_110_121_2_0.e0 p1 p2 p3 p5)
noncomputable def Sp.L_110_121_2_0:Nat->Int->List Int->List Int->List Int->List Int->List Int->Option E_110_121_2_0
 |0,_,_,_,_,_,_=>none
 |m+1,p0,p1,p2,p3,p4,p5=>S_110_121_2_0 (L_110_121_2_0 m) some p0 p1 p2 p3 p4 p5
noncomputable def l_110_121_2_0(m:Nat)(a:T_110_121_2_0.E):Option E_110_121_2_0:=L_110_121_2_0 m a.1 a.2.1 a.2.2.1 a.2.2.2.1 a.2.2.2.2.1 a.2.2.2.2.2.1
noncomputable def O_110_121_2_0{R:Type}:Orc R:=orL T_110_121_2_0 (l_110_121_2_0 FU) Y_110_121_2_0
theorem OK_110_121_2_0{R:Type}:okF (R:=R) sm_110 0 (nf 121 2) O_110_121_2_0:=lp0 T_110_121_2_0 l_110_121_2_0 (fun R K k a=>S_110_121_2_0 (fun p0 p1 p2 p3 p4 p5=>K (p0,p1,p2,p3,p4,p5,())) k a.1 a.2.1 a.2.2.1 a.2.2.2.1 a.2.2.2.2.1 a.2.2.2.2.2.1) Y_110_121_2_0 (fun _ _ _=>by kernel_rfl) (fun _ _ _=>by
 unfold S_110_121_2_0
 repeat' first|apply gdN|apply condN|rfl) (ok0 _)
noncomputable def T_110_121_2_1:PS:=⟨176,[(0,.kc (.ptr 1 [])),(1,.kc (.ptr 2 [])),(6,.kc (.ptr 4 [])),(13,.kc (.ptr 5 [])),(77,.hv (.int .i64))],[.mem (.hv (.arr 32 (.int .u8))),.mem (.hv (.arr 8 (.int .u32))),.mem (.hv (.arr 64 (.int .u32))),.mem (.hv (.arr 128 (.int .u8))),.mem (.hv (.arr 64 (.int .u32))),.mem (.hv (.arr 8 (.int .u32)))],4⟩
inductive Sp.E_110_121_2_1 where
 |e0 (p1 p2 p3 p4 p6:List Int)
noncomputable def Sp.B_110_121_2_1{R:Type}(r:Option E_110_121_2_1)(k0:List Int->List Int->List Int->List Int->List Int->Option R):Option R:=match r with
 |none=>none
 |some (.e0 p1 p2 p3 p4 p6)=>k0 p1 p2 p3 p4 p6
theorem Bn_110_121_2_1{A R:Type}{r:Option E_110_121_2_1}{f:A->Option R}{k0:List Int->List Int->List Int->List Int->List Int->Option A}{l0:List Int->List Int->List Int->List Int->List Int->Option R}(h0:∀p1 p2 p3 p4 p6,(k0 p1 p2 p3 p4 p6).bind f=l0 p1 p2 p3 p4 p6):(B_110_121_2_1 r k0).bind f=B_110_121_2_1 r l0:=by
 cases r with
 |none=>rfl
 |some e=>cases e<;>first|apply h0
noncomputable def Y_110_121_2_1{R:Type}(k:Ex->St->Option R):E_110_121_2_1->Option R
 | .e0 p1 p2 p3 p4 p6=>k (Ex.exit 4) (sx 176 [(0,CV.ptr 1 []),(13,CV.ptr 4 [])] [Blk.mem (CV.pure (Ty.arr 32 (Ty.int u8)) p1),Blk.mem (CV.pure (Ty.arr 8 (Ty.int u32)) p2),Blk.mem (CV.pure (Ty.arr 64 (Ty.int u32)) p3),Blk.mem (CV.pure (Ty.arr 128 (Ty.int u8)) p4),Blk.mem (CV.pure (Ty.arr 8 (Ty.int u32)) p6)] 4)
noncomputable def Sp.S_110_121_2_1{R:Type}(K:Int->List Int->List Int->List Int->List Int->List Int->List Int->Option R)(k:E_110_121_2_1->Option R)(p0:Int)(p1 p2 p3 p4 p5 p6:List Int):Option R:=
 bif decide (p0<64)then gd (p_127 (getD p6 4 0) 6) (gd (p_127 (getD p6 4 0) 11) (gd (p_127 (getD p6 4 0) 25) (gd (inB p0 64) (gd (decide (toNat p0<64)&&true) (gd (inB p0 64) (gd (decide (toNat p0<64)&&true) (gd (p_127 (getD p6 0 0) 2) (gd (p_127 (getD p6 0 0) 13) (gd (p_127 (getD p6 0 0) 22) (K (wrap i64 (p0+1)) p1 p2 p3 p4 p5 [wrap u32 (wrap u32 (wrap u32 (wrap u32 (wrap u32 (getD p6 7 0+Sp.xorI u32 (Sp.xorI u32 ((v_127 (getD p6 4 0) 6).1) ((v_127 (getD p6 4 0) 11).1)) ((v_127 (getD p6 4 0) 25).1))+Sp.xorI u32 (Sp.andI u32 (getD p6 4 0) (getD p6 5 0)) (Sp.andI u32 (Sp.xorI u32 4294967295 (getD p6 4 0)) (getD p6 6 0)))+getD p3 (toNat p0) 0)+getD p5 (toNat p0) 0)+wrap u32 (Sp.xorI u32 (Sp.xorI u32 ((v_127 (getD p6 0 0) 2).1) ((v_127 (getD p6 0 0) 13).1)) ((v_127 (getD p6 0 0) 22).1)+Sp.xorI u32 (Sp.xorI u32 (Sp.andI u32 (getD p6 0 0) (getD p6 1 0)) (Sp.andI u32 (getD p6 0 0) (getD p6 2 0))) (Sp.andI u32 (getD p6 1 0) (getD p6 2 0)))),getD p6 0 0,getD p6 1 0,getD p6 2 0,wrap u32 (getD p6 3 0+wrap u32 (wrap u32 (wrap u32 (wrap u32 (getD p6 7 0+Sp.xorI u32 (Sp.xorI u32 ((v_127 (getD p6 4 0) 6).1) ((v_127 (getD p6 4 0) 11).1)) ((v_127 (getD p6 4 0) 25).1))+Sp.xorI u32 (Sp.andI u32 (getD p6 4 0) (getD p6 5 0)) (Sp.andI u32 (Sp.xorI u32 4294967295 (getD p6 4 0)) (getD p6 6 0)))+getD p3 (toNat p0) 0)+getD p5 (toNat p0) 0)),getD p6 4 0,getD p6 5 0,getD p6 6 0]))))))))))else k (E_110_121_2_1.e0 p1 p2 p3 p4 p6)
noncomputable def Sp.L_110_121_2_1:Nat->Int->List Int->List Int->List Int->List Int->List Int->List Int->Option E_110_121_2_1
 |0,_,_,_,_,_,_,_=>none
 |m+1,p0,p1,p2,p3,p4,p5,p6=>S_110_121_2_1 (L_110_121_2_1 m) some p0 p1 p2 p3 p4 p5 p6
noncomputable def l_110_121_2_1(m:Nat)(a:T_110_121_2_1.E):Option E_110_121_2_1:=L_110_121_2_1 m a.1 a.2.1 a.2.2.1 a.2.2.2.1 a.2.2.2.2.1 a.2.2.2.2.2.1 a.2.2.2.2.2.2.1
noncomputable def O_110_121_2_1{R:Type}:Orc R:=orL T_110_121_2_1 (l_110_121_2_1 FU) Y_110_121_2_1 O_110_121_2_0
theorem OK_110_121_2_1{R:Type}:okF (R:=R) sm_110 0 (nf 121 2) O_110_121_2_1:=lp0 T_110_121_2_1 l_110_121_2_1 (fun R K k a=>S_110_121_2_1 (fun p0 p1 p2 p3 p4 p5 p6=>K (p0,p1,p2,p3,p4,p5,p6,())) k a.1 a.2.1 a.2.2.1 a.2.2.2.1 a.2.2.2.2.1 a.2.2.2.2.2.1 a.2.2.2.2.2.2.1) Y_110_121_2_1 (fun _ _ _=>by kernel_rfl) (fun _ _ _=>by
 unfold S_110_121_2_1
 repeat' first|apply gdN|apply condN|rfl) OK_110_121_2_0
noncomputable def T_110_121_3_0:PS:=⟨176,[(0,.kc (.ptr 1 [])),(13,.kc (.ptr 3 [])),(161,.hv (.int .i64))],[.mem (.hv (.arr 32 (.int .u8))),.mem (.hv (.arr 8 (.int .u32))),.mem (.hv (.arr 64 (.int .u32))),.mem (.hv (.arr 8 (.int .u32)))],3⟩
inductive Sp.E_110_121_3_0 where
 |e0 (p1 p2 p3:List Int)
noncomputable def Sp.B_110_121_3_0{R:Type}(r:Option E_110_121_3_0)(k0:List Int->List Int->List Int->Option R):Option R:=match r with
 |none=>none
 |some (.e0 p1 p2 p3)=>k0 p1 p2 p3
theorem Bn_110_121_3_0{A R:Type}{r:Option E_110_121_3_0}{f:A->Option R}{k0:List Int->List Int->List Int->Option A}{l0:List Int->List Int->List Int->Option R}(h0:∀p1 p2 p3,(k0 p1 p2 p3).bind f=l0 p1 p2 p3):(B_110_121_3_0 r k0).bind f=B_110_121_3_0 r l0:=by
 cases r with
 |none=>rfl
 |some e=>cases e<;>first|apply h0
noncomputable def Y_110_121_3_0{R:Type}(k:Ex->St->Option R):E_110_121_3_0->Option R
 | .e0 p1 p2 p3=>k (Ex.exit 6) (sx 176 [] [Blk.mem (CV.pure (Ty.arr 32 (Ty.int u8)) p1),Blk.mem (CV.pure (Ty.arr 8 (Ty.int u32)) p2),Blk.mem (CV.pure (Ty.arr 64 (Ty.int u32)) p3)] 3)
noncomputable def Sp.S_110_121_3_0{R:Type}(K:Int->List Int->List Int->List Int->List Int->Option R)(k:E_110_121_3_0->Option R)(p0:Int)(p1 p2 p3 p4:List Int):Option R:=
 bif decide (p0<8)then gd (inB p0 8) (gd (decide (toNat p0<8)&&true) (gd (inB p0 8) (gd (decide (toNat p0<8)&&true) (gd (inB p0 8) (gd (decide (toNat p0<8)&&true) (K (wrap i64 (p0+1)) p1 (List.set p2 (toNat p0) (wrap u32 (getD p2 (toNat p0) 0+getD p4 (toNat p0) 0))) p3 p4))))))else k (E_110_121_3_0.e0 p1 p2 p3)
noncomputable def Sp.L_110_121_3_0:Nat->Int->List Int->List Int->List Int->List Int->Option E_110_121_3_0
 |0,_,_,_,_,_=>none
 |m+1,p0,p1,p2,p3,p4=>S_110_121_3_0 (L_110_121_3_0 m) some p0 p1 p2 p3 p4
noncomputable def l_110_121_3_0(m:Nat)(a:T_110_121_3_0.E):Option E_110_121_3_0:=L_110_121_3_0 m a.1 a.2.1 a.2.2.1 a.2.2.2.1 a.2.2.2.2.1
noncomputable def O_110_121_3_0{R:Type}:Orc R:=orL T_110_121_3_0 (l_110_121_3_0 FU) Y_110_121_3_0
theorem OK_110_121_3_0{R:Type}:okF (R:=R) sm_110 0 (nf 121 3) O_110_121_3_0:=lp0 T_110_121_3_0 l_110_121_3_0 (fun R K k a=>S_110_121_3_0 (fun p0 p1 p2 p3 p4=>K (p0,p1,p2,p3,p4,())) k a.1 a.2.1 a.2.2.1 a.2.2.2.1 a.2.2.2.2.1) Y_110_121_3_0 (fun _ _ _=>by kernel_rfl) (fun _ _ _=>by
 unfold S_110_121_3_0
 repeat' first|apply gdN|apply condN|rfl) (ok0 _)
noncomputable def T_110_121_3_1:PS:=⟨176,[(0,.kc (.ptr 1 [])),(13,.kc (.ptr 4 [])),(161,.hv (.int .i64))],[.mem (.hv (.arr 32 (.int .u8))),.mem (.hv (.arr 8 (.int .u32))),.mem (.hv (.arr 64 (.int .u32))),.mem (.hv (.arr 128 (.int .u8))),.mem (.hv (.arr 8 (.int .u32)))],4⟩
inductive Sp.E_110_121_3_1 where
 |e0 (p1 p2 p3 p4:List Int)
noncomputable def Sp.B_110_121_3_1{R:Type}(r:Option E_110_121_3_1)(k0:List Int->List Int->List Int->List Int->Option R):Option R:=match r with
 |none=>none
 |some (.e0 p1 p2 p3 p4)=>k0 p1 p2 p3 p4
theorem Bn_110_121_3_1{A R:Type}{r:Option E_110_121_3_1}{f:A->Option R}{k0:List Int->List Int->List Int->List Int->Option A}{l0:List Int->List Int->List Int->List Int->Option R}(h0:∀p1 p2 p3 p4,(k0 p1 p2 p3 p4).bind f=l0 p1 p2 p3 p4):(B_110_121_3_1 r k0).bind f=B_110_121_3_1 r l0:=by
 cases r with
 |none=>rfl
 |some e=>cases e<;>first|apply h0
noncomputable def Y_110_121_3_1{R:Type}(k:Ex->St->Option R):E_110_121_3_1->Option R
 | .e0 p1 p2 p3 p4=>k (Ex.exit 6) (sx 176 [] [Blk.mem (CV.pure (Ty.arr 32 (Ty.int u8)) p1),Blk.mem (CV.pure (Ty.arr 8 (Ty.int u32)) p2),Blk.mem (CV.pure (Ty.arr 64 (Ty.int u32)) p3),Blk.mem (CV.pure (Ty.arr 128 (Ty.int u8)) p4)] 4)
noncomputable def Sp.S_110_121_3_1{R:Type}(K:Int->List Int->List Int->List Int->List Int->List Int->Option R)(k:E_110_121_3_1->Option R)(p0:Int)(p1 p2 p3 p4 p5:List Int):Option R:=
 bif decide (p0<8)then gd (inB p0 8) (gd (decide (toNat p0<8)&&true) (gd (inB p0 8) (gd (decide (toNat p0<8)&&true) (gd (inB p0 8) (gd (decide (toNat p0<8)&&true) (K (wrap i64 (p0+1)) p1 (List.set p2 (toNat p0) (wrap u32 (getD p2 (toNat p0) 0+getD p5 (toNat p0) 0))) p3 p4 p5))))))else k (E_110_121_3_1.e0 p1 p2 p3 p4)
noncomputable def Sp.L_110_121_3_1:Nat->Int->List Int->List Int->List Int->List Int->List Int->Option E_110_121_3_1
 |0,_,_,_,_,_,_=>none
 |m+1,p0,p1,p2,p3,p4,p5=>S_110_121_3_1 (L_110_121_3_1 m) some p0 p1 p2 p3 p4 p5
noncomputable def l_110_121_3_1(m:Nat)(a:T_110_121_3_1.E):Option E_110_121_3_1:=L_110_121_3_1 m a.1 a.2.1 a.2.2.1 a.2.2.2.1 a.2.2.2.2.1 a.2.2.2.2.2.1
noncomputable def O_110_121_3_1{R:Type}:Orc R:=orL T_110_121_3_1 (l_110_121_3_1 FU) Y_110_121_3_1 O_110_121_3_0
theorem OK_110_121_3_1{R:Type}:okF (R:=R) sm_110 0 (nf 121 3) O_110_121_3_1:=lp0 T_110_121_3_1 l_110_121_3_1 (fun R K k a=>S_110_121_3_1 (fun p0 p1 p2 p3 p4 p5=>K (p0,p1,p2,p3,p4,p5,())) k a.1 a.2.1 a.2.2.1 a.2.2.2.1 a.2.2.2.2.1 a.2.2.2.2.2.1) Y_110_121_3_1 (fun _ _ _=>by kernel_rfl) (fun _ _ _=>by
 unfold S_110_121_3_1
 repeat' first|apply gdN|apply condN|rfl) OK_110_121_3_0
noncomputable def g_110_121{R:Type}:List CV->List Blk->(CV->List Blk->Option R)->Option R:=evFnL sm_110 FU (ovr noO (evFn sm_110 fns FU 0)) (mkT (fB fns 121) [O_110_121_0_1,O_110_121_1_1,O_110_121_2_1,O_110_121_3_1]) (fO fns 121)
theorem g_110_121_ok{R:Type}(args:List CV)(hp:List Blk)(k:CV->List Blk->Option R)(r:R)(h:g_110_121 args hp k=some r):evFn sm_110 fns FU 1 121 args hp k=some r:=runG noO_ok (os:=[O_110_121_0_1,O_110_121_1_1,O_110_121_2_1,O_110_121_3_1]) ⟨OK_110_121_0_1,OK_110_121_1_1,OK_110_121_2_1,OK_110_121_3_1,trivial⟩ h
noncomputable def ov_110_110{R:Type}:Nat->Option (List CV->List Blk->(CV->List Blk->Option R)->Option R):=fun f'=>bif Nat.beq f' 121 then some g_110_121 else none
theorem ov_110_110_ok{R:Type}:OvrOK (R:=R) ov_110_110 (evFn sm_110 fns FU 1):=by
 intro f' g h args hp k r hg
 dsimp only[ov_110_110]at h
 by_cases h121:f'=121
 ·subst h121
  injection h with h
  subst h
  exact evFn_le 0 (g_110_121_ok _ _ _ _ hg)
 rw[nbeq_ne h121,cond_false]at h
 cases h
noncomputable def T_110_0:PS:=⟨72,[(0,.hv (.slice (.int .u8))),(2,.kc (.ptr 0 [])),(3,.kc (.ptr 1 [])),(4,.kc (.ptr 2 [])),(5,.hv (.slice (.int .u8)))],[.mem (.hv (.arr 32 (.int .u8))),.mem (.hv (.arr 8 (.int .u32))),.mem (.hv (.arr 64 (.int .u32)))],0⟩
inductive Sp.E_110_0 where
 |e0 (p0 p1 p2 p3 p4:List Int)
noncomputable def Sp.B_110_0{R:Type}(r:Option E_110_0)(k0:List Int->List Int->List Int->List Int->List Int->Option R):Option R:=match r with
 |none=>none
 |some (.e0 p0 p1 p2 p3 p4)=>k0 p0 p1 p2 p3 p4
noncomputable def Y_110_0{R:Type}(k:Ex->St->Option R):E_110_0->Option R
 | .e0 p0 p1 p2 p3 p4=>k (Ex.exit 0) (sx 72 [(0,CV.pure (Ty.slice (Ty.int u8)) p0),(2,CV.ptr 0 []),(3,CV.ptr 1 []),(4,CV.ptr 2 []),(5,CV.pure (Ty.slice (Ty.int u8)) p1)] [Blk.mem (CV.pure (Ty.arr 32 (Ty.int u8)) p2),Blk.mem (CV.pure (Ty.arr 8 (Ty.int u32)) p3),Blk.mem (CV.pure (Ty.arr 64 (Ty.int u32)) p4)])
noncomputable def Sp.S_110_0{R:Type}(K:List Int->List Int->List Int->List Int->List Int->Option R)(k:E_110_0->Option R)(p0 p1 p2 p3 p4:List Int):Option R:=
 bif decide ((↑(length p1):Int)>=64)then gd (sl3 0 64 (↑(length p1):Int)) (B_110_121_0_0 (L_110_121_0_0 4611686018427387904 (take 64 (drop 0 p1)) 0 p2 p3 p4 (replicate 64 (0:Int))) fun y19 y20 y21 y22=>B_110_121_1_0 (L_110_121_1_0 4611686018427387904 16 y19 y20 y21 y22) fun y23 y24 y25 y26=>B_110_121_2_0 (L_110_121_2_0 4611686018427387904 0 y23 y24 y25 y26 y24) fun y27 y28 y29 y30=>B_110_121_3_0 (L_110_121_3_0 4611686018427387904 0 y27 y28 y29 y30) fun y31 y32 y33=>gd (sl3 64 (↑(length p1):Int) (↑(length p1):Int)) (K p0 (drop 64 p1) y31 y32 y33))else k (E_110_0.e0 p0 p1 p2 p3 p4)
noncomputable def Sp.L_110_0:Nat->List Int->List Int->List Int->List Int->List Int->Option E_110_0
 |0,_,_,_,_,_=>none
 |m+1,p0,p1,p2,p3,p4=>S_110_0 (L_110_0 m) some p0 p1 p2 p3 p4
noncomputable def l_110_0(m:Nat)(a:T_110_0.E):Option E_110_0:=L_110_0 m a.1 a.2.1 a.2.2.1 a.2.2.2.1 a.2.2.2.2.1
noncomputable def O_110_0{R:Type}:Orc R:=orL T_110_0 (l_110_0 FU) Y_110_0
theorem OK_110_0{R:Type}:okF (R:=R) sm_110 1 (nf 110 0) O_110_0:=lp ov_110_110_ok (os:=[]) trivial T_110_0 l_110_0 (fun R K k a=>S_110_0 (fun p0 p1 p2 p3 p4=>K (p0,p1,p2,p3,p4,())) k a.1 a.2.1 a.2.2.1 a.2.2.2.1 a.2.2.2.2.1) Y_110_0 (fun _=>rfl) (fun _ _=>rfl) (fun k K a=>by kernel_rfl) (fun Y K a=>by
 unfold S_110_0
 repeat' first|apply gdN|apply condN|(apply Bn_110_121_0_0<;>intros)|(apply Bn_110_121_1_0<;>intros)|(apply Bn_110_121_2_0<;>intros)|(apply Bn_110_121_3_0<;>intros)|rfl) (ok0 _)
noncomputable def T_110_2:PS:=⟨72,[(2,.kc (.ptr 0 [])),(3,.kc (.ptr 1 [])),(4,.kc (.ptr 2 [])),(6,.kc (.ptr 3 [])),(8,.hv (.int .i64)),(10,.hv (.int .i64))],[.mem (.hv (.arr 32 (.int .u8))),.mem (.hv (.arr 8 (.int .u32))),.mem (.hv (.arr 64 (.int .u32))),.mem (.hv (.arr 128 (.int .u8)))],0⟩
inductive Sp.E_110_2 where
 |e0 (p2 p3:List Int)
noncomputable def Sp.B_110_2{R:Type}(r:Option E_110_2)(k0:List Int->List Int->Option R):Option R:=match r with
 |none=>none
 |some (.e0 p2 p3)=>k0 p2 p3
theorem Bn_110_2{A R:Type}{r:Option E_110_2}{f:A->Option R}{k0:List Int->List Int->Option A}{l0:List Int->List Int->Option R}(h0:∀p2 p3,(k0 p2 p3).bind f=l0 p2 p3):(B_110_2 r k0).bind f=B_110_2 r l0:=by
 cases r with
 |none=>rfl
 |some e=>cases e<;>first|apply h0
noncomputable def Y_110_2{R:Type}(k:Ex->St->Option R):E_110_2->Option R
 | .e0 p2 p3=>k (Ex.exit 2) (sx 72 [(2,CV.ptr 0 []),(3,CV.ptr 1 [])] [Blk.mem (CV.pure (Ty.arr 32 (Ty.int u8)) p2),Blk.mem (CV.pure (Ty.arr 8 (Ty.int u32)) p3)])
noncomputable def Sp.S_110_2{R:Type}(K:Int->Int->List Int->List Int->List Int->List Int->Option R)(k:E_110_2->Option R)(p0 p1:Int)(p2 p3 p4 p5:List Int):Option R:=
 bif decide (p1<p0)then gd (sl3 p1 (wrap i64 (p1+64)) 128) (B_110_121_0_1 (L_110_121_0_1 4611686018427387904 (toNat p1) (toNat (wrap i64 (p1+64))-toNat p1) (128-toNat p1) 0 p2 p3 p4 p5 (replicate 64 (0:Int))) fun y19 y20 y21 y22 y23=>B_110_121_1_1 (L_110_121_1_1 4611686018427387904 16 y19 y20 y21 y22 y23) fun y24 y25 y26 y27 y28=>B_110_121_2_1 (L_110_121_2_1 4611686018427387904 0 y24 y25 y26 y27 y28 y25) fun y29 y30 y31 y32 y33=>B_110_121_3_1 (L_110_121_3_1 4611686018427387904 0 y29 y30 y31 y32 y33) fun y34 y35 y36 y37=>K p0 (wrap i64 (p1+64)) y34 y35 y36 y37)else k (E_110_2.e0 p2 p3)
noncomputable def Sp.L_110_2:Nat->Int->Int->List Int->List Int->List Int->List Int->Option E_110_2
 |0,_,_,_,_,_,_=>none
 |m+1,p0,p1,p2,p3,p4,p5=>S_110_2 (L_110_2 m) some p0 p1 p2 p3 p4 p5
noncomputable def l_110_2(m:Nat)(a:T_110_2.E):Option E_110_2:=L_110_2 m a.1 a.2.1 a.2.2.1 a.2.2.2.1 a.2.2.2.2.1 a.2.2.2.2.2.1
noncomputable def O_110_2{R:Type}:Orc R:=orL T_110_2 (l_110_2 FU) Y_110_2
theorem OK_110_2{R:Type}:okF (R:=R) sm_110 1 (ni (nf 110 1) 0) O_110_2:=lp ov_110_110_ok (os:=[]) trivial T_110_2 l_110_2 (fun R K k a=>S_110_2 (fun p0 p1 p2 p3 p4 p5=>K (p0,p1,p2,p3,p4,p5,())) k a.1 a.2.1 a.2.2.1 a.2.2.2.1 a.2.2.2.2.1 a.2.2.2.2.2.1) Y_110_2 (fun _=>rfl) (fun _ _=>rfl) (fun k K a=>by kernel_rfl) (fun Y K a=>by
 unfold S_110_2
 repeat' first|apply gdN|apply condN|(apply Bn_110_121_0_1<;>intros)|(apply Bn_110_121_1_1<;>intros)|(apply Bn_110_121_2_1<;>intros)|(apply Bn_110_121_3_1<;>intros)|rfl) (ok0 _)
noncomputable def T_110_3:PS:=⟨72,[(2,.kc (.ptr 0 [])),(11,.kc (.ptr 1 [])),(60,.hv (.arr 8 (.int .u32))),(61,.hv (.int .i64))],[.mem (.hv (.arr 32 (.int .u8))),.mem (.hv (.arr 32 (.int .u8)))],0⟩
inductive Sp.E_110_3 where
 |e0 (p2 p3:List Int)
noncomputable def Sp.B_110_3{R:Type}(r:Option E_110_3)(k0:List Int->List Int->Option R):Option R:=match r with
 |none=>none
 |some (.e0 p2 p3)=>k0 p2 p3
theorem Bn_110_3{A R:Type}{r:Option E_110_3}{f:A->Option R}{k0:List Int->List Int->Option A}{l0:List Int->List Int->Option R}(h0:∀p2 p3,(k0 p2 p3).bind f=l0 p2 p3):(B_110_3 r k0).bind f=B_110_3 r l0:=by
 cases r with
 |none=>rfl
 |some e=>cases e<;>first|apply h0
noncomputable def Y_110_3{R:Type}(k:Ex->St->Option R):E_110_3->Option R
 | .e0 p2 p3=>k (Ex.exit 4) (sx 72 [(2,CV.ptr 0 []),(11,CV.ptr 1 [])] [Blk.mem (CV.pure (Ty.arr 32 (Ty.int u8)) p2),Blk.mem (CV.pure (Ty.arr 32 (Ty.int u8)) p3)])
noncomputable def Sp.S_110_3{R:Type}(K:List Int->Int->List Int->List Int->Option R)(k:E_110_3->Option R)(p0:List Int)(p1:Int)(p2 p3:List Int):Option R:=
 bif decide (p1<8)then gd (inB p1 8) (gd (sl3 (wrap i64 (4*p1)) 32 32) (gd (inB 0 (32-toNat (wrap i64 (4*p1)))) (gd (decide (toNat (wrap i64 (4*p1))+(0:Nat)<(32:Nat))&&true) (gd (inB 1 (32-toNat (wrap i64 (4*p1)))) (gd (decide (toNat (wrap i64 (4*p1))+(1:Nat)<(32:Nat))&&true) (gd (inB 2 (32-toNat (wrap i64 (4*p1)))) (gd (decide (toNat (wrap i64 (4*p1))+(2:Nat)<(32:Nat))&&true) (gd (inB 3 (32-toNat (wrap i64 (4*p1)))) (gd (decide (toNat (wrap i64 (4*p1))+(3:Nat)<(32:Nat))&&true) (K p0 (wrap i64 (p1+1)) p2 (List.set (List.set (List.set (List.set p3 (toNat (wrap i64 (4*p1))+0) (wrap u8 (Int.fdiv (getD p0 (toNat p1) 0) 16777216))) (toNat (wrap i64 (4*p1))+1) (wrap u8 (Int.fdiv (getD p0 (toNat p1) 0) 65536))) (toNat (wrap i64 (4*p1))+2) (wrap u8 (Int.fdiv (getD p0 (toNat p1) 0) 256))) (toNat (wrap i64 (4*p1))+3) (wrap u8 (getD p0 (toNat p1) 0)))))))))))))else k (E_110_3.e0 p2 p3)
noncomputable def Sp.L_110_3:Nat->List Int->Int->List Int->List Int->Option E_110_3
 |0,_,_,_,_=>none
 |m+1,p0,p1,p2,p3=>S_110_3 (L_110_3 m) some p0 p1 p2 p3
noncomputable def l_110_3(m:Nat)(a:T_110_3.E):Option E_110_3:=L_110_3 m a.1 a.2.1 a.2.2.1 a.2.2.2.1
noncomputable def O_110_3{R:Type}:Orc R:=orL T_110_3 (l_110_3 FU) Y_110_3
theorem OK_110_3{R:Type}:okF (R:=R) sm_110 1 (ni (nf 110 1) 1) O_110_3:=lp ov_110_110_ok (os:=[]) trivial T_110_3 l_110_3 (fun R K k a=>S_110_3 (fun p0 p1 p2 p3=>K (p0,p1,p2,p3,())) k a.1 a.2.1 a.2.2.1 a.2.2.2.1) Y_110_3 (fun _=>rfl) (fun _ _=>rfl) (fun k K a=>by kernel_rfl) (fun Y K a=>by
 unfold S_110_3
 repeat' first|apply gdN|apply condN|rfl) (ok0 _)
noncomputable def T_110_1:PS:=⟨72,[(0,.hv (.slice (.int .u8))),(2,.kc (.ptr 0 [])),(3,.kc (.ptr 1 [])),(4,.kc (.ptr 2 [])),(6,.kc (.ptr 3 [])),(8,.hv (.int .i64))],[.mem (.hv (.arr 32 (.int .u8))),.mem (.hv (.arr 8 (.int .u32))),.mem (.hv (.arr 64 (.int .u32))),.mem (.hv (.arr 128 (.int .u8)))],0⟩
inductive Sp.E_110_1 where
 |e0 (y7:List Int)
noncomputable def Sp.B_110_1{R:Type}(r:Option E_110_1)(k0:List Int->Option R):Option R:=match r with
 |none=>none
 |some (.e0 y7)=>k0 y7
noncomputable def Y_110_1{R:Type}(k:Ex->St->Option R):E_110_1->Option R
 | .e0 y7=>k Ex.ret (sx 72 [(2,CV.ptr 0 [])] [Blk.mem (CV.pure (Ty.arr 32 (Ty.int u8)) y7)])
noncomputable def Sp.S_110_1{R:Type}(k:E_110_1->Option R)(p0:List Int)(p1:Int)(p2 p3 p4 p5:List Int):Option R:=
 gd (sl3 (wrap i64 (p1-8)) 128 128) (gd (inB 0 (128-toNat (wrap i64 (p1-8)))) (gd (decide (toNat (wrap i64 (p1-8))+(0:Nat)<(128:Nat))&&true) (gd (inB 1 (128-toNat (wrap i64 (p1-8)))) (gd (decide (toNat (wrap i64 (p1-8))+(1:Nat)<(128:Nat))&&true) (gd (inB 2 (128-toNat (wrap i64 (p1-8)))) (gd (decide (toNat (wrap i64 (p1-8))+(2:Nat)<(128:Nat))&&true) (gd (inB 3 (128-toNat (wrap i64 (p1-8)))) (gd (decide (toNat (wrap i64 (p1-8))+(3:Nat)<(128:Nat))&&true) (gd (sl3 (wrap i64 (p1-4)) 128 128) (gd (inB 0 (128-toNat (wrap i64 (p1-4)))) (gd (decide (toNat (wrap i64 (p1-4))+(0:Nat)<(128:Nat))&&true) (gd (inB 1 (128-toNat (wrap i64 (p1-4)))) (gd (decide (toNat (wrap i64 (p1-4))+(1:Nat)<(128:Nat))&&true) (gd (inB 2 (128-toNat (wrap i64 (p1-4)))) (gd (decide (toNat (wrap i64 (p1-4))+(2:Nat)<(128:Nat))&&true) (gd (inB 3 (128-toNat (wrap i64 (p1-4)))) (gd (decide (toNat (wrap i64 (p1-4))+(3:Nat)<(128:Nat))&&true) (B_110_2 (L_110_2 4611686018427387904 p1 0 p2 p3 p4 (List.set (List.set (List.set (List.set (List.set (List.set (List.set (List.set p5 (toNat (wrap i64 (p1-8))+0) (wrap u8 (Int.fdiv (wrap u32 (Int.fdiv (wrap u64 (wrap u64 (↑(length p0):Int)*8)) 4294967296)) 16777216))) (toNat (wrap i64 (p1-8))+1) (wrap u8 (Int.fdiv (wrap u32 (Int.fdiv (wrap u64 (wrap u64 (↑(length p0):Int)*8)) 4294967296)) 65536))) (toNat (wrap i64 (p1-8))+2) (wrap u8 (Int.fdiv (wrap u32 (Int.fdiv (wrap u64 (wrap u64 (↑(length p0):Int)*8)) 4294967296)) 256))) (toNat (wrap i64 (p1-8))+3) (wrap u8 (wrap u32 (Int.fdiv (wrap u64 (wrap u64 (↑(length p0):Int)*8)) 4294967296)))) (toNat (wrap i64 (p1-4))+0) (wrap u8 (Int.fdiv (wrap u32 (wrap u64 (wrap u64 (↑(length p0):Int)*8))) 16777216))) (toNat (wrap i64 (p1-4))+1) (wrap u8 (Int.fdiv (wrap u32 (wrap u64 (wrap u64 (↑(length p0):Int)*8))) 65536))) (toNat (wrap i64 (p1-4))+2) (wrap u8 (Int.fdiv (wrap u32 (wrap u64 (wrap u64 (↑(length p0):Int)*8))) 256))) (toNat (wrap i64 (p1-4))+3) (wrap u8 (wrap u32 (wrap u64 (wrap u64 (↑(length p0):Int)*8)))))) fun y4 y5=>B_110_3 (L_110_3 4611686018427387904 y5 0 y4 (replicate 32 (0:Int))) fun y6 y7=>k (E_110_1.e0 y7)))))))))))))))))))
noncomputable def Sp.J_110_1(p0:List Int)(p1:Int)(p2 p3 p4 p5:List Int):Option E_110_1:=S_110_1 some p0 p1 p2 p3 p4 p5
noncomputable def O_110_1{R:Type}:Orc R:=orL T_110_1 (fun a=>J_110_1 a.1 a.2.1 a.2.2.1 a.2.2.2.1 a.2.2.2.2.1 a.2.2.2.2.2.1) Y_110_1
theorem OK_110_1{R:Type}:okF (R:=R) sm_110 1 (nf 110 1) O_110_1:=jp ov_110_110_ok (os:=[O_110_2,O_110_3]) ⟨OK_110_2,OK_110_3,trivial⟩ T_110_1 (fun R k a=>S_110_1 k a.1 a.2.1 a.2.2.1 a.2.2.2.1 a.2.2.2.2.1 a.2.2.2.2.2.1) Y_110_1 (fun k a=>by kernel_rfl) (fun Y a=>by
 unfold S_110_1
 repeat' first|apply gdN|apply condN|(apply Bn_110_2<;>intros)|(apply Bn_110_3<;>intros)|rfl) (ok0 _)
noncomputable def F_110(a0:(List Int)):Option ((List Int)×Unit) :=
 gd p_120 (B_110_0 (L_110_0 4611686018427387904 a0 a0 (replicate 32 (0:Int)) [1779033703,3144134277,1013904242,2773480762,1359893119,2600822924,528734635,1541459225] (v_120.1)) fun y7 y8 y9 y10 y11=>gd (inB (↑(Nat.min (length y8) 128):Int) 128) (gd (decide (toNat (↑(Nat.min (length y8) 128):Int)<128)&&true) (bif decide (wrap i64 ((↑(Nat.min (length y8) 128):Int)+9)>64)then B_110_1 (J_110_1 y7 128 y9 y10 y11 (List.set (over (replicate 128 (0:Int)) 0 (take 128 y8)) (toNat (↑(Nat.min (length y8) 128):Int)) 128)) fun y12=>some (y12,PUnit.unit)else B_110_1 (J_110_1 y7 64 y9 y10 y11 (List.set (over (replicate 128 (0:Int)) 0 (take 128 y8)) (toNat (↑(Nat.min (length y8) 128):Int)) 128)) fun y13=>some (y13,PUnit.unit))))
noncomputable def Sp.p_110(a0:(List Int)):Bool:=(F_110 a0).isSome
noncomputable def Sp.v_110(a0:(List Int)):(List Int)×Unit:=(F_110 a0).getD (dfH R_110)
noncomputable def s_110:Summ:=shN A_110 R_110 (fun x=>p_110 x.1) (fun x=>v_110 x.1)
theorem pv_110(a0:(List Int)){y:(List Int)×Unit}(h:F_110 a0=some y):p_110 a0=true/\v_110 a0=y:=pvG h
theorem run_110(x:HDen A_110)(y:HDen R_110)(h:F_110 x.1=some y):rnF sm_110 2 110 A_110 R_110 x y:=runG ov_110_110_ok (os:=[O_110_0,O_110_1]) ⟨OK_110_0,OK_110_1,trivial⟩ (Eq.trans (by kernel_rfl) h)
end
noncomputable section
abbrev A_87:List Ty:=[(.arr 32 (.int .u8)),(.int .i64),(.int .i64)]
abbrev R_87:List Ty:=[(.arr 32 (.int .u8))]
noncomputable def sm_87:Nat->Option Summ:=smL [(110,s_110)]
noncomputable def T_87_0:PS:=⟨21,[(2,.hv (.int .i64)),(3,.kc (.ptr 0 [])),(6,.kc (.ptr 1 [])),(7,.hv (.int .i64))],[.mem (.hv (.arr 32 (.int .u8))),.mem (.hv (.arr 32 (.int .u8)))],0⟩
inductive Sp.E_87_0 where
 |e0 (p2 p3:List Int)
noncomputable def Sp.B_87_0{R:Type}(r:Option E_87_0)(k0:List Int->List Int->Option R):Option R:=match r with
 |none=>none
 |some (.e0 p2 p3)=>k0 p2 p3
noncomputable def Y_87_0{R:Type}(k:Ex->St->Option R):E_87_0->Option R
 | .e0 p2 p3=>k (Ex.exit 0) (sx 21 [(3,CV.ptr 0 []),(6,CV.ptr 1 [])] [Blk.mem (CV.pure (Ty.arr 32 (Ty.int u8)) p2),Blk.mem (CV.pure (Ty.arr 32 (Ty.int u8)) p3)])
noncomputable def Sp.S_87_0{R:Type}(K:Int->Int->List Int->List Int->Option R)(k:E_87_0->Option R)(p0 p1:Int)(p2 p3:List Int):Option R:=
 bif decide (p1<p0)then gd (room (1+length (take 32 (drop 0 p2))) 1) (gd (p_110 ([wrap u8 p1]++take 32 (drop 0 p2))) (K p0 (wrap i64 (p1+1)) ((v_110 ([wrap u8 p1]++take 32 (drop 0 p2))).1) p3))else k (E_87_0.e0 p2 p3)
noncomputable def Sp.L_87_0:Nat->Int->Int->List Int->List Int->Option E_87_0
 |0,_,_,_,_=>none
 |m+1,p0,p1,p2,p3=>S_87_0 (L_87_0 m) some p0 p1 p2 p3
noncomputable def l_87_0(m:Nat)(a:T_87_0.E):Option E_87_0:=L_87_0 m a.1 a.2.1 a.2.2.1 a.2.2.2.1
noncomputable def O_87_0{R:Type}:Orc R:=orL T_87_0 (l_87_0 FU) Y_87_0
theorem OK_87_0{R:Type}:okF (R:=R) sm_87 0 (nf 87 0) O_87_0:=lp0 T_87_0 l_87_0 (fun R K k a=>S_87_0 (fun p0 p1 p2 p3=>K (p0,p1,p2,p3,())) k a.1 a.2.1 a.2.2.1 a.2.2.2.1) Y_87_0 (fun _ _ _=>by kernel_rfl) (fun _ _ _=>by
 unfold S_87_0
 repeat' first|apply gdN|apply condN|rfl) (ok0 _)
noncomputable def F_87(a0:(List Int))(a1 a2:Int):Option ((List Int)×Unit) :=
 B_87_0 (L_87_0 4611686018427387904 a2 a1 a0 (replicate 32 (0:Int))) fun y2 y3=>some (y2,PUnit.unit)
noncomputable def Sp.p_87(a0:(List Int))(a1 a2:Int):Bool:=(F_87 a0 a1 a2).isSome
noncomputable def Sp.v_87(a0:(List Int))(a1 a2:Int):(List Int)×Unit:=(F_87 a0 a1 a2).getD (dfH R_87)
noncomputable def s_87:Summ:=shN A_87 R_87 (fun x=>p_87 x.1 x.2.1 x.2.2.1) (fun x=>v_87 x.1 x.2.1 x.2.2.1)
theorem pv_87(a0:(List Int))(a1 a2:Int){y:(List Int)×Unit}(h:F_87 a0 a1 a2=some y):p_87 a0 a1 a2=true/\v_87 a0 a1 a2=y:=pvG h
theorem run_87(x:HDen A_87)(y:HDen R_87)(h:F_87 x.1 x.2.1 x.2.2.1=some y):rnF sm_87 1 87 A_87 R_87 x y:=runG noO_ok (os:=[O_87_0]) ⟨OK_87_0,trivial⟩ (Eq.trans (by kernel_rfl) h)
end
noncomputable section
abbrev A_88:List Ty:=[(.slice (.arr 32 (.int .u8)))]
abbrev R_88:List Ty:=[(.arr 32 (.int .u8))]
noncomputable def sm_88:Nat->Option Summ:=smL [(110,s_110)]
noncomputable def T_88_0:PS:=⟨18,[(2,.kc (.ptr 0 [])),(3,.kc (.whole 1)),(6,.hv (.slice (.arr 32 (.int .u8)))),(7,.hv (.int .i64)),(8,.hv (.int .i64))],[.mem (.hv (.arr 32 (.int .u8))),.vec 5 (.int .u8)],0⟩
inductive Sp.E_88_0 where
 |e0 (p3 p4:List Int)
noncomputable def Sp.B_88_0{R:Type}(r:Option E_88_0)(k0:List Int->List Int->Option R):Option R:=match r with
 |none=>none
 |some (.e0 p3 p4)=>k0 p3 p4
noncomputable def Y_88_0{R:Type}(k:Ex->St->Option R):E_88_0->Option R
 | .e0 p3 p4=>k (Ex.exit 0) (sx 18 [(2,CV.ptr 0 []),(3,CV.whole 1)] [Blk.mem (CV.pure (Ty.arr 32 (Ty.int u8)) p3),Blk.vec 5 (Ty.int u8) p4])
noncomputable def Sp.S_88_0{R:Type}(K:List (List Int)->Int->Int->List Int->List Int->Option R)(k:E_88_0->Option R)(p0:List (List Int))(p1 p2:Int)(p3 p4:List Int):Option R:=
 bif decide (p2<p1)then gd (inB p2 (length p0)) (gd (room (length p4+length (take 32 (drop 0 (getD p0 (toNat p2) (Ty.dflt (Ty.arr 32 (Ty.int u8))))))) 1) (K p0 p1 (wrap i64 (p2+1)) p3 (p4++take 32 (drop 0 (getD p0 (toNat p2) (Ty.dflt (Ty.arr 32 (Ty.int u8))))))))else k (E_88_0.e0 p3 p4)
noncomputable def Sp.L_88_0:Nat->List (List Int)->Int->Int->List Int->List Int->Option E_88_0
 |0,_,_,_,_,_=>none
 |m+1,p0,p1,p2,p3,p4=>S_88_0 (L_88_0 m) some p0 p1 p2 p3 p4
noncomputable def l_88_0(m:Nat)(a:T_88_0.E):Option E_88_0:=L_88_0 m a.1 a.2.1 a.2.2.1 a.2.2.2.1 a.2.2.2.2.1
noncomputable def O_88_0{R:Type}:Orc R:=orL T_88_0 (l_88_0 FU) Y_88_0
theorem OK_88_0{R:Type}:okF (R:=R) sm_88 0 (nf 88 0) O_88_0:=lp0 T_88_0 l_88_0 (fun R K k a=>S_88_0 (fun p0 p1 p2 p3 p4=>K (p0,p1,p2,p3,p4,())) k a.1 a.2.1 a.2.2.1 a.2.2.2.1 a.2.2.2.2.1) Y_88_0 (fun _ _ _=>by kernel_rfl) (fun _ _ _=>by
 unfold S_88_0
 repeat' first|apply gdN|apply condN|rfl) (ok0 _)
noncomputable def F_88(a0:(List (List Int))):Option ((List Int)×Unit) :=
 B_88_0 (L_88_0 4611686018427387904 a0 (↑(length a0):Int) 0 (replicate 32 (0:Int)) []) fun y2 y3=>gd (p_110 y3) (some ((v_110 y3).1,PUnit.unit))
noncomputable def Sp.p_88(a0:(List (List Int))):Bool:=(F_88 a0).isSome
noncomputable def Sp.v_88(a0:(List (List Int))):(List Int)×Unit:=(F_88 a0).getD (dfH R_88)
noncomputable def s_88:Summ:=shN A_88 R_88 (fun x=>p_88 x.1) (fun x=>v_88 x.1)
theorem pv_88(a0:(List (List Int))){y:(List Int)×Unit}(h:F_88 a0=some y):p_88 a0=true/\v_88 a0=y:=pvG h
theorem run_88(x:HDen A_88)(y:HDen R_88)(h:F_88 x.1=some y):rnF sm_88 1 88 A_88 R_88 x y:=runG noO_ok (os:=[O_88_0]) ⟨OK_88_0,trivial⟩ (Eq.trans (by kernel_rfl) h)
end
noncomputable section
abbrev A_89:List Ty:=[(.arr 32 (.int .u8)),(.arr 32 (.int .u8))]
abbrev R_89:List Ty:=[(.arr 32 (.int .u8))]
noncomputable def sm_89:Nat->Option Summ:=smL [(110,s_110)]
noncomputable def F_89(a0 a1:(List Int)):Option ((List Int)×Unit) :=
 gd (room (1+length (take 32 (drop 0 a0))) 1) (gd (room (length ([255]++take 32 (drop 0 a0))+length (take 32 (drop 0 a1))) 1) (gd (p_110 ([255]++take 32 (drop 0 a0)++take 32 (drop 0 a1))) (some ((v_110 ([255]++take 32 (drop 0 a0)++take 32 (drop 0 a1))).1,PUnit.unit))))
noncomputable def Sp.p_89(a0 a1:(List Int)):Bool:=(F_89 a0 a1).isSome
noncomputable def Sp.v_89(a0 a1:(List Int)):(List Int)×Unit:=(F_89 a0 a1).getD (dfH R_89)
noncomputable def s_89:Summ:=shN A_89 R_89 (fun x=>p_89 x.1 x.2.1) (fun x=>v_89 x.1 x.2.1)
theorem pv_89(a0 a1:(List Int)){y:(List Int)×Unit}(h:F_89 a0 a1=some y):p_89 a0 a1=true/\v_89 a0 a1=y:=pvG h
theorem run_89(x:HDen A_89)(y:HDen R_89)(h:F_89 x.1 x.2.1=some y):rnF sm_89 1 89 A_89 R_89 x y:=runG noO_ok (os:=[]) trivial (Eq.trans (by kernel_rfl) h)
end
noncomputable section
abbrev Zy62_0:Ty:=(.pair (.int .i64) (.pair (.slice (.arr 32 (.int .u8))) (.pair (.slice (.arr 32 (.int .u8))) .unit)))
abbrev Zt62_1:Type:=Int×List (List Int)×List (List Int)×Unit
abbrev A_62:List Ty:=[(.arr 32 (.int .u8)),(.arr 32 (.int .u8)),(.pair (.int .i64) (.pair (.slice (.arr 32 (.int .u8))) (.pair (.slice (.arr 32 (.int .u8))) .unit)))]
abbrev R_62:List Ty:=[.bool]
noncomputable def sm_62:Nat->Option Summ:=smL [(85,s_85),(86,s_86),(87,s_87),(88,s_88),(89,s_89)]
noncomputable def T_62_0:PS:=⟨61,[(3,.kc (.ptr 0 [])),(5,.kc (.ptr 1 [])),(7,.kc (.whole 2)),(17,.hv (.slice (.int .i64))),(18,.hv (.int .i64)),(19,.hv (.int .i64))],[.mem (.hv (.arr 32 (.int .u8))),.mem (.hv Zy62_0),.vec 23 (.arr 32 (.int .u8))],0⟩
inductive Sp.E_62_0 where
 |e0 (p3:List Int) (p4:Zt62_1) (p5:List (List Int))
noncomputable def Sp.B_62_0{R:Type}(r:Option E_62_0)(k0:List Int->Zt62_1->List (List Int)->Option R):Option R:=match r with
 |none=>none
 |some (.e0 p3 p4 p5)=>k0 p3 p4 p5
noncomputable def Y_62_0{R:Type}(k:Ex->St->Option R):E_62_0->Option R
 | .e0 p3 p4 p5=>k (Ex.exit 0) (sx 61 [(3,CV.ptr 0 []),(5,CV.ptr 1 []),(7,CV.whole 2)] [Blk.mem (CV.pure (Ty.arr 32 (Ty.int u8)) p3),Blk.mem (CV.pure (Ty.pair (Ty.int i64) (Ty.pair (Ty.slice (Ty.arr 32 (Ty.int u8))) (Ty.pair (Ty.slice (Ty.arr 32 (Ty.int u8))) Ty.unit))) p4),Blk.vec 23 (Ty.arr 32 (Ty.int u8)) p5])
noncomputable def Sp.S_62_0{R:Type}(K:List Int->Int->Int->List Int->(Int×List (List Int)×List (List Int)×Unit)->List (List Int)->Option R)(k:E_62_0->Option R)(p0:List Int)(p1 p2:Int)(p3:List Int)(p4:Int×List (List Int)×List (List Int)×Unit)(p5:List (List Int)):Option R:=
 bif decide (p2<p1)then gd (inB p2 (length p0)) (gd (inB p2 (length (p4.2.1))) (gd (p_87 (getD (p4.2.1) (toNat p2) (Ty.dflt (Ty.arr 32 (Ty.int u8)))) (getD p0 (toNat p2) 0) 15) (gd (room (length p5+1) 32) (K p0 p1 (wrap i64 (p2+1)) p3 p4 (p5++[(v_87 (getD (p4.2.1) (toNat p2) (Ty.dflt (Ty.arr 32 (Ty.int u8)))) (getD p0 (toNat p2) 0) 15).1])))))else k (E_62_0.e0 p3 p4 p5)
noncomputable def Sp.L_62_0:Nat->List Int->Int->Int->List Int->(Int×List (List Int)×List (List Int)×Unit)->List (List Int)->Option E_62_0
 |0,_,_,_,_,_,_=>none
 |m+1,p0,p1,p2,p3,p4,p5=>S_62_0 (L_62_0 m) some p0 p1 p2 p3 p4 p5
noncomputable def l_62_0(m:Nat)(a:T_62_0.E):Option E_62_0:=L_62_0 m a.1 a.2.1 a.2.2.1 a.2.2.2.1 a.2.2.2.2.1 a.2.2.2.2.2.1
noncomputable def O_62_0{R:Type}:Orc R:=orL T_62_0 (l_62_0 FU) Y_62_0
theorem OK_62_0{R:Type}:okF (R:=R) sm_62 0 (nf 62 0) O_62_0:=lp0 T_62_0 l_62_0 (fun R K k a=>S_62_0 (fun p0 p1 p2 p3 p4 p5=>K (p0,p1,p2,p3,p4,p5,())) k a.1 a.2.1 a.2.2.1 a.2.2.2.1 a.2.2.2.2.1 a.2.2.2.2.2.1) Y_62_0 (fun _ _ _=>by kernel_rfl) (fun _ _ _=>by
 unfold S_62_0
 repeat' first|apply gdN|apply condN|rfl) (ok0 _)
noncomputable def T_62_1:PS:=⟨61,[(3,.kc (.ptr 0 [])),(5,.kc (.ptr 1 [])),(10,.kc (.ptr 2 [])),(38,.hv (.slice (.arr 32 (.int .u8)))),(39,.hv (.int .i64)),(40,.hv (.int .i64))],[.mem (.hv (.arr 32 (.int .u8))),.mem (.hv Zy62_0),.mem (.hv (.arr 32 (.int .u8)))],0⟩
inductive Sp.E_62_1 where
 |e0 (p3 p5:List Int)
noncomputable def Sp.B_62_1{R:Type}(r:Option E_62_1)(k0:List Int->List Int->Option R):Option R:=match r with
 |none=>none
 |some (.e0 p3 p5)=>k0 p3 p5
noncomputable def Y_62_1{R:Type}(k:Ex->St->Option R):E_62_1->Option R
 | .e0 p3 p5=>k (Ex.exit 2) (sx 61 [(3,CV.ptr 0 []),(10,CV.ptr 1 [])] [Blk.mem (CV.pure (Ty.arr 32 (Ty.int u8)) p3),Blk.mem (CV.pure (Ty.arr 32 (Ty.int u8)) p5)])
noncomputable def Sp.S_62_1{R:Type}(K:List (List Int)->Int->Int->List Int->(Int×List (List Int)×List (List Int)×Unit)->List Int->Option R)(k:E_62_1->Option R)(p0:List (List Int))(p1 p2:Int)(p3:List Int)(p4:Int×List (List Int)×List (List Int)×Unit)(p5:List Int):Option R:=
 bif decide (p2<p1)then gd (inB p2 (length p0)) (gd (decide (0<=p2)) (bif Sp.andI i64 (Int.fdiv (p4.1) (2^Nat.min (toNat p2) 64)) (1:Int)==(1:Int)then gd (p_89 (getD p0 (toNat p2) (Ty.dflt (Ty.arr 32 (Ty.int u8)))) p5) (K p0 p1 (wrap i64 (p2+1)) p3 p4 ((v_89 (getD p0 (toNat p2) (Ty.dflt (Ty.arr 32 (Ty.int u8)))) p5).1))else gd (p_89 p5 (getD p0 (toNat p2) (Ty.dflt (Ty.arr 32 (Ty.int u8))))) (K p0 p1 (wrap i64 (p2+1)) p3 p4 ((v_89 p5 (getD p0 (toNat p2) (Ty.dflt (Ty.arr 32 (Ty.int u8))))).1))))else k (E_62_1.e0 p3 p5)
noncomputable def Sp.L_62_1:Nat->List (List Int)->Int->Int->List Int->(Int×List (List Int)×List (List Int)×Unit)->List Int->Option E_62_1
 |0,_,_,_,_,_,_=>none
 |m+1,p0,p1,p2,p3,p4,p5=>S_62_1 (L_62_1 m) some p0 p1 p2 p3 p4 p5
noncomputable def l_62_1(m:Nat)(a:T_62_1.E):Option E_62_1:=L_62_1 m a.1 a.2.1 a.2.2.1 a.2.2.2.1 a.2.2.2.2.1 a.2.2.2.2.2.1
noncomputable def O_62_1{R:Type}:Orc R:=orL T_62_1 (l_62_1 FU) Y_62_1
theorem OK_62_1{R:Type}:okF (R:=R) sm_62 0 (nf 62 1) O_62_1:=lp0 T_62_1 l_62_1 (fun R K k a=>S_62_1 (fun p0 p1 p2 p3 p4 p5=>K (p0,p1,p2,p3,p4,p5,())) k a.1 a.2.1 a.2.2.1 a.2.2.2.1 a.2.2.2.2.1 a.2.2.2.2.2.1) Y_62_1 (fun _ _ _=>by kernel_rfl) (fun _ _ _=>by
 unfold S_62_1
 repeat' first|apply gdN|apply condN|rfl) (ok0 _)
noncomputable def F_62(a0 a1:(List Int))(a2:(Int×((List (List Int))×((List (List Int))×Unit)))):Option (Bool×Unit) :=
 gd (p_85 a2) (bif !(v_85 a2).1 then some (false,PUnit.unit)else gd (p_86 a1) (B_62_0 (L_62_0 4611686018427387904 ((v_86 a1).1) (↑(length ((v_86 a1).1)):Int) 0 a0 a2 []) fun y5 y6 y7=>gd (p_88 y7) (B_62_1 (L_62_1 4611686018427387904 (y6.2.2.1) (↑(length (y6.2.2.1)):Int) 0 y5 y6 ((v_88 y7).1)) fun y8 y9=>some (Ty.beq (Ty.arr 32 (Ty.int u8)) y9 y8,PUnit.unit))))
noncomputable def Sp.p_62(a0 a1:(List Int))(a2:(Int×((List (List Int))×((List (List Int))×Unit)))):Bool:=(F_62 a0 a1 a2).isSome
noncomputable def Sp.v_62(a0 a1:(List Int))(a2:(Int×((List (List Int))×((List (List Int))×Unit)))):Bool×Unit:=(F_62 a0 a1 a2).getD (dfH R_62)
noncomputable def s_62:Summ:=shN A_62 R_62 (fun x=>p_62 x.1 x.2.1 x.2.2.1) (fun x=>v_62 x.1 x.2.1 x.2.2.1)
theorem pv_62(a0 a1:(List Int))(a2:(Int×((List (List Int))×((List (List Int))×Unit)))){y:Bool×Unit}(h:F_62 a0 a1 a2=some y):p_62 a0 a1 a2=true/\v_62 a0 a1 a2=y:=pvG h
theorem run_62(x:HDen A_62)(y:HDen R_62)(h:F_62 x.1 x.2.1 x.2.2.1=some y):rnF sm_62 1 62 A_62 R_62 x y:=runG noO_ok (os:=[O_62_0,O_62_1]) ⟨OK_62_0,OK_62_1,trivial⟩ (Eq.trans (by kernel_rfl) h)
end
noncomputable section
abbrev A_119:List Ty:=[(.slice (.slice (.int .u32)))]
abbrev R_119:List Ty:=[(.slice (.int .u32))]
noncomputable def sm_119:Nat->Option Summ:=smL [(126,s_126)]
noncomputable def T_119_0:PS:=⟨36,[(0,.hv (.slice (.slice (.int .u32)))),(3,.hv (.int .i64)),(9,.hv (.slice (.slice (.int .u32)))),(10,.hv (.int .i64)),(11,.hv (.int .i64))],[],0⟩
inductive Sp.E_119_0 where
 |e0 (p0:List (List Int)) (p1:Int)
noncomputable def Sp.B_119_0{R:Type}(r:Option E_119_0)(k0:List (List Int)->Int->Option R):Option R:=match r with
 |none=>none
 |some (.e0 p0 p1)=>k0 p0 p1
noncomputable def Y_119_0{R:Type}(k:Ex->St->Option R):E_119_0->Option R
 | .e0 p0 p1=>k (Ex.exit 0) (sx 36 [(0,CV.pure (Ty.slice (Ty.slice (Ty.int u32))) p0),(3,CV.int i64 p1)] [])
noncomputable def Sp.S_119_0{R:Type}(K:List (List Int)->Int->List (List Int)->Int->Int->Option R)(k:E_119_0->Option R)(p0:List (List Int))(p1:Int)(p2:List (List Int))(p3 p4:Int):Option R:=
 bif decide (p4<p3)then gd (inB p4 (length p2)) (bif decide (wrap i64 (p1+(↑(length (getD p2 (toNat p4) (Ty.dflt (Ty.slice (Ty.int u32))))):Int))<0)then none else K p0 (wrap i64 (p1+(↑(length (getD p2 (toNat p4) (Ty.dflt (Ty.slice (Ty.int u32))))):Int))) p2 p3 (wrap i64 (p4+1)))else k (E_119_0.e0 p0 p1)
noncomputable def Sp.L_119_0:Nat->List (List Int)->Int->List (List Int)->Int->Int->Option E_119_0
 |0,_,_,_,_,_=>none
 |m+1,p0,p1,p2,p3,p4=>S_119_0 (L_119_0 m) some p0 p1 p2 p3 p4
noncomputable def l_119_0(m:Nat)(a:T_119_0.E):Option E_119_0:=L_119_0 m a.1 a.2.1 a.2.2.1 a.2.2.2.1 a.2.2.2.2.1
noncomputable def O_119_0{R:Type}:Orc R:=orL T_119_0 (l_119_0 FU) Y_119_0
theorem OK_119_0{R:Type}:okF (R:=R) sm_119 0 (nf 119 0) O_119_0:=lp0 T_119_0 l_119_0 (fun R K k a=>S_119_0 (fun p0 p1 p2 p3 p4=>K (p0,p1,p2,p3,p4,())) k a.1 a.2.1 a.2.2.1 a.2.2.2.1 a.2.2.2.2.1) Y_119_0 (fun _ _ _=>by kernel_rfl) (fun _ _ _=>by
 unfold S_119_0
 repeat' first|apply gdN|apply condN|rfl) (ok0 _)
noncomputable def T_119_1:PS:=⟨36,[(6,.kc (.whole 0)),(25,.hv (.slice (.slice (.int .u32)))),(26,.hv (.int .i64)),(27,.hv (.int .i64))],[.vec 42 (.int .u32)],0⟩
inductive Sp.E_119_1 where
 |e0 (p3:List Int)
noncomputable def Sp.B_119_1{R:Type}(r:Option E_119_1)(k0:List Int->Option R):Option R:=match r with
 |none=>none
 |some (.e0 p3)=>k0 p3
noncomputable def Y_119_1{R:Type}(k:Ex->St->Option R):E_119_1->Option R
 | .e0 p3=>k (Ex.exit 2) (sx 36 [(6,CV.whole 0)] [Blk.vec 42 (Ty.int u32) p3])
noncomputable def Sp.S_119_1{R:Type}(K:List (List Int)->Int->Int->List Int->Option R)(k:E_119_1->Option R)(p0:List (List Int))(p1 p2:Int)(p3:List Int):Option R:=
 bif decide (p2<p1)then gd (inB p2 (length p0)) (gd (room (length p3+length (getD p0 (toNat p2) (Ty.dflt (Ty.slice (Ty.int u32))))) 4) (K p0 p1 (wrap i64 (p2+1)) (p3++getD p0 (toNat p2) (Ty.dflt (Ty.slice (Ty.int u32))))))else k (E_119_1.e0 p3)
noncomputable def Sp.L_119_1:Nat->List (List Int)->Int->Int->List Int->Option E_119_1
 |0,_,_,_,_=>none
 |m+1,p0,p1,p2,p3=>S_119_1 (L_119_1 m) some p0 p1 p2 p3
noncomputable def l_119_1(m:Nat)(a:T_119_1.E):Option E_119_1:=L_119_1 m a.1 a.2.1 a.2.2.1 a.2.2.2.1
noncomputable def O_119_1{R:Type}:Orc R:=orL T_119_1 (l_119_1 FU) Y_119_1
theorem OK_119_1{R:Type}:okF (R:=R) sm_119 0 (nf 119 1) O_119_1:=lp0 T_119_1 l_119_1 (fun R K k a=>S_119_1 (fun p0 p1 p2 p3=>K (p0,p1,p2,p3,())) k a.1 a.2.1 a.2.2.1 a.2.2.2.1) Y_119_1 (fun _ _ _=>by kernel_rfl) (fun _ _ _=>by
 unfold S_119_1
 repeat' first|apply gdN|apply condN|rfl) (ok0 _)
noncomputable def F_119(a0:(List (List Int))):Option ((List Int)×Unit) :=
 B_119_0 (L_119_0 4611686018427387904 a0 0 a0 (↑(length a0):Int) 0) fun y3 y4=>gd (decide (0<=y4)&&room (toNat y4) 4) (B_119_1 (L_119_1 4611686018427387904 y3 (↑(length y3):Int) 0 []) fun y5=>some (y5,PUnit.unit))
noncomputable def Sp.p_119(a0:(List (List Int))):Bool:=(F_119 a0).isSome
noncomputable def Sp.v_119(a0:(List (List Int))):(List Int)×Unit:=(F_119 a0).getD (dfH R_119)
noncomputable def s_119:Summ:=shS A_119 R_119 (fun x=>p_119 x.1) (fun x=>v_119 x.1)
theorem pv_119(a0:(List (List Int))){y:(List Int)×Unit}(h:F_119 a0=some y):p_119 a0=true/\v_119 a0=y:=pvG h
theorem run_119(x:HDen A_119)(y:HDen R_119)(h:F_119 x.1=some y):rnF sm_119 1 119 A_119 R_119 x y:=runG noO_ok (os:=[O_119_0,O_119_1]) ⟨OK_119_0,OK_119_1,trivial⟩ (Eq.trans (by kernel_rfl) h)
end
noncomputable section
abbrev A_109:List Ty:=[(.pair (.pair (.slice (.int .u32)) (.pair (.slice (.int .i64)) (.pair (.int .i64) .unit))) (.pair (.arr 32 (.int .u8)) .unit)),(.int .i64)]
abbrev R_109:List Ty:=[.bool]
noncomputable def sm_109:Nat->Option Summ:=smL [(62,s_62),(71,s_71),(84,s_84),(110,s_110),(116,s_116),(119,s_119)]
noncomputable def F_109(a0:(((List Int)×((List Int)×(Int×Unit)))×((List Int)×Unit)))(a1:Int):Option (Bool×Unit) :=
 gd (p_71 a0 a1) (bif !(v_71 a0 a1).2.1 then some (false,PUnit.unit)else gd (p_84 a0 a1) (gd (sl3 1 3 (↑(length ((v_84 a0 a1).1)):Int)) (gd (sl3 564 (wrap i64 (564+(v_71 a0 a1).1.2.1)) (↑(length ((v_84 a0 a1).1)):Int)) (gd (p_119 [take 2 (drop 1 ((v_84 a0 a1).1)),take (toNat (wrap i64 (564+(v_71 a0 a1).1.2.1))-564) (drop 564 ((v_84 a0 a1).1))]) (gd (p_116 ((v_119 [take 2 (drop 1 ((v_84 a0 a1).1)),take (toNat (wrap i64 (564+(v_71 a0 a1).1.2.1))-564) (drop 564 ((v_84 a0 a1).1))]).1)) (gd (p_110 ((v_116 ((v_119 [take 2 (drop 1 ((v_84 a0 a1).1)),take (toNat (wrap i64 (564+(v_71 a0 a1).1.2.1))-564) (drop 564 ((v_84 a0 a1).1))]).1)).1)) (bif Ty.beq (Ty.arr 32 (Ty.int u8)) ((v_110 ((v_116 ((v_119 [take 2 (drop 1 ((v_84 a0 a1).1)),take (toNat (wrap i64 (564+(v_71 a0 a1).1.2.1))-564) (drop 564 ((v_84 a0 a1).1))]).1)).1)).1) ((v_71 a0 a1).1.2.2.1)then gd (p_62 (a0.2.1) ((v_71 a0 a1).1.2.2.1) ((v_71 a0 a1).1.2.2.2.1)) (some ((v_62 (a0.2.1) ((v_71 a0 a1).1.2.2.1) ((v_71 a0 a1).1.2.2.2.1)).1,PUnit.unit))else some (false,PUnit.unit))))))))
noncomputable def Sp.p_109(a0:(((List Int)×((List Int)×(Int×Unit)))×((List Int)×Unit)))(a1:Int):Bool:=(F_109 a0 a1).isSome
noncomputable def Sp.v_109(a0:(((List Int)×((List Int)×(Int×Unit)))×((List Int)×Unit)))(a1:Int):Bool×Unit:=(F_109 a0 a1).getD (dfH R_109)
noncomputable def s_109:Summ:=shN A_109 R_109 (fun x=>p_109 x.1 x.2.1) (fun x=>v_109 x.1 x.2.1)
theorem pv_109(a0:(((List Int)×((List Int)×(Int×Unit)))×((List Int)×Unit)))(a1:Int){y:Bool×Unit}(h:F_109 a0 a1=some y):p_109 a0 a1=true/\v_109 a0 a1=y:=pvG h
theorem run_109(x:HDen A_109)(y:HDen R_109)(h:F_109 x.1 x.2.1=some y):rnF sm_109 1 109 A_109 R_109 x y:=runG noO_ok (os:=[]) trivial (Eq.trans (by kernel_rfl) h)
end
noncomputable section
abbrev A_82:List Ty:=[(.pair (.pair (.slice (.int .u32)) (.pair (.slice (.int .i64)) (.pair (.int .i64) .unit))) (.pair (.arr 32 (.int .u8)) .unit))]
abbrev R_82:List Ty:=[(.int .i64),(.int .i64)]
noncomputable def sm_82:Nat->Option Summ:=smL [(33,s_33),(71,s_71),(93,s_93),(109,s_109)]
noncomputable def T_82_0:PS:=⟨45,[(1,.kc (.ptr 0 [])),(4,.hv (.int .i64)),(5,.hv (.int .i64)),(12,.hv (.int .i64))],[.mem (.hv (.pair (.pair (.slice (.int .u32)) (.pair (.slice (.int .i64)) (.pair (.int .i64) .unit))) (.pair (.arr 32 (.int .u8)) .unit)))],0⟩
inductive Sp.E_82_0 where
 |e0 (p0 p1:Int)
noncomputable def Sp.B_82_0{R:Type}(r:Option E_82_0)(k0:Int->Int->Option R):Option R:=match r with
 |none=>none
 |some (.e0 p0 p1)=>k0 p0 p1
noncomputable def Y_82_0{R:Type}(k:Ex->St->Option R):E_82_0->Option R
 | .e0 p0 p1=>k (Ex.exit 0) (sx 45 [(4,CV.int i64 p0),(5,CV.int i64 p1)] [])
noncomputable def Sp.S_82_0{R:Type}(K:Int->Int->Int->((List Int×List Int×Int×Unit)×List Int×Unit)->Option R)(k:E_82_0->Option R)(p0 p1 p2:Int)(p3:(List Int×List Int×Int×Unit)×List Int×Unit):Option R:=
 bif decide (p2<2)then gd (p_71 p3 p2) (bif(v_71 p3 p2).2.1 then bif decide ((v_71 p3 p2).1.1>p1)then gd (p_93 p3 p2) (bif(v_93 p3 p2).1 then gd (p_109 p3 p2) (bif(v_109 p3 p2).1 then K p2 ((v_71 p3 p2).1.1) (wrap i64 (p2+1)) p3 else K p0 p1 (wrap i64 (p2+1)) p3)else K p0 p1 (wrap i64 (p2+1)) p3)else K p0 p1 (wrap i64 (p2+1)) p3 else K p0 p1 (wrap i64 (p2+1)) p3)else k (E_82_0.e0 p0 p1)
noncomputable def Sp.L_82_0:Nat->Int->Int->Int->((List Int×List Int×Int×Unit)×List Int×Unit)->Option E_82_0
 |0,_,_,_,_=>none
 |m+1,p0,p1,p2,p3=>S_82_0 (L_82_0 m) some p0 p1 p2 p3
noncomputable def l_82_0(m:Nat)(a:T_82_0.E):Option E_82_0:=L_82_0 m a.1 a.2.1 a.2.2.1 a.2.2.2.1
noncomputable def O_82_0{R:Type}:Orc R:=orL T_82_0 (l_82_0 FU) Y_82_0
theorem OK_82_0{R:Type}:okF (R:=R) sm_82 0 (nf 82 0) O_82_0:=lp0 T_82_0 l_82_0 (fun R K k a=>S_82_0 (fun p0 p1 p2 p3=>K (p0,p1,p2,p3,())) k a.1 a.2.1 a.2.2.1 a.2.2.2.1) Y_82_0 (fun _ _ _=>by kernel_rfl) (fun _ _ _=>by
 unfold S_82_0
 repeat' first|apply gdN|apply condN|rfl) (ok0 _)
noncomputable def F_82(a0:(((List Int)×((List Int)×(Int×Unit)))×((List Int)×Unit))):Option (Int×Int×Unit) :=
 gd (p_33 a0) (bif !(v_33 a0).1 then some (0,1,PUnit.unit)else B_82_0 (L_82_0 4611686018427387904 0 0 0 a0) fun y2 y3=>bif y3==0 then some (0,7,PUnit.unit)else some (y2,0,PUnit.unit))
noncomputable def Sp.p_82(a0:(((List Int)×((List Int)×(Int×Unit)))×((List Int)×Unit))):Bool:=(F_82 a0).isSome
noncomputable def Sp.v_82(a0:(((List Int)×((List Int)×(Int×Unit)))×((List Int)×Unit))):Int×Int×Unit:=(F_82 a0).getD (dfH R_82)
noncomputable def s_82:Summ:=shN A_82 R_82 (fun x=>p_82 x.1) (fun x=>v_82 x.1)
theorem pv_82(a0:(((List Int)×((List Int)×(Int×Unit)))×((List Int)×Unit))){y:Int×Int×Unit}(h:F_82 a0=some y):p_82 a0=true/\v_82 a0=y:=pvG h
theorem run_82(x:HDen A_82)(y:HDen R_82)(h:F_82 x.1=some y):rnF sm_82 1 82 A_82 R_82 x y:=runG noO_ok (os:=[O_82_0]) ⟨OK_82_0,trivial⟩ (Eq.trans (by kernel_rfl) h)
end
noncomputable section
abbrev A_54:List Ty:=[(.pair (.pair (.slice (.int .u32)) (.pair (.slice (.int .i64)) (.pair (.int .i64) .unit))) (.pair (.arr 32 (.int .u8)) .unit))]
abbrev R_54:List Ty:=[(.int .i64),.bool]
noncomputable def sm_54:Nat->Option Summ:=smL [(82,s_82)]
noncomputable def F_54(a0:(((List Int)×((List Int)×(Int×Unit)))×((List Int)×Unit))):Option (Int×Bool×Unit) :=
 gd (p_82 a0) (some ((v_82 a0).1,(v_82 a0).2.1==0,PUnit.unit))
noncomputable def Sp.p_54(a0:(((List Int)×((List Int)×(Int×Unit)))×((List Int)×Unit))):Bool:=(F_54 a0).isSome
noncomputable def Sp.v_54(a0:(((List Int)×((List Int)×(Int×Unit)))×((List Int)×Unit))):Int×Bool×Unit:=(F_54 a0).getD (dfH R_54)
noncomputable def s_54:Summ:=shN A_54 R_54 (fun x=>p_54 x.1) (fun x=>v_54 x.1)
theorem pv_54(a0:(((List Int)×((List Int)×(Int×Unit)))×((List Int)×Unit))){y:Int×Bool×Unit}(h:F_54 a0=some y):p_54 a0=true/\v_54 a0=y:=pvG h
theorem run_54(x:HDen A_54)(y:HDen R_54)(h:F_54 x.1=some y):rnF sm_54 1 54 A_54 R_54 x y:=runG noO_ok (os:=[]) trivial (Eq.trans (by kernel_rfl) h)
end
noncomputable section
abbrev A_34:List Ty:=[(.pair (.pair (.slice (.int .u32)) (.pair (.slice (.int .i64)) (.pair (.int .i64) .unit))) (.pair (.arr 32 (.int .u8)) .unit))]
abbrev R_34:List Ty:=[(.int .i64)]
noncomputable def sm_34:Nat->Option Summ:=smL [(54,s_54),(71,s_71)]
noncomputable def F_34(a0:(((List Int)×((List Int)×(Int×Unit)))×((List Int)×Unit))):Option (Int×Unit) :=
 gd (p_54 a0) (bif !(v_54 a0).2.1 then some (0,PUnit.unit)else gd (p_71 a0 ((v_54 a0).1)) (some ((v_71 a0 ((v_54 a0).1)).1.1,PUnit.unit)))
noncomputable def Sp.p_34(a0:(((List Int)×((List Int)×(Int×Unit)))×((List Int)×Unit))):Bool:=(F_34 a0).isSome
noncomputable def Sp.v_34(a0:(((List Int)×((List Int)×(Int×Unit)))×((List Int)×Unit))):Int×Unit:=(F_34 a0).getD (dfH R_34)
noncomputable def s_34:Summ:=shN A_34 R_34 (fun x=>p_34 x.1) (fun x=>v_34 x.1)
theorem pv_34(a0:(((List Int)×((List Int)×(Int×Unit)))×((List Int)×Unit))){y:Int×Unit}(h:F_34 a0=some y):p_34 a0=true/\v_34 a0=y:=pvG h
theorem run_34(x:HDen A_34)(y:HDen R_34)(h:F_34 x.1=some y):rnF sm_34 1 34 A_34 R_34 x y:=runG noO_ok (os:=[]) trivial (Eq.trans (by kernel_rfl) h)
end
noncomputable section
abbrev A_41:List Ty:=[(.int .i64)]
abbrev R_41:List Ty:=[(.pair (.int .i64) (.pair (.int .i64) (.pair (.int .i64) (.pair (.pair (.int .i64) (.pair (.int .i64) (.pair (.arr 32 (.int .u8)) (.pair (.pair (.int .i64) (.pair (.slice (.arr 32 (.int .u8))) (.pair (.slice (.arr 32 (.int .u8))) .unit))) .unit)))) .unit)))),(.pair (.pair (.slice (.int .u32)) (.pair (.slice (.int .i64)) (.pair (.int .i64) .unit))) (.pair (.arr 32 (.int .u8)) .unit)),(.pair (.int .i64) (.pair (.int .u32) .unit)),(.int .i64)]
noncomputable def sm_41:Nat->Option Summ:=smL []
noncomputable def F_41(a0:Int):Option ((Int×(Int×(Int×((Int×(Int×((List Int)×((Int×((List (List Int))×((List (List Int))×Unit)))×Unit))))×Unit))))×(((List Int)×((List Int)×(Int×Unit)))×((List Int)×Unit))×(Int×(Int×Unit))×Int×Unit) :=
 some ((0,0,0,(0,0,replicate 32 (0:Int),(0,[],[],PUnit.unit),PUnit.unit),PUnit.unit),(([],[],0,PUnit.unit),replicate 32 (0:Int),PUnit.unit),(0,0,PUnit.unit),a0,PUnit.unit)
noncomputable def Sp.p_41(a0:Int):Bool:=(F_41 a0).isSome
noncomputable def Sp.v_41(a0:Int):(Int×(Int×(Int×((Int×(Int×((List Int)×((Int×((List (List Int))×((List (List Int))×Unit)))×Unit))))×Unit))))×(((List Int)×((List Int)×(Int×Unit)))×((List Int)×Unit))×(Int×(Int×Unit))×Int×Unit:=(F_41 a0).getD (dfH R_41)
noncomputable def s_41:Summ:=shS A_41 R_41 (fun x=>p_41 x.1) (fun x=>v_41 x.1)
theorem pv_41(a0:Int){y:(Int×(Int×(Int×((Int×(Int×((List Int)×((Int×((List (List Int))×((List (List Int))×Unit)))×Unit))))×Unit))))×(((List Int)×((List Int)×(Int×Unit)))×((List Int)×Unit))×(Int×(Int×Unit))×Int×Unit}(h:F_41 a0=some y):p_41 a0=true/\v_41 a0=y:=pvG h
theorem run_41(x:HDen A_41)(y:HDen R_41)(h:F_41 x.1=some y):rnF sm_41 1 41 A_41 R_41 x y:=runG noO_ok (os:=[]) trivial (Eq.trans (by kernel_rfl) h)
end
noncomputable section
abbrev A_44:List Ty:=[(.pair (.pair (.slice (.int .u32)) (.pair (.slice (.int .i64)) (.pair (.int .i64) .unit))) (.pair (.arr 32 (.int .u8)) .unit))]
abbrev R_44:List Ty:=[(.int .i64)]
noncomputable def sm_44:Nat->Option Summ:=smL []
noncomputable def F_44(a0:(((List Int)×((List Int)×(Int×Unit)))×((List Int)×Unit))):Option (Int×Unit) :=
 some (wrap i64 (Int.tdiv (↑(length (a0.1.1)):Int) 2),PUnit.unit)
noncomputable def Sp.p_44(a0:(((List Int)×((List Int)×(Int×Unit)))×((List Int)×Unit))):Bool:=(F_44 a0).isSome
noncomputable def Sp.v_44(a0:(((List Int)×((List Int)×(Int×Unit)))×((List Int)×Unit))):Int×Unit:=(F_44 a0).getD (dfH R_44)
noncomputable def s_44:Summ:=shN A_44 R_44 (fun x=>p_44 x.1) (fun x=>v_44 x.1)
theorem pv_44(a0:(((List Int)×((List Int)×(Int×Unit)))×((List Int)×Unit))){y:Int×Unit}(h:F_44 a0=some y):p_44 a0=true/\v_44 a0=y:=pvG h
theorem run_44(x:HDen A_44)(y:HDen R_44)(h:F_44 x.1=some y):rnF sm_44 1 44 A_44 R_44 x y:=runG noO_ok (os:=[]) trivial (Eq.trans (by kernel_rfl) h)
end
noncomputable section
abbrev A_61:List Ty:=[(.pair (.int .i64) (.pair (.int .u32) .unit))]
abbrev R_61:List Ty:=[.bool]
noncomputable def sm_61:Nat->Option Summ:=smL []
noncomputable def F_61(a0:(Int×(Int×Unit))):Option (Bool×Unit) :=
 bif decide (a0.1>=0)then some (decide (a0.1<=1099511627776),PUnit.unit)else some (false,PUnit.unit)
noncomputable def Sp.p_61(a0:(Int×(Int×Unit))):Bool:=(F_61 a0).isSome
noncomputable def Sp.v_61(a0:(Int×(Int×Unit))):Bool×Unit:=(F_61 a0).getD (dfH R_61)
noncomputable def s_61:Summ:=shN A_61 R_61 (fun x=>p_61 x.1) (fun x=>v_61 x.1)
theorem pv_61(a0:(Int×(Int×Unit))){y:Bool×Unit}(h:F_61 a0=some y):p_61 a0=true/\v_61 a0=y:=pvG h
theorem run_61(x:HDen A_61)(y:HDen R_61)(h:F_61 x.1=some y):rnF sm_61 1 61 A_61 R_61 x y:=runG noO_ok (os:=[]) trivial (Eq.trans (by kernel_rfl) h)
end
noncomputable section
abbrev A_90:List Ty:=[(.slice (.int .i64)),(.int .i64)]
abbrev R_90:List Ty:=[(.int .i64)]
noncomputable def sm_90:Nat->Option Summ:=smL []
noncomputable def T_90_0:PS:=⟨19,[(0,.hv (.slice (.int .i64))),(1,.hv (.int .i64)),(7,.hv (.int .i64)),(8,.hv (.int .i64))],[],0⟩
inductive Sp.E_90_0 where
 |e0 (p3:Int)
 |e1
noncomputable def Sp.B_90_0{R:Type}(r:Option E_90_0)(k0:Int->Option R)(k1:Option R):Option R:=match r with
 |none=>none
 |some (.e0 p3)=>k0 p3
 |some (.e1)=>k1
noncomputable def Y_90_0{R:Type}(k:Ex->St->Option R):E_90_0->Option R
 | .e0 p3=>k Ex.ret (sx 19 [(4,CV.int i64 p3)] [])
 | .e1=>k (Ex.exit 0) (sx 19 [] [])
noncomputable def Sp.S_90_0{R:Type}(K:List Int->Int->Int->Int->Option R)(k:E_90_0->Option R)(p0:List Int)(p1 p2 p3:Int):Option R:=
 bif decide (p3<p2)then gd (inB p3 (length p0)) (bif p1==getD p0 (toNat p3) 0 then k (E_90_0.e0 p3)else K p0 p1 p2 (wrap i64 (p3+1)))else k (E_90_0.e1)
noncomputable def Sp.L_90_0:Nat->List Int->Int->Int->Int->Option E_90_0
 |0,_,_,_,_=>none
 |m+1,p0,p1,p2,p3=>S_90_0 (L_90_0 m) some p0 p1 p2 p3
noncomputable def l_90_0(m:Nat)(a:T_90_0.E):Option E_90_0:=L_90_0 m a.1 a.2.1 a.2.2.1 a.2.2.2.1
noncomputable def O_90_0{R:Type}:Orc R:=orL T_90_0 (l_90_0 FU) Y_90_0
theorem OK_90_0{R:Type}:okF (R:=R) sm_90 0 (nf 90 0) O_90_0:=lp0 T_90_0 l_90_0 (fun R K k a=>S_90_0 (fun p0 p1 p2 p3=>K (p0,p1,p2,p3,())) k a.1 a.2.1 a.2.2.1 a.2.2.2.1) Y_90_0 (fun _ _ _=>by kernel_rfl) (fun _ _ _=>by
 unfold S_90_0
 repeat' first|apply gdN|apply condN|rfl) (ok0 _)
noncomputable def F_90(a0:(List Int))(a1:Int):Option (Int×Unit) :=
 B_90_0 (L_90_0 4611686018427387904 a0 a1 (↑(length a0):Int) 0) (fun y1=>some (y1,PUnit.unit)) (some ((-1:Int),PUnit.unit))
noncomputable def Sp.p_90(a0:(List Int))(a1:Int):Bool:=(F_90 a0 a1).isSome
noncomputable def Sp.v_90(a0:(List Int))(a1:Int):Int×Unit:=(F_90 a0 a1).getD (dfH R_90)
noncomputable def s_90:Summ:=shN A_90 R_90 (fun x=>p_90 x.1 x.2.1) (fun x=>v_90 x.1 x.2.1)
theorem pv_90(a0:(List Int))(a1:Int){y:Int×Unit}(h:F_90 a0 a1=some y):p_90 a0 a1=true/\v_90 a0 a1=y:=pvG h
theorem run_90(x:HDen A_90)(y:HDen R_90)(h:F_90 x.1 x.2.1=some y):rnF sm_90 1 90 A_90 R_90 x y:=runG noO_ok (os:=[O_90_0]) ⟨OK_90_0,trivial⟩ (Eq.trans (by kernel_rfl) h)
end
noncomputable section
abbrev A_63:List Ty:=[(.slice (.int .i64)),(.int .i64)]
abbrev R_63:List Ty:=[.bool]
noncomputable def sm_63:Nat->Option Summ:=smL [(90,s_90)]
noncomputable def F_63(a0:(List Int))(a1:Int):Option (Bool×Unit) :=
 gd (p_90 a0 a1) (some (decide ((v_90 a0 a1).1>=0),PUnit.unit))
noncomputable def Sp.p_63(a0:(List Int))(a1:Int):Bool:=(F_63 a0 a1).isSome
noncomputable def Sp.v_63(a0:(List Int))(a1:Int):Bool×Unit:=(F_63 a0 a1).getD (dfH R_63)
noncomputable def s_63:Summ:=shN A_63 R_63 (fun x=>p_63 x.1 x.2.1) (fun x=>v_63 x.1 x.2.1)
theorem pv_63(a0:(List Int))(a1:Int){y:Bool×Unit}(h:F_63 a0 a1=some y):p_63 a0 a1=true/\v_63 a0 a1=y:=pvG h
theorem run_63(x:HDen A_63)(y:HDen R_63)(h:F_63 x.1 x.2.1=some y):rnF sm_63 1 63 A_63 R_63 x y:=runG noO_ok (os:=[]) trivial (Eq.trans (by kernel_rfl) h)
end
noncomputable section
abbrev Zt65_0:Type:=Int×Int×List Int×(Int×List (List Int)×List (List Int)×Unit)×Unit
abbrev Zy65_1:Ty:=(.pair (.int .i64) (.pair (.int .i64) (.pair (.arr 32 (.int .u8)) (.pair (.pair (.int .i64) (.pair (.slice (.arr 32 (.int .u8))) (.pair (.slice (.arr 32 (.int .u8))) .unit))) .unit))))
abbrev A_65:List Ty:=[(.pair (.int .i64) (.pair (.int .i64) (.pair (.arr 32 (.int .u8)) (.pair (.pair (.int .i64) (.pair (.slice (.arr 32 (.int .u8))) (.pair (.slice (.arr 32 (.int .u8))) .unit))) .unit))))]
abbrev R_65:List Ty:=[(.slice (.int .u32))]
noncomputable def sm_65:Nat->Option Summ:=smL [(74,s_74)]
noncomputable def T_65_113_0_1:PS:=⟨31,[(0,.yl 5 65 (.kc (.pair .junk (.pair .junk (.pair .junk (.pair (.ptr 2 []) (.pair .junk (.pair .junk (.pair .junk (.pair .junk (.pair .junk (.pair .junk (.pair .junk (.pair .junk (.pair .junk (.pair .junk (.pair .junk (.pair .junk (.pair .junk (.pair .junk (.pair .junk (.pair .junk (.pair .junk (.pair .junk (.pair .junk (.pair .junk (.pair .junk (.pair .junk (.pair .junk (.pair .junk (.pair .junk (.pair .junk (.pair .junk (.pair .junk (.pair .junk (.pair .junk (.pair .junk (.pair .junk (.pair .junk (.pair .junk (.pair .junk (.pair .junk (.pair .junk (.pair .junk (.pair .junk (.pair .junk (.pair .junk (.pair .junk (.pair .junk (.pair .junk (.pair .junk (.pair .junk (.pair .junk (.pair .junk (.pure .unit PUnit.unit))))))))))))))))))))))))))))))))))))))))))))))))))))))),(1,.kc (.ptr 3 [])),(2,.kc (.ptr 4 [])),(4,.hv (.int .i64))],[.mem (.hv Zy65_1),.dead,.mem (.kc (.whole 6)),.mem (.sb 0 [(.f 2 2)] 1 (some 0) (some 32) (some (some 32))),.mem (.hv (.int .i64)),.gh 0,.vec 42 (.int .u32)],6⟩
inductive Sp.E_65_113_0_1 where
 |e0 (p1:Zt65_0) (p2:Int) (p3:List Int)
noncomputable def Sp.B_65_113_0_1{R:Type}(r:Option E_65_113_0_1)(k0:Zt65_0->Int->List Int->Option R):Option R:=match r with
 |none=>none
 |some (.e0 p1 p2 p3)=>k0 p1 p2 p3
noncomputable def Y_65_113_0_1{R:Type}(k:Ex->St->Option R):E_65_113_0_1->Option R
 | .e0 p1 p2 p3=>k (Ex.exit 0) (sx 31 [] [Blk.mem (CV.pure (Ty.pair (Ty.int i64) (Ty.pair (Ty.int i64) (Ty.pair (Ty.arr 32 (Ty.int u8)) (Ty.pair (Ty.pair (Ty.int i64) (Ty.pair (Ty.slice (Ty.arr 32 (Ty.int u8))) (Ty.pair (Ty.slice (Ty.arr 32 (Ty.int u8))) Ty.unit))) Ty.unit)))) p1),Blk.dead,Blk.mem (CV.whole 6),Blk.mem (CV.sub 0 [Step.f 2 2] 1 0 32 (some 32)),Blk.mem (CV.int i64 p2),Blk.ghost 0,Blk.vec 42 (Ty.int u32) p3] 6)
noncomputable def Sp.S_65_113_0_1{R:Type}(K:Int->(Int×Int×List Int×(Int×List (List Int)×List (List Int)×Unit)×Unit)->Int->List Int->Option R)(k:E_65_113_0_1->Option R)(p0:Int)(p1:Int×Int×List Int×(Int×List (List Int)×List (List Int)×Unit)×Unit)(p2:Int)(p3:List Int):Option R:=
 bif decide (p0<32)then gd (sl3 p0 32 32) (gd (sl3 p0 (wrap i64 (p0+if(↑(32-toNat p0):Int)<p2 then(↑(32-toNat p0):Int)else p2)) (wrap i64 (p0+if(↑(32-toNat p0):Int)<p2 then(↑(32-toNat p0):Int)else p2))&&decide (wrap i64 (p0+if(↑(32-toNat p0):Int)<p2 then(↑(32-toNat p0):Int)else p2)<=32)) (gd (inB 0 (toNat (wrap i64 (p0+if(↑(32-toNat p0):Int)<p2 then(↑(32-toNat p0):Int)else p2))-toNat p0)) (gd (decide (0+toNat p0+(0:Nat)<(32:Nat))&&true) (gd (inB 1 (toNat (wrap i64 (p0+if(↑(32-toNat p0):Int)<p2 then(↑(32-toNat p0):Int)else p2))-toNat p0)) (gd (decide (0+toNat p0+(1:Nat)<(32:Nat))&&true) (gd (inB 2 (toNat (wrap i64 (p0+if(↑(32-toNat p0):Int)<p2 then(↑(32-toNat p0):Int)else p2))-toNat p0)) (gd (decide (0+toNat p0+(2:Nat)<(32:Nat))&&true) (gd (inB 3 (toNat (wrap i64 (p0+if(↑(32-toNat p0):Int)<p2 then(↑(32-toNat p0):Int)else p2))-toNat p0)) (gd (decide (0+toNat p0+(3:Nat)<(32:Nat))&&true) (gd (room (length p3+1) 4) (K (wrap i64 (p0+p2)) p1 p2 (p3++[Sp.orI u32 (Sp.orI u32 (Sp.orI u32 (wrap u32 (wrap u32 (getD (p1.2.2.1) (0+toNat p0+0) 0)*16777216)) (wrap u32 (wrap u32 (getD (p1.2.2.1) (0+toNat p0+1) 0)*65536))) (wrap u32 (wrap u32 (getD (p1.2.2.1) (0+toNat p0+2) 0)*256))) (wrap u32 (getD (p1.2.2.1) (0+toNat p0+3) 0))]))))))))))))else k (E_65_113_0_1.e0 p1 p2 p3)
noncomputable def Sp.L_65_113_0_1:Nat->Int->(Int×Int×List Int×(Int×List (List Int)×List (List Int)×Unit)×Unit)->Int->List Int->Option E_65_113_0_1
 |0,_,_,_,_=>none
 |m+1,p0,p1,p2,p3=>S_65_113_0_1 (L_65_113_0_1 m) some p0 p1 p2 p3
noncomputable def l_65_113_0_1(m:Nat)(a:T_65_113_0_1.E):Option E_65_113_0_1:=L_65_113_0_1 m a.1 a.2.1 a.2.2.1 a.2.2.2.1
noncomputable def O_65_113_0_1{R:Type}:Orc R:=orL T_65_113_0_1 (l_65_113_0_1 FU) Y_65_113_0_1
theorem loop_65_113_0_1{R:Type}(k:Ex->St->Option R):∀m a,evLoopN (evCodeL sm_65 FU (ovr noO (evFn sm_65 fns FU 2)) (mkT (inner (nf 113 0)) []) (inner (nf 113 0))) (St.norm (lv (nf 113 0))) m (T_65_113_0_1.inst a) k=(l_65_113_0_1 m a).bind (Y_65_113_0_1 k):=lpN l_65_113_0_1 (fun R K k a=>S_65_113_0_1 (fun p0 p1 p2 p3=>K (p0,p1,p2,p3,())) k a.1 a.2.1 a.2.2.1 a.2.2.2.1) (fun _=>rfl) (fun _ _=>rfl) (fun K a=>by kernel_rfl) (fun K a=>by
 unfold S_65_113_0_1
 repeat' first|apply gdN|apply condN|rfl)
theorem OK_65_113_0_1{R:Type}:okF (R:=R) sm_65 2 (nf 113 0) O_65_113_0_1:=lp0 T_65_113_0_1 l_65_113_0_1 (fun R K k a=>S_65_113_0_1 (fun p0 p1 p2 p3=>K (p0,p1,p2,p3,())) k a.1 a.2.1 a.2.2.1 a.2.2.2.1) Y_65_113_0_1 (fun _ _ _=>by kernel_rfl) (fun _ _ _=>by
 unfold S_65_113_0_1
 repeat' first|apply gdN|apply condN|rfl) (ok0 _)
noncomputable def T_65_113_0_0:PS:=⟨31,[(0,.yl 5 65 (.kc (.pair .junk (.pair .junk (.pair .junk (.pair (.ptr 2 []) (.pair .junk (.pair .junk (.pair .junk (.pair .junk (.pair .junk (.pair .junk (.pair .junk (.pair .junk (.pair .junk (.pair .junk (.pair .junk (.pair .junk (.pair .junk (.pair .junk (.pair .junk (.pair .junk (.pair .junk (.pair .junk (.pair .junk (.pair .junk (.pair .junk (.pair .junk (.pair .junk (.pair .junk (.pair .junk (.pair .junk (.pair .junk (.pair .junk (.pair .junk (.pair .junk (.pair .junk (.pair .junk (.pair .junk (.pair .junk (.pair .junk (.pair .junk (.pair .junk (.pair .junk (.pair .junk (.pair .junk (.pair .junk (.pair .junk (.pair .junk (.pair .junk (.pair .junk (.pair .junk (.pair .junk (.pair .junk (.pure .unit PUnit.unit))))))))))))))))))))))))))))))))))))))))))))))))))))))),(1,.kc (.ptr 3 [])),(2,.kc (.ptr 4 [])),(4,.hv (.int .i64))],[.mem (.hv Zy65_1),.vec 42 (.int .u32),.mem (.kc (.whole 1)),.mem (.sb 0 [(.f 2 2)] 1 (some 0) (some 32) (some (some 32))),.mem (.hv (.int .i64)),.gh 0],6⟩
inductive Sp.E_65_113_0_0 where
 |e0 (p1:Zt65_0) (p2:List Int) (p3:Int)
 |e1 (p1:Zt65_0) (p2:Int) (p3:List Int)
noncomputable def Sp.B_65_113_0_0{R:Type}(r:Option E_65_113_0_0)(k0:Zt65_0->List Int->Int->Option R)(k1:Zt65_0->Int->List Int->Option R):Option R:=match r with
 |none=>none
 |some (.e0 p1 p2 p3)=>k0 p1 p2 p3
 |some (.e1 p1 p2 p3)=>k1 p1 p2 p3
noncomputable def Y_65_113_0_0{R:Type}(k:Ex->St->Option R):E_65_113_0_0->Option R
 | .e0 p1 p2 p3=>k (Ex.exit 0) (sx 31 [] [Blk.mem (CV.pure (Ty.pair (Ty.int i64) (Ty.pair (Ty.int i64) (Ty.pair (Ty.arr 32 (Ty.int u8)) (Ty.pair (Ty.pair (Ty.int i64) (Ty.pair (Ty.slice (Ty.arr 32 (Ty.int u8))) (Ty.pair (Ty.slice (Ty.arr 32 (Ty.int u8))) Ty.unit))) Ty.unit)))) p1),Blk.vec 42 (Ty.int u32) p2,Blk.mem (CV.whole 1),Blk.mem (CV.sub 0 [Step.f 2 2] 1 0 32 (some 32)),Blk.mem (CV.int i64 p3),Blk.ghost 0] 6)
 | .e1 p1 p2 p3=>k (Ex.exit 0) (sx 31 [] [Blk.mem (CV.pure (Ty.pair (Ty.int i64) (Ty.pair (Ty.int i64) (Ty.pair (Ty.arr 32 (Ty.int u8)) (Ty.pair (Ty.pair (Ty.int i64) (Ty.pair (Ty.slice (Ty.arr 32 (Ty.int u8))) (Ty.pair (Ty.slice (Ty.arr 32 (Ty.int u8))) Ty.unit))) Ty.unit)))) p1),Blk.dead,Blk.mem (CV.whole 6),Blk.mem (CV.sub 0 [Step.f 2 2] 1 0 32 (some 32)),Blk.mem (CV.int i64 p2),Blk.ghost 0,Blk.vec 42 (Ty.int u32) p3] 6)
noncomputable def Sp.S_65_113_0_0{R:Type}(K:Int->(Int×Int×List Int×(Int×List (List Int)×List (List Int)×Unit)×Unit)->List Int->Int->Option R)(KB:Int->(Int×Int×List Int×(Int×List (List Int)×List (List Int)×Unit)×Unit)->Int->List Int->Option R)(k:E_65_113_0_0->Option R)(p0:Int)(p1:Int×Int×List Int×(Int×List (List Int)×List (List Int)×Unit)×Unit)(p2:List Int)(p3:Int):Option R:=
 bif decide (p0<32)then gd (sl3 p0 32 32) (gd (sl3 p0 (wrap i64 (p0+if(↑(32-toNat p0):Int)<p3 then(↑(32-toNat p0):Int)else p3)) (wrap i64 (p0+if(↑(32-toNat p0):Int)<p3 then(↑(32-toNat p0):Int)else p3))&&decide (wrap i64 (p0+if(↑(32-toNat p0):Int)<p3 then(↑(32-toNat p0):Int)else p3)<=32)) (gd (inB 0 (toNat (wrap i64 (p0+if(↑(32-toNat p0):Int)<p3 then(↑(32-toNat p0):Int)else p3))-toNat p0)) (gd (decide (0+toNat p0+(0:Nat)<(32:Nat))&&true) (gd (inB 1 (toNat (wrap i64 (p0+if(↑(32-toNat p0):Int)<p3 then(↑(32-toNat p0):Int)else p3))-toNat p0)) (gd (decide (0+toNat p0+(1:Nat)<(32:Nat))&&true) (gd (inB 2 (toNat (wrap i64 (p0+if(↑(32-toNat p0):Int)<p3 then(↑(32-toNat p0):Int)else p3))-toNat p0)) (gd (decide (0+toNat p0+(2:Nat)<(32:Nat))&&true) (gd (inB 3 (toNat (wrap i64 (p0+if(↑(32-toNat p0):Int)<p3 then(↑(32-toNat p0):Int)else p3))-toNat p0)) (gd (decide (0+toNat p0+(3:Nat)<(32:Nat))&&true) (gd (room (length p2+1) 4) (KB (wrap i64 (p0+p3)) p1 p3 (p2++[Sp.orI u32 (Sp.orI u32 (Sp.orI u32 (wrap u32 (wrap u32 (getD (p1.2.2.1) (0+toNat p0+0) 0)*16777216)) (wrap u32 (wrap u32 (getD (p1.2.2.1) (0+toNat p0+1) 0)*65536))) (wrap u32 (wrap u32 (getD (p1.2.2.1) (0+toNat p0+2) 0)*256))) (wrap u32 (getD (p1.2.2.1) (0+toNat p0+3) 0))]))))))))))))else k (E_65_113_0_0.e0 p1 p2 p3)
noncomputable def C_65_113_0_0:E_65_113_0_1->E_65_113_0_0
 | .e0 p1 p2 p3=> .e1 p1 p2 p3
theorem BC_65_113_0_0(r:Option E_65_113_0_1):B_65_113_0_1 r (fun p1 p2 p3=>some (E_65_113_0_0.e1 p1 p2 p3))=r.bind fun e=>some (C_65_113_0_0 e):=by
 cases r with
 |none=>rfl
 |some e=>cases e<;>rfl
noncomputable def Sp.L_65_113_0_0:Nat->Int->(Int×Int×List Int×(Int×List (List Int)×List (List Int)×Unit)×Unit)->List Int->Int->Option E_65_113_0_0
 |0,_,_,_,_=>none
 |m+1,p0,p1,p2,p3=>S_65_113_0_0 (L_65_113_0_0 m) (fun q0 q1 q2 q3=>B_65_113_0_1 (L_65_113_0_1 m q0 q1 q2 q3) (fun p1 p2 p3=>some (E_65_113_0_0.e1 p1 p2 p3))) some p0 p1 p2 p3
noncomputable def l_65_113_0_0(m:Nat)(a:T_65_113_0_0.E):Option E_65_113_0_0:=L_65_113_0_0 m a.1 a.2.1 a.2.2.1 a.2.2.2.1
noncomputable def O_65_113_0_0{R:Type}:Orc R:=orL T_65_113_0_0 (l_65_113_0_0 FU) Y_65_113_0_0 O_65_113_0_1
theorem OK_65_113_0_0{R:Type}:okF (R:=R) sm_65 2 (nf 113 0) O_65_113_0_0:=lp2 noO_ok (os:=[]) trivial T_65_113_0_0 T_65_113_0_1 l_65_113_0_0 l_65_113_0_1 (fun R K KB k a=>S_65_113_0_0 (fun p0 p1 p2 p3=>K (p0,p1,p2,p3,())) (fun q0 q1 q2 q3=>KB (q0,q1,q2,q3,())) k a.1 a.2.1 a.2.2.1 a.2.2.2.1) Y_65_113_0_0 Y_65_113_0_1 C_65_113_0_0 (fun _=>rfl) (fun m a=>by
 unfold l_65_113_0_0
 rw[L_65_113_0_0]
 simp only[BC_65_113_0_0]
 rfl) (fun k e=>by cases e<;>rfl) (fun k=>loop_65_113_0_1 k) (fun k K a=>by kernel_rfl) (fun Y K KB a=>by
 unfold S_65_113_0_0
 repeat' first|apply gdN|apply condN|rfl) OK_65_113_0_1
noncomputable def g_65_113{R:Type}:List CV->List Blk->(CV->List Blk->Option R)->Option R:=evFnL sm_65 FU (ovr noO (evFn sm_65 fns FU 2)) (mkT (fB fns 113) [O_65_113_0_0]) (fO fns 113)
theorem g_65_113_ok{R:Type}(args:List CV)(hp:List Blk)(k:CV->List Blk->Option R)(r:R)(h:g_65_113 args hp k=some r):evFn sm_65 fns FU 3 113 args hp k=some r:=runG noO_ok (os:=[O_65_113_0_0]) ⟨OK_65_113_0_0,trivial⟩ h
noncomputable def ov_65_92{R:Type}:Nat->Option (List CV->List Blk->(CV->List Blk->Option R)->Option R):=fun f'=>bif Nat.beq f' 113 then some g_65_113 else none
theorem ov_65_92_ok{R:Type}:OvrOK (R:=R) ov_65_92 (evFn sm_65 fns FU 3):=by
 intro f' g h args hp k r hg
 dsimp only[ov_65_92]at h
 by_cases h113:f'=113
 ·subst h113
  injection h with h
  subst h
  exact evFn_le 0 (g_65_113_ok _ _ _ _ hg)
 rw[nbeq_ne h113,cond_false]at h
 cases h
noncomputable def g_65_92{R:Type}:List CV->List Blk->(CV->List Blk->Option R)->Option R:=evFnL sm_65 FU (ovr ov_65_92 (evFn sm_65 fns FU 3)) (mkT (fB fns 92) []) (fO fns 92)
theorem g_65_92_ok{R:Type}(args:List CV)(hp:List Blk)(k:CV->List Blk->Option R)(r:R)(h:g_65_92 args hp k=some r):evFn sm_65 fns FU 4 92 args hp k=some r:=runG ov_65_92_ok (os:=[]) trivial h
noncomputable def ov_65_65{R:Type}:Nat->Option (List CV->List Blk->(CV->List Blk->Option R)->Option R):=fun f'=>bif Nat.beq f' 92 then some g_65_92 else bif Nat.beq f' 113 then some g_65_113 else none
theorem ov_65_65_ok{R:Type}:OvrOK (R:=R) ov_65_65 (evFn sm_65 fns FU 4):=by
 intro f' g h args hp k r hg
 dsimp only[ov_65_65]at h
 by_cases h92:f'=92
 ·subst h92
  injection h with h
  subst h
  exact evFn_le 0 (g_65_92_ok _ _ _ _ hg)
 rw[nbeq_ne h92,cond_false]at h
 by_cases h113:f'=113
 ·subst h113
  injection h with h
  subst h
  exact evFn_le 1 (g_65_113_ok _ _ _ _ hg)
 rw[nbeq_ne h113,cond_false]at h
 cases h
noncomputable def F_65(a0:(Int×(Int×((List Int)×((Int×((List (List Int))×((List (List Int))×Unit)))×Unit))))):Option ((List Int)×Unit) :=
 B_65_113_0_0 (L_65_113_0_0 4611686018427387904 0 a0 [wrap u32 (a0.1),wrap u32 (a0.2.1)] 4) (fun y6 y7 y8=>gd (p_74 (y6.2.2.2.1)) (gd (room (length y7+length ((v_74 (y6.2.2.2.1)).1)) 4) (some (y7++(v_74 (y6.2.2.2.1)).1,PUnit.unit)))) fun y9 y10 y11=>gd (p_74 (y9.2.2.2.1)) (gd (room (length y11+length ((v_74 (y9.2.2.2.1)).1)) 4) (some (y11++(v_74 (y9.2.2.2.1)).1,PUnit.unit)))
noncomputable def Sp.p_65(a0:(Int×(Int×((List Int)×((Int×((List (List Int))×((List (List Int))×Unit)))×Unit))))):Bool:=(F_65 a0).isSome
noncomputable def Sp.v_65(a0:(Int×(Int×((List Int)×((Int×((List (List Int))×((List (List Int))×Unit)))×Unit))))):(List Int)×Unit:=(F_65 a0).getD (dfH R_65)
noncomputable def s_65:Summ:=shS A_65 R_65 (fun x=>p_65 x.1) (fun x=>v_65 x.1)
theorem pv_65(a0:(Int×(Int×((List Int)×((Int×((List (List Int))×((List (List Int))×Unit)))×Unit))))){y:(List Int)×Unit}(h:F_65 a0=some y):p_65 a0=true/\v_65 a0=y:=pvG h
theorem run_65(x:HDen A_65)(y:HDen R_65)(h:F_65 x.1=some y):rnF sm_65 5 65 A_65 R_65 x y:=runG ov_65_65_ok (os:=[]) trivial (Eq.trans (by kernel_rfl) h)
end
noncomputable section
abbrev A_101:List Ty:=[(.pair (.slice (.int .u32)) (.pair (.slice (.int .i64)) (.pair (.int .i64) .unit))),(.pair (.int .i64) (.pair (.int .u32) .unit)),(.int .i64),(.int .i64)]
abbrev R_101:List Ty:=[(.int .i64)]
noncomputable def sm_101:Nat->Option Summ:=smL [(69,s_69)]
noncomputable def F_101(a0:((List Int)×((List Int)×(Int×Unit))))(a1:(Int×(Int×Unit)))(a2 a3:Int):Option (Int×Unit) :=
 gd (p_69 a0) (bif !(v_69 a0).1 then some (1,PUnit.unit)else bif decide (a1.1<0)then some (1,PUnit.unit)else bif decide (a1.1>1099511627776)then some (1,PUnit.unit)else bif decide (a2<0)then some (2,PUnit.unit)else bif decide (a2>=a3)then some (2,PUnit.unit)else some (0,PUnit.unit))
noncomputable def Sp.p_101(a0:((List Int)×((List Int)×(Int×Unit))))(a1:(Int×(Int×Unit)))(a2 a3:Int):Bool:=(F_101 a0 a1 a2 a3).isSome
noncomputable def Sp.v_101(a0:((List Int)×((List Int)×(Int×Unit))))(a1:(Int×(Int×Unit)))(a2 a3:Int):Int×Unit:=(F_101 a0 a1 a2 a3).getD (dfH R_101)
noncomputable def s_101:Summ:=shN A_101 R_101 (fun x=>p_101 x.1 x.2.1 x.2.2.1 x.2.2.2.1) (fun x=>v_101 x.1 x.2.1 x.2.2.1 x.2.2.2.1)
theorem pv_101(a0:((List Int)×((List Int)×(Int×Unit))))(a1:(Int×(Int×Unit)))(a2 a3:Int){y:Int×Unit}(h:F_101 a0 a1 a2 a3=some y):p_101 a0 a1 a2 a3=true/\v_101 a0 a1 a2 a3=y:=pvG h
theorem run_101(x:HDen A_101)(y:HDen R_101)(h:F_101 x.1 x.2.1 x.2.2.1 x.2.2.2.1=some y):rnF sm_101 1 101 A_101 R_101 x y:=runG noO_ok (os:=[]) trivial (Eq.trans (by kernel_rfl) h)
end
noncomputable section
abbrev A_76:List Ty:=[(.pair (.slice (.int .u32)) (.pair (.slice (.int .i64)) (.pair (.int .i64) .unit))),(.int .i64),(.int .u32),(.pair (.int .i64) (.pair (.int .u32) .unit))]
abbrev R_76:List Ty:=[(.pair (.slice (.int .u32)) (.pair (.slice (.int .i64)) (.pair (.int .i64) .unit))),(.pair (.int .i64) (.pair (.int .u32) .unit)),(.int .i64)]
noncomputable def sm_76:Nat->Option Summ:=smL [(25,s_25),(75,s_75),(101,s_101)]
noncomputable def F_76(a0:((List Int)×((List Int)×(Int×Unit))))(a1 a2:Int)(a3:(Int×(Int×Unit))):Option (((List Int)×((List Int)×(Int×Unit)))×(Int×(Int×Unit))×Int×Unit) :=
 gd (p_101 a0 a3 a1 (↑(length (a0.1)):Int)) (bif(v_101 a0 a3 a1 (↑(length (a0.1)):Int)).1 !=0 then some (([],[],0,PUnit.unit),(0,0,PUnit.unit),(v_101 a0 a3 a1 (↑(length (a0.1)):Int)).1,PUnit.unit)else gd (room (length (a0.1)) 4) (gd (room (length (a0.2.1)) 8) (bif a3.1==0 then some ((a0.1,a0.2.1,a0.2.2.1,PUnit.unit),a3,18,PUnit.unit)else bif a3.1==1 then gd (inB a1 (length (a0.1))) (gd (decide (toNat a1<length (a0.1))&&true) (gd (inB a1 (length (a0.1))) (gd (decide (toNat a1<length (a0.1))&&true&&true) (some ((List.set (a0.1) (toNat a1) (Sp.andnI u32 (getD (a0.1) (toNat a1) 0) (Sp.andnI u32 (a3.2.1) a2)),a0.2.1,a0.2.2.1,PUnit.unit),(0,a3.2),18,PUnit.unit)))))else gd (inB a1 (length (a0.1))) (gd (decide (toNat a1<length (a0.1))&&true) (gd (inB a1 (length (a0.1))) (gd (decide (toNat a1<length (a0.1))&&true&&true) (some ((List.set (a0.1) (toNat a1) (Sp.andnI u32 (getD (a0.1) (toNat a1) 0) (Sp.andnI u32 4294967295 a2)),a0.2.1,a0.2.2.1,PUnit.unit),(wrap i64 (a3.1-1),a3.2),0,PUnit.unit))))))))
noncomputable def Sp.p_76(a0:((List Int)×((List Int)×(Int×Unit))))(a1 a2:Int)(a3:(Int×(Int×Unit))):Bool:=(F_76 a0 a1 a2 a3).isSome
noncomputable def Sp.v_76(a0:((List Int)×((List Int)×(Int×Unit))))(a1 a2:Int)(a3:(Int×(Int×Unit))):((List Int)×((List Int)×(Int×Unit)))×(Int×(Int×Unit))×Int×Unit:=(F_76 a0 a1 a2 a3).getD (dfH R_76)
noncomputable def s_76:Summ:=shS A_76 R_76 (fun x=>p_76 x.1 x.2.1 x.2.2.1 x.2.2.2.1) (fun x=>v_76 x.1 x.2.1 x.2.2.1 x.2.2.2.1)
theorem pv_76(a0:((List Int)×((List Int)×(Int×Unit))))(a1 a2:Int)(a3:(Int×(Int×Unit))){y:((List Int)×((List Int)×(Int×Unit)))×(Int×(Int×Unit))×Int×Unit}(h:F_76 a0 a1 a2 a3=some y):p_76 a0 a1 a2 a3=true/\v_76 a0 a1 a2 a3=y:=pvG h
theorem run_76(x:HDen A_76)(y:HDen R_76)(h:F_76 x.1 x.2.1 x.2.2.1 x.2.2.2.1=some y):rnF sm_76 4 76 A_76 R_76 x y:=runG noO_ok (os:=[]) trivial (Eq.trans (by kernel_rfl) h)
end
noncomputable section
abbrev Zt91_0:Type:=List Int×List Int×Int×Unit
abbrev Zt91_1:Type:=Int×Int×Unit
abbrev Zy91_2:Ty:=(.pair (.int .i64) (.pair (.int .u32) .unit))
abbrev Zy91_3:Ty:=(.pair (.slice (.int .u32)) (.pair (.slice (.int .i64)) (.pair (.int .i64) .unit)))
abbrev A_91:List Ty:=[(.pair (.slice (.int .u32)) (.pair (.slice (.int .i64)) (.pair (.int .i64) .unit))),(.int .i64),(.pair (.int .i64) (.pair (.int .u32) .unit))]
abbrev R_91:List Ty:=[(.pair (.slice (.int .u32)) (.pair (.slice (.int .i64)) (.pair (.int .i64) .unit))),(.pair (.int .i64) (.pair (.int .u32) .unit)),(.int .i64)]
noncomputable def sm_91:Nat->Option Summ:=smL [(25,s_25),(75,s_75),(101,s_101)]
noncomputable def T_91_111_0_0:PS:=⟨30,[(1,.hv (.int .u32)),(2,.kc (.ptr 1 [])),(3,.kc (.ptr 12 [])),(5,.sb 9 [] 1 none none none),(11,.hv (.int .i64)),(12,.hv (.int .i64))],[.mem (.hv Zy91_3),.mem (.hv (.int .i64)),.mem (.hv Zy91_2),.mem (.pr (.kc (.nil 42 (.int .u32))) (.pr (.kc (.nil 3 (.int .i64))) (.hv (.pair (.int .i64) .unit)))),.mem (.hv Zy91_2),.mem (.hv Zy91_3),.mem (.hv Zy91_2),.mem (.pr (.kc (.nil 42 (.int .u32))) (.pr (.kc (.nil 3 (.int .i64))) (.hv (.pair (.int .i64) .unit)))),.mem (.hv Zy91_2),.vec 42 (.int .u32),.vec 3 (.int .i64),.mem (.pr (.kc (.whole 9)) (.pr (.kc (.whole 10)) (.hv (.pair (.int .i64) .unit)))),.mem (.pr (.kc (.whole 9)) (.pr (.kc (.whole 10)) (.hv (.pair (.int .i64) .unit))))],12⟩
inductive Sp.E_91_111_0_0 where
 |e0 (p5:Zt91_0) (p6:Int) (p7:Zt91_1) (p8:Int×Unit) (p9:Zt91_1) (p10:Zt91_0) (p11:Zt91_1) (p12:Int×Unit) (p13:Zt91_1) (p14 p15:List Int) (p16 p17:Int×Unit)
noncomputable def Sp.B_91_111_0_0{R:Type}(r:Option E_91_111_0_0)(k0:Zt91_0->Int->Zt91_1->(Int×Unit)->Zt91_1->Zt91_0->Zt91_1->(Int×Unit)->Zt91_1->List Int->List Int->(Int×Unit)->(Int×Unit)->Option R):Option R:=match r with
 |none=>none
 |some (.e0 p5 p6 p7 p8 p9 p10 p11 p12 p13 p14 p15 p16 p17)=>k0 p5 p6 p7 p8 p9 p10 p11 p12 p13 p14 p15 p16 p17
noncomputable def Y_91_111_0_0{R:Type}(k:Ex->St->Option R):E_91_111_0_0->Option R
 | .e0 p5 p6 p7 p8 p9 p10 p11 p12 p13 p14 p15 p16 p17=>k (Ex.exit 0) (sx 30 [(2,CV.ptr 1 []),(3,CV.ptr 12 [])] [Blk.mem (CV.pure (Ty.pair (Ty.slice (Ty.int u32)) (Ty.pair (Ty.slice (Ty.int i64)) (Ty.pair (Ty.int i64) Ty.unit))) p5),Blk.mem (CV.int i64 p6),Blk.mem (CV.pure (Ty.pair (Ty.int i64) (Ty.pair (Ty.int u32) Ty.unit)) p7),Blk.mem (CV.pair (CV.nil 42 (Ty.int u32)) (CV.pair (CV.nil 3 (Ty.int i64)) (CV.pure (Ty.pair (Ty.int i64) Ty.unit) p8))),Blk.mem (CV.pure (Ty.pair (Ty.int i64) (Ty.pair (Ty.int u32) Ty.unit)) p9),Blk.mem (CV.pure (Ty.pair (Ty.slice (Ty.int u32)) (Ty.pair (Ty.slice (Ty.int i64)) (Ty.pair (Ty.int i64) Ty.unit))) p10),Blk.mem (CV.pure (Ty.pair (Ty.int i64) (Ty.pair (Ty.int u32) Ty.unit)) p11),Blk.mem (CV.pair (CV.nil 42 (Ty.int u32)) (CV.pair (CV.nil 3 (Ty.int i64)) (CV.pure (Ty.pair (Ty.int i64) Ty.unit) p12))),Blk.mem (CV.pure (Ty.pair (Ty.int i64) (Ty.pair (Ty.int u32) Ty.unit)) p13),Blk.vec 42 (Ty.int u32) p14,Blk.vec 3 (Ty.int i64) p15,Blk.mem (CV.pair (CV.whole 9) (CV.pair (CV.whole 10) (CV.pure (Ty.pair (Ty.int i64) Ty.unit) p16))),Blk.mem (CV.pair (CV.whole 9) (CV.pair (CV.whole 10) (CV.pure (Ty.pair (Ty.int i64) Ty.unit) p17)))] 12)
noncomputable def Sp.S_91_111_0_0{R:Type}(K:Int->Nat->Nat->Int->Int->(List Int×List Int×Int×Unit)->Int->(Int×Int×Unit)->(Int×Unit)->(Int×Int×Unit)->(List Int×List Int×Int×Unit)->(Int×Int×Unit)->(Int×Unit)->(Int×Int×Unit)->List Int->List Int->(Int×Unit)->(Int×Unit)->Option R)(k:E_91_111_0_0->Option R)(p0:Int)(p1 p2:Nat)(p3 p4:Int)(p5:List Int×List Int×Int×Unit)(p6:Int)(p7:Int×Int×Unit)(p8:Int×Unit)(p9:Int×Int×Unit)(p10:List Int×List Int×Int×Unit)(p11:Int×Int×Unit)(p12:Int×Unit)(p13:Int×Int×Unit)(p14 p15:List Int)(p16 p17:Int×Unit):Option R:=
 bif decide (p4<p3)then gd (inB p4 p2) (gd (decide (p1+toNat p4<length p14)&&true) (gd (inB p4 p2) (gd (decide (p1+toNat p4<length p14)&&true&&true) (K p0 p1 p2 p3 (wrap i64 (p4+1)) p5 p6 p7 p8 p9 p10 p11 p12 p13 (List.set p14 (p1+toNat p4) (Sp.orI u32 (getD p14 (p1+toNat p4) 0) p0)) p15 p16 p17))))else k (E_91_111_0_0.e0 p5 p6 p7 p8 p9 p10 p11 p12 p13 p14 p15 p16 p17)
noncomputable def Sp.L_91_111_0_0:Nat->Int->Nat->Nat->Int->Int->(List Int×List Int×Int×Unit)->Int->(Int×Int×Unit)->(Int×Unit)->(Int×Int×Unit)->(List Int×List Int×Int×Unit)->(Int×Int×Unit)->(Int×Unit)->(Int×Int×Unit)->List Int->List Int->(Int×Unit)->(Int×Unit)->Option E_91_111_0_0
 |0,_,_,_,_,_,_,_,_,_,_,_,_,_,_,_,_,_,_=>none
 |m+1,p0,p1,p2,p3,p4,p5,p6,p7,p8,p9,p10,p11,p12,p13,p14,p15,p16,p17=>S_91_111_0_0 (L_91_111_0_0 m) some p0 p1 p2 p3 p4 p5 p6 p7 p8 p9 p10 p11 p12 p13 p14 p15 p16 p17
noncomputable def l_91_111_0_0(m:Nat)(a:T_91_111_0_0.E):Option E_91_111_0_0:=L_91_111_0_0 m a.1 a.2.1 a.2.2.1 a.2.2.2.1 a.2.2.2.2.1 a.2.2.2.2.2.1 a.2.2.2.2.2.2.1 a.2.2.2.2.2.2.2.1 a.2.2.2.2.2.2.2.2.1 a.2.2.2.2.2.2.2.2.2.1 a.2.2.2.2.2.2.2.2.2.2.1 a.2.2.2.2.2.2.2.2.2.2.2.1 a.2.2.2.2.2.2.2.2.2.2.2.2.1 a.2.2.2.2.2.2.2.2.2.2.2.2.2.1 a.2.2.2.2.2.2.2.2.2.2.2.2.2.2.1 a.2.2.2.2.2.2.2.2.2.2.2.2.2.2.2.1 a.2.2.2.2.2.2.2.2.2.2.2.2.2.2.2.2.1 a.2.2.2.2.2.2.2.2.2.2.2.2.2.2.2.2.2.1
noncomputable def O_91_111_0_0{R:Type}:Orc R:=orL T_91_111_0_0 (l_91_111_0_0 FU) Y_91_111_0_0
theorem OK_91_111_0_0{R:Type}:okF (R:=R) sm_91 1 (nf 111 0) O_91_111_0_0:=lp0 T_91_111_0_0 l_91_111_0_0 (fun R K k a=>S_91_111_0_0 (fun p0 p1 p2 p3 p4 p5 p6 p7 p8 p9 p10 p11 p12 p13 p14 p15 p16 p17=>K (p0,p1,p2,p3,p4,p5,p6,p7,p8,p9,p10,p11,p12,p13,p14,p15,p16,p17,())) k a.1 a.2.1 a.2.2.1 a.2.2.2.1 a.2.2.2.2.1 a.2.2.2.2.2.1 a.2.2.2.2.2.2.1 a.2.2.2.2.2.2.2.1 a.2.2.2.2.2.2.2.2.1 a.2.2.2.2.2.2.2.2.2.1 a.2.2.2.2.2.2.2.2.2.2.1 a.2.2.2.2.2.2.2.2.2.2.2.1 a.2.2.2.2.2.2.2.2.2.2.2.2.1 a.2.2.2.2.2.2.2.2.2.2.2.2.2.1 a.2.2.2.2.2.2.2.2.2.2.2.2.2.2.1 a.2.2.2.2.2.2.2.2.2.2.2.2.2.2.2.1 a.2.2.2.2.2.2.2.2.2.2.2.2.2.2.2.2.1 a.2.2.2.2.2.2.2.2.2.2.2.2.2.2.2.2.2.1) Y_91_111_0_0 (fun _ _ _=>by kernel_rfl) (fun _ _ _=>by
 unfold S_91_111_0_0
 repeat' first|apply gdN|apply condN|rfl) (ok0 _)
noncomputable def g_91_111{R:Type}:List CV->List Blk->(CV->List Blk->Option R)->Option R:=evFnL sm_91 FU (ovr noO (evFn sm_91 fns FU 1)) (mkT (fB fns 111) [O_91_111_0_0]) (fO fns 111)
theorem g_91_111_ok{R:Type}(args:List CV)(hp:List Blk)(k:CV->List Blk->Option R)(r:R)(h:g_91_111 args hp k=some r):evFn sm_91 fns FU 2 111 args hp k=some r:=runG noO_ok (os:=[O_91_111_0_0]) ⟨OK_91_111_0_0,trivial⟩ h
noncomputable def ov_91_102{R:Type}:Nat->Option (List CV->List Blk->(CV->List Blk->Option R)->Option R):=fun f'=>bif Nat.beq f' 111 then some g_91_111 else none
theorem ov_91_102_ok{R:Type}:OvrOK (R:=R) ov_91_102 (evFn sm_91 fns FU 2):=by
 intro f' g h args hp k r hg
 dsimp only[ov_91_102]at h
 by_cases h111:f'=111
 ·subst h111
  injection h with h
  subst h
  exact evFn_le 0 (g_91_111_ok _ _ _ _ hg)
 rw[nbeq_ne h111,cond_false]at h
 cases h
noncomputable def g_91_102{R:Type}:List CV->List Blk->(CV->List Blk->Option R)->Option R:=evFnL sm_91 FU (ovr ov_91_102 (evFn sm_91 fns FU 2)) (mkT (fB fns 102) []) (fO fns 102)
theorem g_91_102_ok{R:Type}(args:List CV)(hp:List Blk)(k:CV->List Blk->Option R)(r:R)(h:g_91_102 args hp k=some r):evFn sm_91 fns FU 3 102 args hp k=some r:=runG ov_91_102_ok (os:=[]) trivial h
noncomputable def ov_91_91{R:Type}:Nat->Option (List CV->List Blk->(CV->List Blk->Option R)->Option R):=fun f'=>bif Nat.beq f' 102 then some g_91_102 else bif Nat.beq f' 111 then some g_91_111 else none
theorem ov_91_91_ok{R:Type}:OvrOK (R:=R) ov_91_91 (evFn sm_91 fns FU 3):=by
 intro f' g h args hp k r hg
 dsimp only[ov_91_91]at h
 by_cases h102:f'=102
 ·subst h102
  injection h with h
  subst h
  exact evFn_le 0 (g_91_102_ok _ _ _ _ hg)
 rw[nbeq_ne h102,cond_false]at h
 by_cases h111:f'=111
 ·subst h111
  injection h with h
  subst h
  exact evFn_le 1 (g_91_111_ok _ _ _ _ hg)
 rw[nbeq_ne h111,cond_false]at h
 cases h
noncomputable def F_91(a0:((List Int)×((List Int)×(Int×Unit))))(a1:Int)(a2:(Int×(Int×Unit))):Option (((List Int)×((List Int)×(Int×Unit)))×(Int×(Int×Unit))×Int×Unit) :=
 gd (p_101 a0 a2 a1 (↑(length (a0.2.1)):Int)) (bif(v_101 a0 a2 a1 (↑(length (a0.2.1)):Int)).1 !=0 then some (([],[],0,PUnit.unit),(0,0,PUnit.unit),(v_101 a0 a2 a1 (↑(length (a0.2.1)):Int)).1,PUnit.unit)else gd (inB a1 (length (a0.2.1))) (bif getD (a0.2.1) (toNat a1) 0==a0.2.2.1 then some (([],[],0,PUnit.unit),(0,0,PUnit.unit),19,PUnit.unit)else gd (room (length (a0.1)) 4) (gd (room (length (a0.2.1)) 8) (bif a2.1==0 then some ((a0.1,a0.2.1,a0.2.2.1,PUnit.unit),a2,18,PUnit.unit)else bif a2.1==1 then gd (sl3 (wrap i64 (a1*64)) (wrap i64 (wrap i64 (a1+1)*64)) (↑(length (a0.1)):Int)) (B_91_111_0_0 (L_91_111_0_0 4611686018427387904 (a2.2.1) (toNat (wrap i64 (a1*64))) (toNat (wrap i64 (wrap i64 (a1+1)*64))-toNat (wrap i64 (a1*64))) (↑(toNat (wrap i64 (wrap i64 (a1+1)*64))-toNat (wrap i64 (a1*64))):Int) 0 a0 a1 a2 (0,PUnit.unit) (0,0,PUnit.unit) a0 (0,a2.2) (0,PUnit.unit) (0,0,PUnit.unit) (a0.1) (a0.2.1) (a0.2.2.1,PUnit.unit) (a0.2.2.1,PUnit.unit)) fun y26 y27 y28 y29 y30 y31 y32 y33 y34 y35 y36 y37 y38=>gd (inB y27 (length y36)) (gd (decide (toNat y27<length y36)&&true) (gd (inB y27 (length y36)) (gd (decide (toNat y27<length y36)&&true&&true) (some ((y35,List.set y36 (toNat y27) (wrap i64 (getD y36 (toNat y27) (0:Int)+(1:Int))),y37),y32,18,PUnit.unit))))))else gd (sl3 (wrap i64 (a1*64)) (wrap i64 (wrap i64 (a1+1)*64)) (↑(length (a0.1)):Int)) (B_91_111_0_0 (L_91_111_0_0 4611686018427387904 4294967295 (toNat (wrap i64 (a1*64))) (toNat (wrap i64 (wrap i64 (a1+1)*64))-toNat (wrap i64 (a1*64))) (↑(toNat (wrap i64 (wrap i64 (a1+1)*64))-toNat (wrap i64 (a1*64))):Int) 0 a0 a1 a2 (0,PUnit.unit) (0,0,PUnit.unit) a0 (wrap i64 (a2.1-1),a2.2) (0,PUnit.unit) (0,0,PUnit.unit) (a0.1) (a0.2.1) (a0.2.2.1,PUnit.unit) (a0.2.2.1,PUnit.unit)) fun y39 y40 y41 y42 y43 y44 y45 y46 y47 y48 y49 y50 y51=>gd (inB y40 (length y49)) (gd (decide (toNat y40<length y49)&&true) (gd (inB y40 (length y49)) (gd (decide (toNat y40<length y49)&&true&&true) (some ((y48,List.set y49 (toNat y40) (wrap i64 (getD y49 (toNat y40) (0:Int)+(1:Int))),y50),y45,0,PUnit.unit))))))))))
noncomputable def Sp.p_91(a0:((List Int)×((List Int)×(Int×Unit))))(a1:Int)(a2:(Int×(Int×Unit))):Bool:=(F_91 a0 a1 a2).isSome
noncomputable def Sp.v_91(a0:((List Int)×((List Int)×(Int×Unit))))(a1:Int)(a2:(Int×(Int×Unit))):((List Int)×((List Int)×(Int×Unit)))×(Int×(Int×Unit))×Int×Unit:=(F_91 a0 a1 a2).getD (dfH R_91)
noncomputable def s_91:Summ:=shS A_91 R_91 (fun x=>p_91 x.1 x.2.1 x.2.2.1) (fun x=>v_91 x.1 x.2.1 x.2.2.1)
theorem pv_91(a0:((List Int)×((List Int)×(Int×Unit))))(a1:Int)(a2:(Int×(Int×Unit))){y:((List Int)×((List Int)×(Int×Unit)))×(Int×(Int×Unit))×Int×Unit}(h:F_91 a0 a1 a2=some y):p_91 a0 a1 a2=true/\v_91 a0 a1 a2=y:=pvG h
theorem run_91(x:HDen A_91)(y:HDen R_91)(h:F_91 x.1 x.2.1 x.2.2.1=some y):rnF sm_91 4 91 A_91 R_91 x y:=runG ov_91_91_ok (os:=[]) trivial (Eq.trans (by kernel_rfl) h)
end
end Go.Ev
