/- Helpers: functions of the program as Lean functions, and what they compute. No condition. -/
import Derived.Test.YtaaagikcbnbncaaGreatG5P1
import Derived.Test.YtaaagikcbnbncaaGreatG5P2
set_option maxRecDepth 10000
set_option linter.unusedVariables false
set_option linter.unusedSimpArgs false
open Go.IntKind (wrap i64 i32 i16 i8 u64 u32 u16 u8)
open List (getD length take drop replicate)
open Int (toNat)
open Go.Ev.Sp
namespace Go.Ev
open Go
set_option maxRecDepth 100000
set_option maxHeartbeats 4000000
set_option linter.unusedVariables false
noncomputable section
abbrev A_53:List Ty:=[(.pair (.int .i64) (.pair (.int .i64) (.pair (.arr 32 (.int .u8)) (.pair (.pair (.int .i64) (.pair (.slice (.arr 32 (.int .u8))) (.pair (.slice (.arr 32 (.int .u8))) .unit))) .unit)))),(.int .i64)]
abbrev R_53:List Ty:=[.bool]
noncomputable def sm_53:Nat->Option Summ:=smL [(95,s_95)]
noncomputable def F_53(a0:(Int×(Int×((List Int)×((Int×((List (List Int))×((List (List Int))×Unit)))×Unit)))))(a1:Int):Option (Bool×Unit) :=
 bif decide (a0.1>=1)then bif decide (a0.1<2147483648)then bif decide (a0.2.1>=1)then bif decide (a0.2.1<=a1)then gd (p_95 (a0.2.2.2.1)) (some ((v_95 (a0.2.2.2.1)).1,PUnit.unit))else some (false,PUnit.unit)else some (false,PUnit.unit)else some (false,PUnit.unit)else some (false,PUnit.unit)
noncomputable def Sp.p_53(a0:(Int×(Int×((List Int)×((Int×((List (List Int))×((List (List Int))×Unit)))×Unit)))))(a1:Int):Bool:=(F_53 a0 a1).isSome
noncomputable def Sp.v_53(a0:(Int×(Int×((List Int)×((Int×((List (List Int))×((List (List Int))×Unit)))×Unit)))))(a1:Int):Bool×Unit:=(F_53 a0 a1).getD (dfH R_53)
noncomputable def s_53:Summ:=shN A_53 R_53 (fun x=>p_53 x.1 x.2.1) (fun x=>v_53 x.1 x.2.1)
theorem pv_53(a0:(Int×(Int×((List Int)×((Int×((List (List Int))×((List (List Int))×Unit)))×Unit)))))(a1:Int){y:Bool×Unit}(h:F_53 a0 a1=some y):p_53 a0 a1=true/\v_53 a0 a1=y:=pvG h
theorem run_53(x:HDen A_53)(y:HDen R_53)(h:F_53 x.1 x.2.1=some y):rnF sm_53 1 53 A_53 R_53 x y:=runG noO_ok (os:=[]) trivial (Eq.trans (by kernel_rfl) h)
end
noncomputable section
abbrev A_24:List Ty:=[(.pair (.int .i64) (.pair (.int .i64) (.pair (.arr 32 (.int .u8)) (.pair (.pair (.int .i64) (.pair (.slice (.arr 32 (.int .u8))) (.pair (.slice (.arr 32 (.int .u8))) .unit))) .unit)))),(.pair (.pair (.slice (.int .u32)) (.pair (.slice (.int .i64)) (.pair (.int .i64) .unit))) (.pair (.arr 32 (.int .u8)) .unit))]
abbrev R_24:List Ty:=[.bool]
noncomputable def sm_24:Nat->Option Summ:=smL [(53,s_53)]
noncomputable def F_24(a0:(Int×(Int×((List Int)×((Int×((List (List Int))×((List (List Int))×Unit)))×Unit)))))(a1:(((List Int)×((List Int)×(Int×Unit)))×((List Int)×Unit))):Option (Bool×Unit) :=
 gd (p_53 a0 (wrap i64 (wrap i64 (Int.tdiv (↑(length (a1.1.1)):Int) 2)-564))) (some ((v_53 a0 (wrap i64 (wrap i64 (Int.tdiv (↑(length (a1.1.1)):Int) 2)-564))).1,PUnit.unit))
noncomputable def Sp.p_24(a0:(Int×(Int×((List Int)×((Int×((List (List Int))×((List (List Int))×Unit)))×Unit)))))(a1:(((List Int)×((List Int)×(Int×Unit)))×((List Int)×Unit))):Bool:=(F_24 a0 a1).isSome
noncomputable def Sp.v_24(a0:(Int×(Int×((List Int)×((Int×((List (List Int))×((List (List Int))×Unit)))×Unit)))))(a1:(((List Int)×((List Int)×(Int×Unit)))×((List Int)×Unit))):Bool×Unit:=(F_24 a0 a1).getD (dfH R_24)
noncomputable def s_24:Summ:=shN A_24 R_24 (fun x=>p_24 x.1 x.2.1) (fun x=>v_24 x.1 x.2.1)
theorem pv_24(a0:(Int×(Int×((List Int)×((Int×((List (List Int))×((List (List Int))×Unit)))×Unit)))))(a1:(((List Int)×((List Int)×(Int×Unit)))×((List Int)×Unit))){y:Bool×Unit}(h:F_24 a0 a1=some y):p_24 a0 a1=true/\v_24 a0 a1=y:=pvG h
theorem run_24(x:HDen A_24)(y:HDen R_24)(h:F_24 x.1 x.2.1=some y):rnF sm_24 1 24 A_24 R_24 x y:=runG noO_ok (os:=[]) trivial (Eq.trans (by kernel_rfl) h)
end
noncomputable section
abbrev A_56:List Ty:=[(.pair (.pair (.slice (.int .u32)) (.pair (.slice (.int .i64)) (.pair (.int .i64) .unit))) (.pair (.arr 32 (.int .u8)) .unit))]
abbrev R_56:List Ty:=[(.int .i64)]
noncomputable def sm_56:Nat->Option Summ:=smL [(30,s_30),(63,s_63)]
noncomputable def F_56(a0:(((List Int)×((List Int)×(Int×Unit)))×((List Int)×Unit))):Option (Int×Unit) :=
 gd (p_63 a0) (bif(v_63 a0).2.1 !=0 then some (0,PUnit.unit)else gd (p_30 a0 ((v_63 a0).1)) (gd (inB 1 (length ((v_30 a0 ((v_63 a0).1)).1))) (some (wrap i64 (getD ((v_30 a0 ((v_63 a0).1)).1) 1 0),PUnit.unit))))
noncomputable def Sp.p_56(a0:(((List Int)×((List Int)×(Int×Unit)))×((List Int)×Unit))):Bool:=(F_56 a0).isSome
noncomputable def Sp.v_56(a0:(((List Int)×((List Int)×(Int×Unit)))×((List Int)×Unit))):Int×Unit:=(F_56 a0).getD (dfH R_56)
noncomputable def s_56:Summ:=shN A_56 R_56 (fun x=>p_56 x.1) (fun x=>v_56 x.1)
theorem pv_56(a0:(((List Int)×((List Int)×(Int×Unit)))×((List Int)×Unit))){y:Int×Unit}(h:F_56 a0=some y):p_56 a0=true/\v_56 a0=y:=pvG h
theorem run_56(x:HDen A_56)(y:HDen R_56)(h:F_56 x.1=some y):rnF sm_56 1 56 A_56 R_56 x y:=runG noO_ok (os:=[]) trivial (Eq.trans (by kernel_rfl) h)
end
noncomputable section
abbrev A_58:List Ty:=[(.pair (.pair (.slice (.int .u32)) (.pair (.slice (.int .i64)) (.pair (.int .i64) .unit))) (.pair (.arr 32 (.int .u8)) .unit)),(.int .i64)]
abbrev R_58:List Ty:=[.bool]
noncomputable def sm_58:Nat->Option Summ:=smL []
noncomputable def T_58_0:PS:=⟨31,[(1,.hv (.int .i64)),(2,.kc (.ptr 0 [])),(5,.hv (.int .i64)),(6,.hv (.int .i64))],[.mem (.hv (.pair (.pair (.slice (.int .u32)) (.pair (.slice (.int .i64)) (.pair (.int .i64) .unit))) (.pair (.arr 32 (.int .u8)) .unit)))],0⟩
inductive Sp.E_58_0 where
 |e0
 |e1
noncomputable def Sp.B_58_0{R:Type}(r:Option E_58_0)(k0 k1:Option R):Option R:=match r with
 |none=>none
 |some (.e0)=>k0
 |some (.e1)=>k1
noncomputable def Y_58_0{R:Type}(k:Ex->St->Option R):E_58_0->Option R
 | .e0=>k Ex.ret (sx 31 [(4,CV.bool true)] [])
 | .e1=>k (Ex.exit 0) (sx 31 [] [])
noncomputable def Sp.S_58_0{R:Type}(K:Int->Int->Int->((List Int×List Int×Int×Unit)×List Int×Unit)->Option R)(k:E_58_0->Option R)(p0 p1 p2:Int)(p3:(List Int×List Int×Int×Unit)×List Int×Unit):Option R:=
 bif decide (p2<p1)then gd (inB (wrap i64 (wrap i64 (p0*p1)+p2)) (length (p3.1.2.1))) (bif getD (p3.1.2.1) (toNat (wrap i64 (wrap i64 (p0*p1)+p2))) 0==p3.1.2.2.1 then k (E_58_0.e0)else K p0 p1 (wrap i64 (p2+1)) p3)else k (E_58_0.e1)
noncomputable def Sp.L_58_0:Nat->Int->Int->Int->((List Int×List Int×Int×Unit)×List Int×Unit)->Option E_58_0
 |0,_,_,_,_=>none
 |m+1,p0,p1,p2,p3=>S_58_0 (L_58_0 m) some p0 p1 p2 p3
noncomputable def l_58_0(m:Nat)(a:T_58_0.E):Option E_58_0:=L_58_0 m a.1 a.2.1 a.2.2.1 a.2.2.2.1
noncomputable def O_58_0{R:Type}:Orc R:=orL T_58_0 (l_58_0 FU) Y_58_0
theorem OK_58_0{R:Type}:okF (R:=R) sm_58 0 (nf 58 0) O_58_0:=lp0 T_58_0 l_58_0 (fun R K k a=>S_58_0 (fun p0 p1 p2 p3=>K (p0,p1,p2,p3,())) k a.1 a.2.1 a.2.2.1 a.2.2.2.1) Y_58_0 (fun _ _ _=>by kernel_rfl) (fun _ _ _=>by
 unfold S_58_0
 repeat' first|apply gdN|apply condN|rfl) (ok0 _)
noncomputable def F_58(a0:(((List Int)×((List Int)×(Int×Unit)))×((List Int)×Unit)))(a1:Int):Option (Bool×Unit) :=
 B_58_0 (L_58_0 4611686018427387904 a1 (wrap i64 (Int.tdiv (↑(length (a0.1.2.1)):Int) 2)) 0 a0) (some (true,PUnit.unit)) (some (false,PUnit.unit))
noncomputable def Sp.p_58(a0:(((List Int)×((List Int)×(Int×Unit)))×((List Int)×Unit)))(a1:Int):Bool:=(F_58 a0 a1).isSome
noncomputable def Sp.v_58(a0:(((List Int)×((List Int)×(Int×Unit)))×((List Int)×Unit)))(a1:Int):Bool×Unit:=(F_58 a0 a1).getD (dfH R_58)
noncomputable def s_58:Summ:=shN A_58 R_58 (fun x=>p_58 x.1 x.2.1) (fun x=>v_58 x.1 x.2.1)
theorem pv_58(a0:(((List Int)×((List Int)×(Int×Unit)))×((List Int)×Unit)))(a1:Int){y:Bool×Unit}(h:F_58 a0 a1=some y):p_58 a0 a1=true/\v_58 a0 a1=y:=pvG h
theorem run_58(x:HDen A_58)(y:HDen R_58)(h:F_58 x.1 x.2.1=some y):rnF sm_58 1 58 A_58 R_58 x y:=runG noO_ok (os:=[O_58_0]) ⟨OK_58_0,trivial⟩ (Eq.trans (by kernel_rfl) h)
end
noncomputable section
abbrev A_14:List Ty:=[(.pair (.int .i64) (.pair (.int .i64) (.pair (.int .i64) (.pair (.pair (.int .i64) (.pair (.int .i64) (.pair (.arr 32 (.int .u8)) (.pair (.pair (.int .i64) (.pair (.slice (.arr 32 (.int .u8))) (.pair (.slice (.arr 32 (.int .u8))) .unit))) .unit)))) .unit)))),(.pair (.pair (.slice (.int .u32)) (.pair (.slice (.int .i64)) (.pair (.int .i64) .unit))) (.pair (.arr 32 (.int .u8)) .unit)),(.pair (.int .i64) (.pair (.int .i64) (.pair (.arr 32 (.int .u8)) (.pair (.pair (.int .i64) (.pair (.slice (.arr 32 (.int .u8))) (.pair (.slice (.arr 32 (.int .u8))) .unit))) .unit))))]
abbrev R_14:List Ty:=[(.int .i64)]
noncomputable def sm_14:Nat->Option Summ:=smL [(18,s_18),(24,s_24),(56,s_56),(57,s_57),(58,s_58)]
noncomputable def F_14(a0:(Int×(Int×(Int×((Int×(Int×((List Int)×((Int×((List (List Int))×((List (List Int))×Unit)))×Unit))))×Unit)))))(a1:(((List Int)×((List Int)×(Int×Unit)))×((List Int)×Unit)))(a2:(Int×(Int×((List Int)×((Int×((List (List Int))×((List (List Int))×Unit)))×Unit))))):Option (Int×Unit) :=
 gd (p_24 a2 a1) (bif !(v_24 a2 a1).1 then some (1,PUnit.unit)else bif a0.1 !=0 then some (6,PUnit.unit)else gd (p_56 a1) (bif decide (a2.1<=(v_56 a1).1)then some (20,PUnit.unit)else gd (p_57 (a1.2.1) (a2.2.2.1) (a2.2.2.2.1)) (bif !(v_57 (a1.2.1) (a2.2.2.1) (a2.2.2.2.1)).1 then some (14,PUnit.unit)else gd (p_18 a1) (gd (p_58 a1 ((v_18 a1).1)) (bif(v_58 a1 ((v_18 a1).1)).1 then some (19,PUnit.unit)else some (0,PUnit.unit))))))
noncomputable def Sp.p_14(a0:(Int×(Int×(Int×((Int×(Int×((List Int)×((Int×((List (List Int))×((List (List Int))×Unit)))×Unit))))×Unit)))))(a1:(((List Int)×((List Int)×(Int×Unit)))×((List Int)×Unit)))(a2:(Int×(Int×((List Int)×((Int×((List (List Int))×((List (List Int))×Unit)))×Unit))))):Bool:=(F_14 a0 a1 a2).isSome
noncomputable def Sp.v_14(a0:(Int×(Int×(Int×((Int×(Int×((List Int)×((Int×((List (List Int))×((List (List Int))×Unit)))×Unit))))×Unit)))))(a1:(((List Int)×((List Int)×(Int×Unit)))×((List Int)×Unit)))(a2:(Int×(Int×((List Int)×((Int×((List (List Int))×((List (List Int))×Unit)))×Unit))))):Int×Unit:=(F_14 a0 a1 a2).getD (dfH R_14)
noncomputable def s_14:Summ:=shN A_14 R_14 (fun x=>p_14 x.1 x.2.1 x.2.2.1) (fun x=>v_14 x.1 x.2.1 x.2.2.1)
theorem pv_14(a0:(Int×(Int×(Int×((Int×(Int×((List Int)×((Int×((List (List Int))×((List (List Int))×Unit)))×Unit))))×Unit)))))(a1:(((List Int)×((List Int)×(Int×Unit)))×((List Int)×Unit)))(a2:(Int×(Int×((List Int)×((Int×((List (List Int))×((List (List Int))×Unit)))×Unit))))){y:Int×Unit}(h:F_14 a0 a1 a2=some y):p_14 a0 a1 a2=true/\v_14 a0 a1 a2=y:=pvG h
theorem run_14(x:HDen A_14)(y:HDen R_14)(h:F_14 x.1 x.2.1 x.2.2.1=some y):rnF sm_14 1 14 A_14 R_14 x y:=runG noO_ok (os:=[]) trivial (Eq.trans (by kernel_rfl) h)
end
noncomputable section
abbrev A_64:List Ty:=[(.pair (.int .i64) (.pair (.int .i64) (.pair (.int .i64) (.pair (.pair (.int .i64) (.pair (.int .i64) (.pair (.arr 32 (.int .u8)) (.pair (.pair (.int .i64) (.pair (.slice (.arr 32 (.int .u8))) (.pair (.slice (.arr 32 (.int .u8))) .unit))) .unit)))) .unit)))),(.pair (.pair (.slice (.int .u32)) (.pair (.slice (.int .i64)) (.pair (.int .i64) .unit))) (.pair (.arr 32 (.int .u8)) .unit)),(.pair (.int .i64) (.pair (.int .u32) .unit))]
abbrev R_64:List Ty:=[(.int .i64)]
noncomputable def sm_64:Nat->Option Summ:=smL [(29,s_29),(37,s_37),(39,s_39),(40,s_40),(41,s_41),(43,s_43)]
noncomputable def F_64(a0:(Int×(Int×(Int×((Int×(Int×((List Int)×((Int×((List (List Int))×((List (List Int))×Unit)))×Unit))))×Unit)))))(a1:(((List Int)×((List Int)×(Int×Unit)))×((List Int)×Unit)))(a2:(Int×(Int×Unit))):Option (Int×Unit) :=
 gd (p_37 a0) (bif !(v_37 a0).1 then some (1,PUnit.unit)else gd (p_29 a1) (bif !(v_29 a1).1 then some (1,PUnit.unit)else gd (p_39 a2) (bif !(v_39 a2).1 then some (1,PUnit.unit)else gd (p_43 a0) (bif !(v_43 a0).1 then gd (p_41 a1) (gd (p_40 (a0.2.2.2.1) (wrap i64 ((v_41 a1).1-564))) (bif !(v_40 (a0.2.2.2.1) (wrap i64 ((v_41 a1).1-564))).1 then some (1,PUnit.unit)else some (0,PUnit.unit)))else some (0,PUnit.unit)))))
noncomputable def Sp.p_64(a0:(Int×(Int×(Int×((Int×(Int×((List Int)×((Int×((List (List Int))×((List (List Int))×Unit)))×Unit))))×Unit)))))(a1:(((List Int)×((List Int)×(Int×Unit)))×((List Int)×Unit)))(a2:(Int×(Int×Unit))):Bool:=(F_64 a0 a1 a2).isSome
noncomputable def Sp.v_64(a0:(Int×(Int×(Int×((Int×(Int×((List Int)×((Int×((List (List Int))×((List (List Int))×Unit)))×Unit))))×Unit)))))(a1:(((List Int)×((List Int)×(Int×Unit)))×((List Int)×Unit)))(a2:(Int×(Int×Unit))):Int×Unit:=(F_64 a0 a1 a2).getD (dfH R_64)
noncomputable def s_64:Summ:=shN A_64 R_64 (fun x=>p_64 x.1 x.2.1 x.2.2.1) (fun x=>v_64 x.1 x.2.1 x.2.2.1)
theorem pv_64(a0:(Int×(Int×(Int×((Int×(Int×((List Int)×((Int×((List (List Int))×((List (List Int))×Unit)))×Unit))))×Unit)))))(a1:(((List Int)×((List Int)×(Int×Unit)))×((List Int)×Unit)))(a2:(Int×(Int×Unit))){y:Int×Unit}(h:F_64 a0 a1 a2=some y):p_64 a0 a1 a2=true/\v_64 a0 a1 a2=y:=pvG h
theorem run_64(x:HDen A_64)(y:HDen R_64)(h:F_64 x.1 x.2.1 x.2.2.1=some y):rnF sm_64 1 64 A_64 R_64 x y:=runG noO_ok (os:=[]) trivial (Eq.trans (by kernel_rfl) h)
end
noncomputable section
abbrev A_105:List Ty:=[(.pair (.pair (.slice (.int .u32)) (.pair (.slice (.int .i64)) (.pair (.int .i64) .unit))) (.pair (.arr 32 (.int .u8)) .unit)),(.int .i64)]
abbrev R_105:List Ty:=[(.int .i64)]
noncomputable def sm_105:Nat->Option Summ:=smL [(29,s_29),(120,s_120),(123,s_123)]
noncomputable def F_105(a0:(((List Int)×((List Int)×(Int×Unit)))×((List Int)×Unit)))(a1:Int):Option (Int×Unit) :=
 gd (p_29 a0) (bif !(v_29 a0).1 then some (1,PUnit.unit)else gd (p_120 a1) (bif !(v_120 a1).1 then some (2,PUnit.unit)else gd (p_123 a0 a1) (bif !(v_123 a0 a1).1 then some (14,PUnit.unit)else some (0,PUnit.unit))))
noncomputable def Sp.p_105(a0:(((List Int)×((List Int)×(Int×Unit)))×((List Int)×Unit)))(a1:Int):Bool:=(F_105 a0 a1).isSome
noncomputable def Sp.v_105(a0:(((List Int)×((List Int)×(Int×Unit)))×((List Int)×Unit)))(a1:Int):Int×Unit:=(F_105 a0 a1).getD (dfH R_105)
noncomputable def s_105:Summ:=shN A_105 R_105 (fun x=>p_105 x.1 x.2.1) (fun x=>v_105 x.1 x.2.1)
theorem pv_105(a0:(((List Int)×((List Int)×(Int×Unit)))×((List Int)×Unit)))(a1:Int){y:Int×Unit}(h:F_105 a0 a1=some y):p_105 a0 a1=true/\v_105 a0 a1=y:=pvG h
theorem run_105(x:HDen A_105)(y:HDen R_105)(h:F_105 x.1 x.2.1=some y):rnF sm_105 1 105 A_105 R_105 x y:=runG noO_ok (os:=[]) trivial (Eq.trans (by kernel_rfl) h)
end
noncomputable section
abbrev Zt65_0:Type:=(List Int×List Int×Int×Unit)×List Int×Unit
abbrev Zt65_1:Type:=Int×Int×Unit
abbrev Zy65_2:Ty:=(.pair (.pair (.slice (.int .u32)) (.pair (.slice (.int .i64)) (.pair (.int .i64) .unit))) (.pair (.arr 32 (.int .u8)) .unit))
abbrev Zy65_3:Ty:=(.pair (.int .i64) (.pair (.int .u32) .unit))
abbrev Zt65_4:Type:=((List Int)×((List Int)×(Int×Unit)))×((List Int)×Unit)
abbrev Zt65_5:Type:=Int×(Int×Unit)
abbrev A_65:List Ty:=[(.pair (.pair (.slice (.int .u32)) (.pair (.slice (.int .i64)) (.pair (.int .i64) .unit))) (.pair (.arr 32 (.int .u8)) .unit)),(.int .i64),(.pair (.int .i64) (.pair (.int .u32) .unit))]
abbrev R_65:List Ty:=[(.pair (.pair (.slice (.int .u32)) (.pair (.slice (.int .i64)) (.pair (.int .i64) .unit))) (.pair (.arr 32 (.int .u8)) .unit)),(.pair (.int .i64) (.pair (.int .u32) .unit)),(.int .i64)]
noncomputable def sm_65:Nat->Option Summ:=smL [(36,s_36),(44,s_44),(82,s_82),(93,s_93),(105,s_105),(106,s_106)]
noncomputable def T_65_1:PS:=⟨86,[(1,.hv (.int .i64)),(3,.kc (.ptr 0 [])),(5,.kc (.ptr 1 [])),(6,.kc (.ptr 2 [])),(7,.kc (.ptr 5 [])),(9,.hv (.int .i64))],[.mem (.hv Zy65_2),.mem (.hv Zy65_3),.mem (.pr (.pr (.kc (.whole 3)) (.pr (.kc (.whole 4)) (.hv (.pair (.int .i64) .unit)))) (.hv (.pair (.arr 32 (.int .u8)) .unit))),.vec 37 (.int .u32),.vec 3 (.int .i64),.mem (.hv Zy65_3)],0⟩
inductive Sp.E_65_1 where
 |e0 (p1:Int)
 |e1 (p0:Int) (p2:Zt65_0) (p3:Zt65_1)
 |e2 (p0:Int) (p2:Zt65_0) (p3:Zt65_1)
noncomputable def Sp.B_65_1{R:Type}(r:Option E_65_1)(k0:Int->Option R)(k1 k2:Int->Zt65_0->Zt65_1->Option R):Option R:=match r with
 |none=>none
 |some (.e0 p1)=>k0 p1
 |some (.e1 p0 p2 p3)=>k1 p0 p2 p3
 |some (.e2 p0 p2 p3)=>k2 p0 p2 p3
theorem Bn_65_1{A R:Type}{r:Option E_65_1}{f:A->Option R}{k0:Int->Option A}{k1:Int->Zt65_0->Zt65_1->Option A}{k2:Int->Zt65_0->Zt65_1->Option A}{l0:Int->Option R}{l1:Int->Zt65_0->Zt65_1->Option R}{l2:Int->Zt65_0->Zt65_1->Option R}(h0:∀p1,(k0 p1).bind f=l0 p1)(h1:∀p0 p2 p3,(k1 p0 p2 p3).bind f=l1 p0 p2 p3)(h2:∀p0 p2 p3,(k2 p0 p2 p3).bind f=l2 p0 p2 p3):(B_65_1 r k0 k1 k2).bind f=B_65_1 r l0 l1 l2:=by
 cases r with
 |none=>rfl
 |some e=>cases e<;>first|apply h0|apply h1|apply h2
noncomputable def Y_65_1{R:Type}(k:Ex->St->Option R):E_65_1->Option R
 | .e0 p1=>k Ex.ret (sx 86 [(6,CV.ptr 0 []),(7,CV.ptr 3 []),(8,CV.int i64 p1)] [Blk.mem (CV.pair (CV.pair (CV.whole 1) (CV.pair (CV.whole 2) (CV.pure (Ty.pair (Ty.int i64) Ty.unit) ((0,PUnit.unit):(Int×Unit))))) (CV.pure (Ty.pair (Ty.arr 32 (Ty.int u8)) Ty.unit) ((replicate 32 (0:Int),PUnit.unit):((List Int)×Unit)))),Blk.vec 37 (Ty.int u32) [],Blk.vec 3 (Ty.int i64) [],Blk.mem (CV.pure (Ty.pair (Ty.int i64) (Ty.pair (Ty.int u32) Ty.unit)) ((0,0,PUnit.unit):(Zt65_5)))])
 | .e1 p0 p2 p3=>k Ex.ret (sx 86 [(6,CV.ptr 0 []),(7,CV.ptr 3 []),(8,CV.int i64 ((v_93 (p2.1) (wrap i64 (wrap i64 (Int.tdiv (wrap i64 (p0*(↑(length (p2.1.1)):Int))) 2)+0)) 0 p3).2.2.1))] [Blk.mem (CV.pair (CV.pair (CV.whole 1) (CV.pair (CV.whole 2) (CV.pure (Ty.pair (Ty.int i64) Ty.unit) ((0,PUnit.unit):(Int×Unit))))) (CV.pure (Ty.pair (Ty.arr 32 (Ty.int u8)) Ty.unit) ((replicate 32 (0:Int),PUnit.unit):((List Int)×Unit)))),Blk.vec 37 (Ty.int u32) [],Blk.vec 3 (Ty.int i64) [],Blk.mem (CV.pure (Ty.pair (Ty.int i64) (Ty.pair (Ty.int u32) Ty.unit)) ((0,0,PUnit.unit):(Zt65_5)))])
 | .e2 p0 p2 p3=>k Ex.ret (sx 86 [(6,CV.ptr 0 []),(7,CV.ptr 1 []),(8,CV.int i64 ((v_93 (p2.1) (wrap i64 (wrap i64 (Int.tdiv (wrap i64 (p0*(↑(length (p2.1.1)):Int))) 2)+0)) 0 p3).2.2.1))] [Blk.mem (CV.pure (Ty.pair (Ty.pair (Ty.slice (Ty.int u32)) (Ty.pair (Ty.slice (Ty.int i64)) (Ty.pair (Ty.int i64) Ty.unit))) (Ty.pair (Ty.arr 32 (Ty.int u8)) Ty.unit)) (((v_93 (p2.1) (wrap i64 (wrap i64 (Int.tdiv (wrap i64 (p0*(↑(length (p2.1.1)):Int))) 2)+0)) 0 p3).1,p2.2.1,PUnit.unit):(Zt65_4))),Blk.mem (CV.pure (Ty.pair (Ty.int i64) (Ty.pair (Ty.int u32) Ty.unit)) (((v_93 (p2.1) (wrap i64 (wrap i64 (Int.tdiv (wrap i64 (p0*(↑(length (p2.1.1)):Int))) 2)+0)) 0 p3).2.1):(Zt65_5)))])
noncomputable def Sp.S_65_1{R:Type}(k:E_65_1->Option R)(p0 p1:Int)(p2:(List Int×List Int×Int×Unit)×List Int×Unit)(p3:Int×Int×Unit)(p4:Int×Unit)(p5:List Int×Unit)(p6 p7:List Int)(p8:Int×Int×Unit):Option R:=
 bif p1 !=0 then k (E_65_1.e0 p1)else gd (p_93 (p2.1) (wrap i64 (wrap i64 (Int.tdiv (wrap i64 (p0*(↑(length (p2.1.1)):Int))) 2)+0)) 0 p3) (bif(v_93 (p2.1) (wrap i64 (wrap i64 (Int.tdiv (wrap i64 (p0*(↑(length (p2.1.1)):Int))) 2)+0)) 0 p3).2.2.1 !=0 then bif(v_93 (p2.1) (wrap i64 (wrap i64 (Int.tdiv (wrap i64 (p0*(↑(length (p2.1.1)):Int))) 2)+0)) 0 p3).2.2.1 !=18 then k (E_65_1.e1 p0 p2 p3)else k (E_65_1.e2 p0 p2 p3)else k (E_65_1.e2 p0 p2 p3))
noncomputable def Sp.J_65_1(p0 p1:Int)(p2:(List Int×List Int×Int×Unit)×List Int×Unit)(p3:Int×Int×Unit)(p4:Int×Unit)(p5:List Int×Unit)(p6 p7:List Int)(p8:Int×Int×Unit):Option E_65_1:=S_65_1 some p0 p1 p2 p3 p4 p5 p6 p7 p8
noncomputable def O_65_1{R:Type}:Orc R:=orL T_65_1 (fun a=>J_65_1 a.1 a.2.1 a.2.2.1 a.2.2.2.1 a.2.2.2.2.1 a.2.2.2.2.2.1 a.2.2.2.2.2.2.1 a.2.2.2.2.2.2.2.1 a.2.2.2.2.2.2.2.2.1) Y_65_1
theorem OK_65_1{R:Type}:okF (R:=R) sm_65 0 (ni (nf 65 0) 0) O_65_1:=jp noO_ok (os:=[]) trivial T_65_1 (fun R k a=>S_65_1 k a.1 a.2.1 a.2.2.1 a.2.2.2.1 a.2.2.2.2.1 a.2.2.2.2.2.1 a.2.2.2.2.2.2.1 a.2.2.2.2.2.2.2.1 a.2.2.2.2.2.2.2.2.1) Y_65_1 (fun k a=>by kernel_rfl) (fun Y a=>by
 unfold S_65_1
 repeat' first|apply gdN|apply condN|rfl) (ok0 _)
noncomputable def T_65_0:PS:=⟨86,[(1,.hv (.int .i64)),(3,.kc (.ptr 0 [])),(5,.kc (.ptr 1 [])),(6,.kc (.ptr 2 [])),(7,.kc (.ptr 5 [])),(9,.hv (.int .i64))],[.mem (.hv Zy65_2),.mem (.hv Zy65_3),.mem (.pr (.pr (.kc (.whole 3)) (.pr (.kc (.whole 4)) (.hv (.pair (.int .i64) .unit)))) (.hv (.pair (.arr 32 (.int .u8)) .unit))),.vec 37 (.int .u32),.vec 3 (.int .i64),.mem (.hv Zy65_3)],0⟩
inductive Sp.E_65_0 where
 |e0 (y21:Int)
 |e1 (y22:Int) (y23:Zt65_0) (y24:Zt65_1)
 |e2 (y25:Int) (y26:Zt65_0) (y27:Zt65_1)
noncomputable def Sp.B_65_0{R:Type}(r:Option E_65_0)(k0:Int->Option R)(k1 k2:Int->Zt65_0->Zt65_1->Option R):Option R:=match r with
 |none=>none
 |some (.e0 y21)=>k0 y21
 |some (.e1 y22 y23 y24)=>k1 y22 y23 y24
 |some (.e2 y25 y26 y27)=>k2 y25 y26 y27
noncomputable def Y_65_0{R:Type}(k:Ex->St->Option R):E_65_0->Option R
 | .e0 y21=>k Ex.ret (sx 86 [(6,CV.ptr 0 []),(7,CV.ptr 3 []),(8,CV.int i64 y21)] [Blk.mem (CV.pair (CV.pair (CV.whole 1) (CV.pair (CV.whole 2) (CV.pure (Ty.pair (Ty.int i64) Ty.unit) ((0,PUnit.unit):(Int×Unit))))) (CV.pure (Ty.pair (Ty.arr 32 (Ty.int u8)) Ty.unit) ((replicate 32 (0:Int),PUnit.unit):((List Int)×Unit)))),Blk.vec 37 (Ty.int u32) [],Blk.vec 3 (Ty.int i64) [],Blk.mem (CV.pure (Ty.pair (Ty.int i64) (Ty.pair (Ty.int u32) Ty.unit)) ((0,0,PUnit.unit):(Zt65_5)))])
 | .e1 y22 y23 y24=>k Ex.ret (sx 86 [(6,CV.ptr 0 []),(7,CV.ptr 3 []),(8,CV.int i64 ((v_93 (y23.1) (wrap i64 (wrap i64 (Int.tdiv (wrap i64 (y22*(↑(length (y23.1.1)):Int))) 2)+0)) 0 y24).2.2.1))] [Blk.mem (CV.pair (CV.pair (CV.whole 1) (CV.pair (CV.whole 2) (CV.pure (Ty.pair (Ty.int i64) Ty.unit) ((0,PUnit.unit):(Int×Unit))))) (CV.pure (Ty.pair (Ty.arr 32 (Ty.int u8)) Ty.unit) ((replicate 32 (0:Int),PUnit.unit):((List Int)×Unit)))),Blk.vec 37 (Ty.int u32) [],Blk.vec 3 (Ty.int i64) [],Blk.mem (CV.pure (Ty.pair (Ty.int i64) (Ty.pair (Ty.int u32) Ty.unit)) ((0,0,PUnit.unit):(Zt65_5)))])
 | .e2 y25 y26 y27=>k Ex.ret (sx 86 [(6,CV.ptr 0 []),(7,CV.ptr 1 []),(8,CV.int i64 ((v_93 (y26.1) (wrap i64 (wrap i64 (Int.tdiv (wrap i64 (y25*(↑(length (y26.1.1)):Int))) 2)+0)) 0 y27).2.2.1))] [Blk.mem (CV.pure (Ty.pair (Ty.pair (Ty.slice (Ty.int u32)) (Ty.pair (Ty.slice (Ty.int i64)) (Ty.pair (Ty.int i64) Ty.unit))) (Ty.pair (Ty.arr 32 (Ty.int u8)) Ty.unit)) (((v_93 (y26.1) (wrap i64 (wrap i64 (Int.tdiv (wrap i64 (y25*(↑(length (y26.1.1)):Int))) 2)+0)) 0 y27).1,y26.2.1,PUnit.unit):(Zt65_4))),Blk.mem (CV.pure (Ty.pair (Ty.int i64) (Ty.pair (Ty.int u32) Ty.unit)) (((v_93 (y26.1) (wrap i64 (wrap i64 (Int.tdiv (wrap i64 (y25*(↑(length (y26.1.1)):Int))) 2)+0)) 0 y27).2.1):(Zt65_5)))])
noncomputable def Sp.S_65_0{R:Type}(k:E_65_0->Option R)(p0 p1:Int)(p2:(List Int×List Int×Int×Unit)×List Int×Unit)(p3:Int×Int×Unit)(p4:Int×Unit)(p5:List Int×Unit)(p6 p7:List Int)(p8:Int×Int×Unit):Option R:=
 gd (p_82 p2 p0) (bif p1==0 then gd (p_44 p2) (bif decide ((v_82 p2 p0).1.1<(v_44 p2).1)then B_65_1 (J_65_1 p0 20 p2 p3 p4 p5 p6 p7 p8) (fun y21=>k (E_65_0.e0 y21)) (fun y22 y23 y24=>k (E_65_0.e1 y22 y23 y24)) fun y25 y26 y27=>k (E_65_0.e2 y25 y26 y27)else B_65_1 (J_65_1 p0 p1 p2 p3 p4 p5 p6 p7 p8) (fun y28=>k (E_65_0.e0 y28)) (fun y29 y30 y31=>k (E_65_0.e1 y29 y30 y31)) fun y32 y33 y34=>k (E_65_0.e2 y32 y33 y34))else B_65_1 (J_65_1 p0 p1 p2 p3 p4 p5 p6 p7 p8) (fun y35=>k (E_65_0.e0 y35)) (fun y36 y37 y38=>k (E_65_0.e1 y36 y37 y38)) fun y39 y40 y41=>k (E_65_0.e2 y39 y40 y41))
noncomputable def Sp.J_65_0(p0 p1:Int)(p2:(List Int×List Int×Int×Unit)×List Int×Unit)(p3:Int×Int×Unit)(p4:Int×Unit)(p5:List Int×Unit)(p6 p7:List Int)(p8:Int×Int×Unit):Option E_65_0:=S_65_0 some p0 p1 p2 p3 p4 p5 p6 p7 p8
noncomputable def O_65_0{R:Type}:Orc R:=orL T_65_0 (fun a=>J_65_0 a.1 a.2.1 a.2.2.1 a.2.2.2.1 a.2.2.2.2.1 a.2.2.2.2.2.1 a.2.2.2.2.2.2.1 a.2.2.2.2.2.2.2.1 a.2.2.2.2.2.2.2.2.1) Y_65_0
theorem OK_65_0{R:Type}:okF (R:=R) sm_65 0 (nf 65 0) O_65_0:=jp noO_ok (os:=[O_65_1]) ⟨OK_65_1,trivial⟩ T_65_0 (fun R k a=>S_65_0 k a.1 a.2.1 a.2.2.1 a.2.2.2.1 a.2.2.2.2.1 a.2.2.2.2.2.1 a.2.2.2.2.2.2.1 a.2.2.2.2.2.2.2.1 a.2.2.2.2.2.2.2.2.1) Y_65_0 (fun k a=>by kernel_rfl) (fun Y a=>by
 unfold S_65_0
 repeat' first|apply gdN|apply condN|(apply Bn_65_1<;>intros)|rfl) (ok0 _)
noncomputable def F_65(a0:(((List Int)×((List Int)×(Int×Unit)))×((List Int)×Unit)))(a1:Int)(a2:(Int×(Int×Unit))):Option ((((List Int)×((List Int)×(Int×Unit)))×((List Int)×Unit))×(Int×(Int×Unit))×Int×Unit) :=
 bif decide (a2.1<0)then some ((([],[],0,PUnit.unit),replicate 32 (0:Int),PUnit.unit),(0,0,PUnit.unit),1,PUnit.unit)else gd p_36 (bif decide (a2.1>v_36.1.1)then some ((([],[],0,PUnit.unit),replicate 32 (0:Int),PUnit.unit),(0,0,PUnit.unit),1,PUnit.unit)else gd (p_105 a0 a1) (bif(v_105 a0 a1).1==0 then gd (p_106 a0 a1) (bif(v_106 a0 a1).1 then B_65_0 (J_65_0 a1 6 a0 a2 (0,PUnit.unit) (replicate 32 (0:Int),PUnit.unit) [] [] (0,0,PUnit.unit)) (fun y25=>some ((([],[],0,PUnit.unit),replicate 32 (0:Int),PUnit.unit),(0,0,PUnit.unit),y25,PUnit.unit)) (fun y26 y27 y28=>some ((([],[],0,PUnit.unit),replicate 32 (0:Int),PUnit.unit),(0,0,PUnit.unit),(v_93 (y27.1) (wrap i64 (wrap i64 (Int.tdiv (wrap i64 (y26*(↑(length (y27.1.1)):Int))) 2)+0)) 0 y28).2.2.1,PUnit.unit)) fun y29 y30 y31=>some (((v_93 (y30.1) (wrap i64 (wrap i64 (Int.tdiv (wrap i64 (y29*(↑(length (y30.1.1)):Int))) 2)+0)) 0 y31).1,y30.2.1,PUnit.unit),(v_93 (y30.1) (wrap i64 (wrap i64 (Int.tdiv (wrap i64 (y29*(↑(length (y30.1.1)):Int))) 2)+0)) 0 y31).2.1,(v_93 (y30.1) (wrap i64 (wrap i64 (Int.tdiv (wrap i64 (y29*(↑(length (y30.1.1)):Int))) 2)+0)) 0 y31).2.2.1,PUnit.unit)else B_65_0 (J_65_0 a1 ((v_105 a0 a1).1) a0 a2 (0,PUnit.unit) (replicate 32 (0:Int),PUnit.unit) [] [] (0,0,PUnit.unit)) (fun y32=>some ((([],[],0,PUnit.unit),replicate 32 (0:Int),PUnit.unit),(0,0,PUnit.unit),y32,PUnit.unit)) (fun y33 y34 y35=>some ((([],[],0,PUnit.unit),replicate 32 (0:Int),PUnit.unit),(0,0,PUnit.unit),(v_93 (y34.1) (wrap i64 (wrap i64 (Int.tdiv (wrap i64 (y33*(↑(length (y34.1.1)):Int))) 2)+0)) 0 y35).2.2.1,PUnit.unit)) fun y36 y37 y38=>some (((v_93 (y37.1) (wrap i64 (wrap i64 (Int.tdiv (wrap i64 (y36*(↑(length (y37.1.1)):Int))) 2)+0)) 0 y38).1,y37.2.1,PUnit.unit),(v_93 (y37.1) (wrap i64 (wrap i64 (Int.tdiv (wrap i64 (y36*(↑(length (y37.1.1)):Int))) 2)+0)) 0 y38).2.1,(v_93 (y37.1) (wrap i64 (wrap i64 (Int.tdiv (wrap i64 (y36*(↑(length (y37.1.1)):Int))) 2)+0)) 0 y38).2.2.1,PUnit.unit))else B_65_0 (J_65_0 a1 ((v_105 a0 a1).1) a0 a2 (0,PUnit.unit) (replicate 32 (0:Int),PUnit.unit) [] [] (0,0,PUnit.unit)) (fun y39=>some ((([],[],0,PUnit.unit),replicate 32 (0:Int),PUnit.unit),(0,0,PUnit.unit),y39,PUnit.unit)) (fun y40 y41 y42=>some ((([],[],0,PUnit.unit),replicate 32 (0:Int),PUnit.unit),(0,0,PUnit.unit),(v_93 (y41.1) (wrap i64 (wrap i64 (Int.tdiv (wrap i64 (y40*(↑(length (y41.1.1)):Int))) 2)+0)) 0 y42).2.2.1,PUnit.unit)) fun y43 y44 y45=>some (((v_93 (y44.1) (wrap i64 (wrap i64 (Int.tdiv (wrap i64 (y43*(↑(length (y44.1.1)):Int))) 2)+0)) 0 y45).1,y44.2.1,PUnit.unit),(v_93 (y44.1) (wrap i64 (wrap i64 (Int.tdiv (wrap i64 (y43*(↑(length (y44.1.1)):Int))) 2)+0)) 0 y45).2.1,(v_93 (y44.1) (wrap i64 (wrap i64 (Int.tdiv (wrap i64 (y43*(↑(length (y44.1.1)):Int))) 2)+0)) 0 y45).2.2.1,PUnit.unit)))
noncomputable def Sp.p_65(a0:(((List Int)×((List Int)×(Int×Unit)))×((List Int)×Unit)))(a1:Int)(a2:(Int×(Int×Unit))):Bool:=(F_65 a0 a1 a2).isSome
noncomputable def Sp.v_65(a0:(((List Int)×((List Int)×(Int×Unit)))×((List Int)×Unit)))(a1:Int)(a2:(Int×(Int×Unit))):(((List Int)×((List Int)×(Int×Unit)))×((List Int)×Unit))×(Int×(Int×Unit))×Int×Unit:=(F_65 a0 a1 a2).getD (dfH R_65)
noncomputable def s_65:Summ:=shS A_65 R_65 (fun x=>p_65 x.1 x.2.1 x.2.2.1) (fun x=>v_65 x.1 x.2.1 x.2.2.1)
theorem pv_65(a0:(((List Int)×((List Int)×(Int×Unit)))×((List Int)×Unit)))(a1:Int)(a2:(Int×(Int×Unit))){y:(((List Int)×((List Int)×(Int×Unit)))×((List Int)×Unit))×(Int×(Int×Unit))×Int×Unit}(h:F_65 a0 a1 a2=some y):p_65 a0 a1 a2=true/\v_65 a0 a1 a2=y:=pvG h
theorem run_65(x:HDen A_65)(y:HDen R_65)(h:F_65 x.1 x.2.1 x.2.2.1=some y):rnF sm_65 1 65 A_65 R_65 x y:=runG noO_ok (os:=[O_65_0]) ⟨OK_65_0,trivial⟩ (Eq.trans (by kernel_rfl) h)
end
noncomputable section
abbrev A_19:List Ty:=[(.pair (.int .i64) (.pair (.int .i64) (.pair (.int .i64) (.pair (.pair (.int .i64) (.pair (.int .i64) (.pair (.arr 32 (.int .u8)) (.pair (.pair (.int .i64) (.pair (.slice (.arr 32 (.int .u8))) (.pair (.slice (.arr 32 (.int .u8))) .unit))) .unit)))) .unit)))),(.pair (.pair (.slice (.int .u32)) (.pair (.slice (.int .i64)) (.pair (.int .i64) .unit))) (.pair (.arr 32 (.int .u8)) .unit)),(.pair (.int .i64) (.pair (.int .u32) .unit))]
abbrev R_19:List Ty:=[(.pair (.int .i64) (.pair (.int .i64) (.pair (.int .i64) (.pair (.pair (.int .i64) (.pair (.int .i64) (.pair (.arr 32 (.int .u8)) (.pair (.pair (.int .i64) (.pair (.slice (.arr 32 (.int .u8))) (.pair (.slice (.arr 32 (.int .u8))) .unit))) .unit)))) .unit)))),(.pair (.pair (.slice (.int .u32)) (.pair (.slice (.int .i64)) (.pair (.int .i64) .unit))) (.pair (.arr 32 (.int .u8)) .unit)),(.pair (.int .i64) (.pair (.int .u32) .unit)),(.int .i64)]
noncomputable def sm_19:Nat->Option Summ:=smL [(42,s_42),(64,s_64),(65,s_65)]
noncomputable def F_19(a0:(Int×(Int×(Int×((Int×(Int×((List Int)×((Int×((List (List Int))×((List (List Int))×Unit)))×Unit))))×Unit)))))(a1:(((List Int)×((List Int)×(Int×Unit)))×((List Int)×Unit)))(a2:(Int×(Int×Unit))):Option ((Int×(Int×(Int×((Int×(Int×((List Int)×((Int×((List (List Int))×((List (List Int))×Unit)))×Unit))))×Unit))))×(((List Int)×((List Int)×(Int×Unit)))×((List Int)×Unit))×(Int×(Int×Unit))×Int×Unit) :=
 gd (p_64 a0 a1 a2) (bif(v_64 a0 a1 a2).1 !=0 then gd (p_42 ((v_64 a0 a1 a2).1)) (some ((v_42 ((v_64 a0 a1 a2).1)).1,(v_42 ((v_64 a0 a1 a2).1)).2.1,(v_42 ((v_64 a0 a1 a2).1)).2.2.1,(v_42 ((v_64 a0 a1 a2).1)).2.2.2.1,PUnit.unit))else bif a0.1 !=2 then gd (p_42 6) (some ((v_42 6).1,(v_42 6).2.1,(v_42 6).2.2.1,(v_42 6).2.2.2.1,PUnit.unit))else gd (p_65 a1 (a0.2.1) a2) (bif(v_65 a1 (a0.2.1) a2).2.2.1==0 then some ((0,0,0,(0,0,replicate 32 (0:Int),(0,[],[],PUnit.unit),PUnit.unit),PUnit.unit),(v_65 a1 (a0.2.1) a2).1,(v_65 a1 (a0.2.1) a2).2.1,0,PUnit.unit)else bif(v_65 a1 (a0.2.1) a2).2.2.1==18 then some ((0,0,0,(0,0,replicate 32 (0:Int),(0,[],[],PUnit.unit),PUnit.unit),PUnit.unit),(v_65 a1 (a0.2.1) a2).1,(v_65 a1 (a0.2.1) a2).2.1,18,PUnit.unit)else gd (p_42 ((v_65 a1 (a0.2.1) a2).2.2.1)) (some ((v_42 ((v_65 a1 (a0.2.1) a2).2.2.1)).1,(v_42 ((v_65 a1 (a0.2.1) a2).2.2.1)).2.1,(v_42 ((v_65 a1 (a0.2.1) a2).2.2.1)).2.2.1,(v_42 ((v_65 a1 (a0.2.1) a2).2.2.1)).2.2.2.1,PUnit.unit))))
noncomputable def Sp.p_19(a0:(Int×(Int×(Int×((Int×(Int×((List Int)×((Int×((List (List Int))×((List (List Int))×Unit)))×Unit))))×Unit)))))(a1:(((List Int)×((List Int)×(Int×Unit)))×((List Int)×Unit)))(a2:(Int×(Int×Unit))):Bool:=(F_19 a0 a1 a2).isSome
noncomputable def Sp.v_19(a0:(Int×(Int×(Int×((Int×(Int×((List Int)×((Int×((List (List Int))×((List (List Int))×Unit)))×Unit))))×Unit)))))(a1:(((List Int)×((List Int)×(Int×Unit)))×((List Int)×Unit)))(a2:(Int×(Int×Unit))):(Int×(Int×(Int×((Int×(Int×((List Int)×((Int×((List (List Int))×((List (List Int))×Unit)))×Unit))))×Unit))))×(((List Int)×((List Int)×(Int×Unit)))×((List Int)×Unit))×(Int×(Int×Unit))×Int×Unit:=(F_19 a0 a1 a2).getD (dfH R_19)
noncomputable def s_19:Summ:=shS A_19 R_19 (fun x=>p_19 x.1 x.2.1 x.2.2.1) (fun x=>v_19 x.1 x.2.1 x.2.2.1)
theorem pv_19(a0:(Int×(Int×(Int×((Int×(Int×((List Int)×((Int×((List (List Int))×((List (List Int))×Unit)))×Unit))))×Unit)))))(a1:(((List Int)×((List Int)×(Int×Unit)))×((List Int)×Unit)))(a2:(Int×(Int×Unit))){y:(Int×(Int×(Int×((Int×(Int×((List Int)×((Int×((List (List Int))×((List (List Int))×Unit)))×Unit))))×Unit))))×(((List Int)×((List Int)×(Int×Unit)))×((List Int)×Unit))×(Int×(Int×Unit))×Int×Unit}(h:F_19 a0 a1 a2=some y):p_19 a0 a1 a2=true/\v_19 a0 a1 a2=y:=pvG h
theorem run_19(x:HDen A_19)(y:HDen R_19)(h:F_19 x.1 x.2.1 x.2.2.1=some y):rnF sm_19 2 19 A_19 R_19 x y:=runG noO_ok (os:=[]) trivial (Eq.trans (by kernel_rfl) h)
end
noncomputable section
abbrev Zt68_0:Type:=Int×Int×Int×(Int×Int×List Int×(Int×List (List Int)×List (List Int)×Unit)×Unit)×Unit
abbrev Zt68_1:Type:=((List Int×List Int×Int×Unit)×List Int×Unit)×(Int×Int×Unit)×Int×Unit
abbrev Zy68_2:Ty:=(.pair (.int .i64) (.pair (.int .i64) (.pair (.int .i64) (.pair (.pair (.int .i64) (.pair (.int .i64) (.pair (.arr 32 (.int .u8)) (.pair (.pair (.int .i64) (.pair (.slice (.arr 32 (.int .u8))) (.pair (.slice (.arr 32 (.int .u8))) .unit))) .unit)))) .unit))))
abbrev Zt68_3:Type:=(List Int×List Int×Int×Unit)×List Int×Unit
abbrev Zt68_4:Type:=(Int×Int×Unit)×Int×Unit
abbrev Zy68_5:Ty:=(.pair (.pair (.pair (.slice (.int .u32)) (.pair (.slice (.int .i64)) (.pair (.int .i64) .unit))) (.pair (.arr 32 (.int .u8)) .unit)) (.pair (.pair (.int .i64) (.pair (.int .u32) .unit)) (.pair (.int .i64) .unit)))
abbrev Zt68_6:Type:=Int×Int×Unit
abbrev Zt68_7:Type:=List Int×Unit
abbrev Zy68_8:Ty:=(.pair (.int .i64) (.pair (.int .u32) .unit))
abbrev Zt68_9:Type:=(((List Int)×((List Int)×(Int×Unit)))×((List Int)×Unit))
abbrev Zt68_10:Type:=(Int×(Int×(Int×((Int×(Int×((List Int)×((Int×((List (List Int))×((List (List Int))×Unit)))×Unit))))×Unit))))
abbrev Zy68_11:Ty:=(.pair (.pair (.slice (.int .u32)) (.pair (.slice (.int .i64)) (.pair (.int .i64) .unit))) (.pair (.arr 32 (.int .u8)) .unit))
abbrev Zy68_12:Ty:=(.pair (.arr 32 (.int .u8)) .unit)
abbrev Zy68_13:Ty:=(.pair (.pair (.int .i64) (.pair (.int .u32) .unit)) (.pair (.int .i64) .unit))
abbrev Zt68_14:Type:=(Int×(Int×Unit))
abbrev A_68:List Ty:=[(.pair (.int .i64) (.pair (.int .i64) (.pair (.int .i64) (.pair (.pair (.int .i64) (.pair (.int .i64) (.pair (.arr 32 (.int .u8)) (.pair (.pair (.int .i64) (.pair (.slice (.arr 32 (.int .u8))) (.pair (.slice (.arr 32 (.int .u8))) .unit))) .unit)))) .unit)))),(.pair (.pair (.slice (.int .u32)) (.pair (.slice (.int .i64)) (.pair (.int .i64) .unit))) (.pair (.arr 32 (.int .u8)) .unit)),(.int .i64),(.slice (.int .u32)),(.pair (.int .i64) (.pair (.int .u32) .unit))]
abbrev R_68:List Ty:=[(.pair (.int .i64) (.pair (.int .i64) (.pair (.int .i64) (.pair (.pair (.int .i64) (.pair (.int .i64) (.pair (.arr 32 (.int .u8)) (.pair (.pair (.int .i64) (.pair (.slice (.arr 32 (.int .u8))) (.pair (.slice (.arr 32 (.int .u8))) .unit))) .unit)))) .unit)))),(.pair (.pair (.slice (.int .u32)) (.pair (.slice (.int .i64)) (.pair (.int .i64) .unit))) (.pair (.arr 32 (.int .u8)) .unit)),(.pair (.int .i64) (.pair (.int .u32) .unit)),(.int .i64)]
noncomputable def sm_68:Nat->Option Summ:=smL [(41,s_41),(42,s_42),(64,s_64),(90,s_90),(91,s_91),(93,s_93)]
noncomputable def T_68_50_0_1:PS:=⟨49,[(0,.kc (.ptr 6 [])),(1,.hv (.int .i64)),(8,.hv (.slice (.int .u32))),(9,.hv (.int .i64)),(10,.hv (.int .i64))],[.mem (.hv Zy68_2),.mem (.hv Zy68_11),.mem (.hv Zy68_8),.mem (.pr (.hv (.int .i64)) (.pr (.hv (.int .i64)) (.pr (.hv (.int .i64)) (.pr (.pr (.hv (.int .i64)) (.pr (.hv (.int .i64)) (.pr (.hv (.arr 32 (.int .u8))) (.pr (.pr (.hv (.int .i64)) (.kc (.pair (.nil 23 (.arr 32 (.int .u8))) (.pair (.nil 23 (.arr 32 (.int .u8))) (.pure .unit PUnit.unit))))) (.kc (.pure .unit PUnit.unit)))))) (.kc (.pure .unit PUnit.unit)))))),.mem (.pr (.pr (.kc (.nil 37 (.int .u32))) (.pr (.kc (.nil 3 (.int .i64))) (.hv (.pair (.int .i64) .unit)))) (.hv Zy68_12)),.mem (.hv Zy68_8),.mem (.hv Zy68_5),.fvec 37 (.int .u32),.fvec 3 (.int .i64),.fresh],10⟩
inductive Sp.E_68_50_0_1 where
 |e0 (p4:Zt68_0) (p5:Zt68_3) (p6:Zt68_6) (p7 p8 p9 p10 p11:Int) (p12:List Int) (p13:Int) (p14:Int×Unit) (p15:Zt68_7) (p16:Zt68_6) (p17:Zt68_1) (p18 p19:List Int)
noncomputable def Sp.B_68_50_0_1{R:Type}(r:Option E_68_50_0_1)(k0:Zt68_0->Zt68_3->Zt68_6->Int->Int->Int->Int->Int->List Int->Int->(Int×Unit)->Zt68_7->Zt68_6->Zt68_1->List Int->List Int->Option R):Option R:=match r with
 |none=>none
 |some (.e0 p4 p5 p6 p7 p8 p9 p10 p11 p12 p13 p14 p15 p16 p17 p18 p19)=>k0 p4 p5 p6 p7 p8 p9 p10 p11 p12 p13 p14 p15 p16 p17 p18 p19
noncomputable def Y_68_50_0_1{R:Type}(k:Ex->St->Option R):E_68_50_0_1->Option R
 | .e0 p4 p5 p6 p7 p8 p9 p10 p11 p12 p13 p14 p15 p16 p17 p18 p19=>k (Ex.exit 0) (sx 49 [] [Blk.mem (CV.pure (Ty.pair (Ty.int i64) (Ty.pair (Ty.int i64) (Ty.pair (Ty.int i64) (Ty.pair (Ty.pair (Ty.int i64) (Ty.pair (Ty.int i64) (Ty.pair (Ty.arr 32 (Ty.int u8)) (Ty.pair (Ty.pair (Ty.int i64) (Ty.pair (Ty.slice (Ty.arr 32 (Ty.int u8))) (Ty.pair (Ty.slice (Ty.arr 32 (Ty.int u8))) Ty.unit))) Ty.unit)))) Ty.unit)))) p4),Blk.mem (CV.pure (Ty.pair (Ty.pair (Ty.slice (Ty.int u32)) (Ty.pair (Ty.slice (Ty.int i64)) (Ty.pair (Ty.int i64) Ty.unit))) (Ty.pair (Ty.arr 32 (Ty.int u8)) Ty.unit)) p5),Blk.mem (CV.pure (Ty.pair (Ty.int i64) (Ty.pair (Ty.int u32) Ty.unit)) p6),Blk.mem (CV.pair (CV.int i64 p7) (CV.pair (CV.int i64 p8) (CV.pair (CV.int i64 p9) (CV.pair (CV.pair (CV.int i64 p10) (CV.pair (CV.int i64 p11) (CV.pair (CV.pure (Ty.arr 32 (Ty.int u8)) p12) (CV.pair (CV.pair (CV.int i64 p13) (CV.pair (CV.nil 23 (Ty.arr 32 (Ty.int u8))) (CV.pair (CV.nil 23 (Ty.arr 32 (Ty.int u8))) (CV.pure Ty.unit PUnit.unit)))) (CV.pure Ty.unit PUnit.unit))))) (CV.pure Ty.unit PUnit.unit))))),Blk.mem (CV.pair (CV.pair (CV.nil 37 (Ty.int u32)) (CV.pair (CV.nil 3 (Ty.int i64)) (CV.pure (Ty.pair (Ty.int i64) Ty.unit) p14))) (CV.pure (Ty.pair (Ty.arr 32 (Ty.int u8)) Ty.unit) p15)),Blk.mem (CV.pure (Ty.pair (Ty.int i64) (Ty.pair (Ty.int u32) Ty.unit)) p16),Blk.mem (CV.pure (Ty.pair (Ty.pair (Ty.pair (Ty.slice (Ty.int u32)) (Ty.pair (Ty.slice (Ty.int i64)) (Ty.pair (Ty.int i64) Ty.unit))) (Ty.pair (Ty.arr 32 (Ty.int u8)) Ty.unit)) (Ty.pair (Ty.pair (Ty.int i64) (Ty.pair (Ty.int u32) Ty.unit)) (Ty.pair (Ty.int i64) Ty.unit))) p17),Blk.fvec 37 (Ty.int u32) p18,Blk.fvec 3 (Ty.int i64) p19,Blk.fresh] 10)
noncomputable def Sp.S_68_50_0_1{R:Type}(K:Int->List Int->Int->Int->(Int×Int×Int×(Int×Int×List Int×(Int×List (List Int)×List (List Int)×Unit)×Unit)×Unit)->((List Int×List Int×Int×Unit)×List Int×Unit)->(Int×Int×Unit)->Int->Int->Int->Int->Int->List Int->Int->(Int×Unit)->(List Int×Unit)->(Int×Int×Unit)->(((List Int×List Int×Int×Unit)×List Int×Unit)×(Int×Int×Unit)×Int×Unit)->List Int->List Int->Option R)(k:E_68_50_0_1->Option R)(p0:Int)(p1:List Int)(p2 p3:Int)(p4:Int×Int×Int×(Int×Int×List Int×(Int×List (List Int)×List (List Int)×Unit)×Unit)×Unit)(p5:(List Int×List Int×Int×Unit)×List Int×Unit)(p6:Int×Int×Unit)(p7 p8 p9 p10 p11:Int)(p12:List Int)(p13:Int)(p14:Int×Unit)(p15:List Int×Unit)(p16:Int×Int×Unit)(p17:((List Int×List Int×Int×Unit)×List Int×Unit)×(Int×Int×Unit)×Int×Unit)(p18 p19:List Int):Option R:=
 bif decide (p3<p2)then gd (inB p3 (length p1)) (bif p17.2.2.1==0 then gd (p_93 (p17.1.1) (wrap i64 (p0+p3)) (getD p1 (toNat p3) 0) (p17.2.1)) (K p0 p1 p2 (wrap i64 (p3+1)) p4 p5 p6 p7 p8 p9 p10 p11 p12 p13 p14 p15 p16 (((v_93 (p17.1.1) (wrap i64 (p0+p3)) (getD p1 (toNat p3) 0) (p17.2.1)).1,p17.1.2),(v_93 (p17.1.1) (wrap i64 (p0+p3)) (getD p1 (toNat p3) 0) (p17.2.1)).2.1,(v_93 (p17.1.1) (wrap i64 (p0+p3)) (getD p1 (toNat p3) 0) (p17.2.1)).2.2.1,p17.2.2.2) p18 p19)else K p0 p1 p2 (wrap i64 (p3+1)) p4 p5 p6 p7 p8 p9 p10 p11 p12 p13 p14 p15 p16 p17 p18 p19)else k (E_68_50_0_1.e0 p4 p5 p6 p7 p8 p9 p10 p11 p12 p13 p14 p15 p16 p17 p18 p19)
noncomputable def Sp.L_68_50_0_1:Nat->Int->List Int->Int->Int->(Int×Int×Int×(Int×Int×List Int×(Int×List (List Int)×List (List Int)×Unit)×Unit)×Unit)->((List Int×List Int×Int×Unit)×List Int×Unit)->(Int×Int×Unit)->Int->Int->Int->Int->Int->List Int->Int->(Int×Unit)->(List Int×Unit)->(Int×Int×Unit)->(((List Int×List Int×Int×Unit)×List Int×Unit)×(Int×Int×Unit)×Int×Unit)->List Int->List Int->Option E_68_50_0_1
 |0,_,_,_,_,_,_,_,_,_,_,_,_,_,_,_,_,_,_,_,_=>none
 |m+1,p0,p1,p2,p3,p4,p5,p6,p7,p8,p9,p10,p11,p12,p13,p14,p15,p16,p17,p18,p19=>S_68_50_0_1 (L_68_50_0_1 m) some p0 p1 p2 p3 p4 p5 p6 p7 p8 p9 p10 p11 p12 p13 p14 p15 p16 p17 p18 p19
noncomputable def l_68_50_0_1(m:Nat)(a:T_68_50_0_1.E):Option E_68_50_0_1:=L_68_50_0_1 m a.1 a.2.1 a.2.2.1 a.2.2.2.1 a.2.2.2.2.1 a.2.2.2.2.2.1 a.2.2.2.2.2.2.1 a.2.2.2.2.2.2.2.1 a.2.2.2.2.2.2.2.2.1 a.2.2.2.2.2.2.2.2.2.1 a.2.2.2.2.2.2.2.2.2.2.1 a.2.2.2.2.2.2.2.2.2.2.2.1 a.2.2.2.2.2.2.2.2.2.2.2.2.1 a.2.2.2.2.2.2.2.2.2.2.2.2.2.1 a.2.2.2.2.2.2.2.2.2.2.2.2.2.2.1 a.2.2.2.2.2.2.2.2.2.2.2.2.2.2.2.1 a.2.2.2.2.2.2.2.2.2.2.2.2.2.2.2.2.1 a.2.2.2.2.2.2.2.2.2.2.2.2.2.2.2.2.2.1 a.2.2.2.2.2.2.2.2.2.2.2.2.2.2.2.2.2.2.1 a.2.2.2.2.2.2.2.2.2.2.2.2.2.2.2.2.2.2.2.1
noncomputable def O_68_50_0_1{R:Type}:Orc R:=orL T_68_50_0_1 (l_68_50_0_1 FU) Y_68_50_0_1
theorem loop_68_50_0_1{R:Type}(k:Ex->St->Option R):∀m a,evLoopN (evCodeL sm_68 FU (ovr noO (evFn sm_68 fns FU 0)) (mkT (inner (nf 50 0)) []) (inner (nf 50 0))) (St.norm (lv (nf 50 0))) m (T_68_50_0_1.inst a) k=(l_68_50_0_1 m a).bind (Y_68_50_0_1 k):=lpN l_68_50_0_1 (fun R K k a=>S_68_50_0_1 (fun p0 p1 p2 p3 p4 p5 p6 p7 p8 p9 p10 p11 p12 p13 p14 p15 p16 p17 p18 p19=>K (p0,p1,p2,p3,p4,p5,p6,p7,p8,p9,p10,p11,p12,p13,p14,p15,p16,p17,p18,p19,())) k a.1 a.2.1 a.2.2.1 a.2.2.2.1 a.2.2.2.2.1 a.2.2.2.2.2.1 a.2.2.2.2.2.2.1 a.2.2.2.2.2.2.2.1 a.2.2.2.2.2.2.2.2.1 a.2.2.2.2.2.2.2.2.2.1 a.2.2.2.2.2.2.2.2.2.2.1 a.2.2.2.2.2.2.2.2.2.2.2.1 a.2.2.2.2.2.2.2.2.2.2.2.2.1 a.2.2.2.2.2.2.2.2.2.2.2.2.2.1 a.2.2.2.2.2.2.2.2.2.2.2.2.2.2.1 a.2.2.2.2.2.2.2.2.2.2.2.2.2.2.2.1 a.2.2.2.2.2.2.2.2.2.2.2.2.2.2.2.2.1 a.2.2.2.2.2.2.2.2.2.2.2.2.2.2.2.2.2.1 a.2.2.2.2.2.2.2.2.2.2.2.2.2.2.2.2.2.2.1 a.2.2.2.2.2.2.2.2.2.2.2.2.2.2.2.2.2.2.2.1) (fun _=>rfl) (fun _ _=>rfl) (fun K a=>by kernel_rfl) (fun K a=>by
 unfold S_68_50_0_1
 repeat' first|apply gdN|apply condN|rfl)
theorem OK_68_50_0_1{R:Type}:okF (R:=R) sm_68 0 (nf 50 0) O_68_50_0_1:=lp0 T_68_50_0_1 l_68_50_0_1 (fun R K k a=>S_68_50_0_1 (fun p0 p1 p2 p3 p4 p5 p6 p7 p8 p9 p10 p11 p12 p13 p14 p15 p16 p17 p18 p19=>K (p0,p1,p2,p3,p4,p5,p6,p7,p8,p9,p10,p11,p12,p13,p14,p15,p16,p17,p18,p19,())) k a.1 a.2.1 a.2.2.1 a.2.2.2.1 a.2.2.2.2.1 a.2.2.2.2.2.1 a.2.2.2.2.2.2.1 a.2.2.2.2.2.2.2.1 a.2.2.2.2.2.2.2.2.1 a.2.2.2.2.2.2.2.2.2.1 a.2.2.2.2.2.2.2.2.2.2.1 a.2.2.2.2.2.2.2.2.2.2.2.1 a.2.2.2.2.2.2.2.2.2.2.2.2.1 a.2.2.2.2.2.2.2.2.2.2.2.2.2.1 a.2.2.2.2.2.2.2.2.2.2.2.2.2.2.1 a.2.2.2.2.2.2.2.2.2.2.2.2.2.2.2.1 a.2.2.2.2.2.2.2.2.2.2.2.2.2.2.2.2.1 a.2.2.2.2.2.2.2.2.2.2.2.2.2.2.2.2.2.1 a.2.2.2.2.2.2.2.2.2.2.2.2.2.2.2.2.2.2.1 a.2.2.2.2.2.2.2.2.2.2.2.2.2.2.2.2.2.2.2.1) Y_68_50_0_1 (fun _ _ _=>by kernel_rfl) (fun _ _ _=>by
 unfold S_68_50_0_1
 repeat' first|apply gdN|apply condN|rfl) (ok0 _)
noncomputable def T_68_50_0_0:PS:=⟨49,[(0,.kc (.ptr 6 [])),(1,.hv (.int .i64)),(8,.hv (.slice (.int .u32))),(9,.hv (.int .i64)),(10,.hv (.int .i64))],[.mem (.hv Zy68_2),.mem (.hv Zy68_11),.mem (.hv Zy68_8),.mem (.pr (.hv (.int .i64)) (.pr (.hv (.int .i64)) (.pr (.hv (.int .i64)) (.pr (.pr (.hv (.int .i64)) (.pr (.hv (.int .i64)) (.pr (.hv (.arr 32 (.int .u8))) (.pr (.pr (.hv (.int .i64)) (.kc (.pair (.nil 23 (.arr 32 (.int .u8))) (.pair (.nil 23 (.arr 32 (.int .u8))) (.pure .unit PUnit.unit))))) (.kc (.pure .unit PUnit.unit)))))) (.kc (.pure .unit PUnit.unit)))))),.mem (.pr (.pr (.kc (.nil 37 (.int .u32))) (.pr (.kc (.nil 3 (.int .i64))) (.hv (.pair (.int .i64) .unit)))) (.hv Zy68_12)),.mem (.hv Zy68_8),.mem (.pr (.pr (.pr (.kc (.whole 7)) (.pr (.kc (.whole 8)) (.hv (.pair (.int .i64) .unit)))) (.hv Zy68_12)) (.hv Zy68_13)),.vec 37 (.int .u32),.vec 3 (.int .i64),.fresh],10⟩
inductive Sp.E_68_50_0_0 where
 |e0 (p4:Zt68_0) (p5:Zt68_3) (p6:Zt68_6) (p7 p8 p9 p10 p11:Int) (p12:List Int) (p13:Int) (p14:Int×Unit) (p15:Zt68_7) (p16:Zt68_6) (p17:Int×Unit) (p18:Zt68_7) (p19:Zt68_4) (p20 p21:List Int)
 |e1 (p4:Zt68_0) (p5:Zt68_3) (p6:Zt68_6) (p7 p8 p9 p10 p11:Int) (p12:List Int) (p13:Int) (p14:Int×Unit) (p15:Zt68_7) (p16:Zt68_6) (p17:Zt68_1) (p18 p19:List Int)
noncomputable def Sp.B_68_50_0_0{R:Type}(r:Option E_68_50_0_0)(k0:Zt68_0->Zt68_3->Zt68_6->Int->Int->Int->Int->Int->List Int->Int->(Int×Unit)->Zt68_7->Zt68_6->(Int×Unit)->Zt68_7->Zt68_4->List Int->List Int->Option R)(k1:Zt68_0->Zt68_3->Zt68_6->Int->Int->Int->Int->Int->List Int->Int->(Int×Unit)->Zt68_7->Zt68_6->Zt68_1->List Int->List Int->Option R):Option R:=match r with
 |none=>none
 |some (.e0 p4 p5 p6 p7 p8 p9 p10 p11 p12 p13 p14 p15 p16 p17 p18 p19 p20 p21)=>k0 p4 p5 p6 p7 p8 p9 p10 p11 p12 p13 p14 p15 p16 p17 p18 p19 p20 p21
 |some (.e1 p4 p5 p6 p7 p8 p9 p10 p11 p12 p13 p14 p15 p16 p17 p18 p19)=>k1 p4 p5 p6 p7 p8 p9 p10 p11 p12 p13 p14 p15 p16 p17 p18 p19
noncomputable def Y_68_50_0_0{R:Type}(k:Ex->St->Option R):E_68_50_0_0->Option R
 | .e0 p4 p5 p6 p7 p8 p9 p10 p11 p12 p13 p14 p15 p16 p17 p18 p19 p20 p21=>k (Ex.exit 0) (sx 49 [] [Blk.mem (CV.pure (Ty.pair (Ty.int i64) (Ty.pair (Ty.int i64) (Ty.pair (Ty.int i64) (Ty.pair (Ty.pair (Ty.int i64) (Ty.pair (Ty.int i64) (Ty.pair (Ty.arr 32 (Ty.int u8)) (Ty.pair (Ty.pair (Ty.int i64) (Ty.pair (Ty.slice (Ty.arr 32 (Ty.int u8))) (Ty.pair (Ty.slice (Ty.arr 32 (Ty.int u8))) Ty.unit))) Ty.unit)))) Ty.unit)))) p4),Blk.mem (CV.pure (Ty.pair (Ty.pair (Ty.slice (Ty.int u32)) (Ty.pair (Ty.slice (Ty.int i64)) (Ty.pair (Ty.int i64) Ty.unit))) (Ty.pair (Ty.arr 32 (Ty.int u8)) Ty.unit)) p5),Blk.mem (CV.pure (Ty.pair (Ty.int i64) (Ty.pair (Ty.int u32) Ty.unit)) p6),Blk.mem (CV.pair (CV.int i64 p7) (CV.pair (CV.int i64 p8) (CV.pair (CV.int i64 p9) (CV.pair (CV.pair (CV.int i64 p10) (CV.pair (CV.int i64 p11) (CV.pair (CV.pure (Ty.arr 32 (Ty.int u8)) p12) (CV.pair (CV.pair (CV.int i64 p13) (CV.pair (CV.nil 23 (Ty.arr 32 (Ty.int u8))) (CV.pair (CV.nil 23 (Ty.arr 32 (Ty.int u8))) (CV.pure Ty.unit PUnit.unit)))) (CV.pure Ty.unit PUnit.unit))))) (CV.pure Ty.unit PUnit.unit))))),Blk.mem (CV.pair (CV.pair (CV.nil 37 (Ty.int u32)) (CV.pair (CV.nil 3 (Ty.int i64)) (CV.pure (Ty.pair (Ty.int i64) Ty.unit) p14))) (CV.pure (Ty.pair (Ty.arr 32 (Ty.int u8)) Ty.unit) p15)),Blk.mem (CV.pure (Ty.pair (Ty.int i64) (Ty.pair (Ty.int u32) Ty.unit)) p16),Blk.mem (CV.pair (CV.pair (CV.pair (CV.whole 7) (CV.pair (CV.whole 8) (CV.pure (Ty.pair (Ty.int i64) Ty.unit) p17))) (CV.pure (Ty.pair (Ty.arr 32 (Ty.int u8)) Ty.unit) p18)) (CV.pure (Ty.pair (Ty.pair (Ty.int i64) (Ty.pair (Ty.int u32) Ty.unit)) (Ty.pair (Ty.int i64) Ty.unit)) p19)),Blk.vec 37 (Ty.int u32) p20,Blk.vec 3 (Ty.int i64) p21,Blk.fresh] 10)
 | .e1 p4 p5 p6 p7 p8 p9 p10 p11 p12 p13 p14 p15 p16 p17 p18 p19=>k (Ex.exit 0) (sx 49 [] [Blk.mem (CV.pure (Ty.pair (Ty.int i64) (Ty.pair (Ty.int i64) (Ty.pair (Ty.int i64) (Ty.pair (Ty.pair (Ty.int i64) (Ty.pair (Ty.int i64) (Ty.pair (Ty.arr 32 (Ty.int u8)) (Ty.pair (Ty.pair (Ty.int i64) (Ty.pair (Ty.slice (Ty.arr 32 (Ty.int u8))) (Ty.pair (Ty.slice (Ty.arr 32 (Ty.int u8))) Ty.unit))) Ty.unit)))) Ty.unit)))) p4),Blk.mem (CV.pure (Ty.pair (Ty.pair (Ty.slice (Ty.int u32)) (Ty.pair (Ty.slice (Ty.int i64)) (Ty.pair (Ty.int i64) Ty.unit))) (Ty.pair (Ty.arr 32 (Ty.int u8)) Ty.unit)) p5),Blk.mem (CV.pure (Ty.pair (Ty.int i64) (Ty.pair (Ty.int u32) Ty.unit)) p6),Blk.mem (CV.pair (CV.int i64 p7) (CV.pair (CV.int i64 p8) (CV.pair (CV.int i64 p9) (CV.pair (CV.pair (CV.int i64 p10) (CV.pair (CV.int i64 p11) (CV.pair (CV.pure (Ty.arr 32 (Ty.int u8)) p12) (CV.pair (CV.pair (CV.int i64 p13) (CV.pair (CV.nil 23 (Ty.arr 32 (Ty.int u8))) (CV.pair (CV.nil 23 (Ty.arr 32 (Ty.int u8))) (CV.pure Ty.unit PUnit.unit)))) (CV.pure Ty.unit PUnit.unit))))) (CV.pure Ty.unit PUnit.unit))))),Blk.mem (CV.pair (CV.pair (CV.nil 37 (Ty.int u32)) (CV.pair (CV.nil 3 (Ty.int i64)) (CV.pure (Ty.pair (Ty.int i64) Ty.unit) p14))) (CV.pure (Ty.pair (Ty.arr 32 (Ty.int u8)) Ty.unit) p15)),Blk.mem (CV.pure (Ty.pair (Ty.int i64) (Ty.pair (Ty.int u32) Ty.unit)) p16),Blk.mem (CV.pure (Ty.pair (Ty.pair (Ty.pair (Ty.slice (Ty.int u32)) (Ty.pair (Ty.slice (Ty.int i64)) (Ty.pair (Ty.int i64) Ty.unit))) (Ty.pair (Ty.arr 32 (Ty.int u8)) Ty.unit)) (Ty.pair (Ty.pair (Ty.int i64) (Ty.pair (Ty.int u32) Ty.unit)) (Ty.pair (Ty.int i64) Ty.unit))) p17),Blk.fvec 37 (Ty.int u32) p18,Blk.fvec 3 (Ty.int i64) p19,Blk.fresh] 10)
noncomputable def Sp.S_68_50_0_0{R:Type}(K:Int->List Int->Int->Int->(Int×Int×Int×(Int×Int×List Int×(Int×List (List Int)×List (List Int)×Unit)×Unit)×Unit)->((List Int×List Int×Int×Unit)×List Int×Unit)->(Int×Int×Unit)->Int->Int->Int->Int->Int->List Int->Int->(Int×Unit)->(List Int×Unit)->(Int×Int×Unit)->(Int×Unit)->(List Int×Unit)->((Int×Int×Unit)×Int×Unit)->List Int->List Int->Option R)(KB:Int->List Int->Int->Int->(Int×Int×Int×(Int×Int×List Int×(Int×List (List Int)×List (List Int)×Unit)×Unit)×Unit)->((List Int×List Int×Int×Unit)×List Int×Unit)->(Int×Int×Unit)->Int->Int->Int->Int->Int->List Int->Int->(Int×Unit)->(List Int×Unit)->(Int×Int×Unit)->(((List Int×List Int×Int×Unit)×List Int×Unit)×(Int×Int×Unit)×Int×Unit)->List Int->List Int->Option R)(k:E_68_50_0_0->Option R)(p0:Int)(p1:List Int)(p2 p3:Int)(p4:Int×Int×Int×(Int×Int×List Int×(Int×List (List Int)×List (List Int)×Unit)×Unit)×Unit)(p5:(List Int×List Int×Int×Unit)×List Int×Unit)(p6:Int×Int×Unit)(p7 p8 p9 p10 p11:Int)(p12:List Int)(p13:Int)(p14:Int×Unit)(p15:List Int×Unit)(p16:Int×Int×Unit)(p17:Int×Unit)(p18:List Int×Unit)(p19:(Int×Int×Unit)×Int×Unit)(p20 p21:List Int):Option R:=
 bif decide (p3<p2)then gd (inB p3 (length p1)) (bif p19.2.1==0 then gd (p_93 (p20,p21,p17) (wrap i64 (p0+p3)) (getD p1 (toNat p3) 0) (p19.1)) (KB p0 p1 p2 (wrap i64 (p3+1)) p4 p5 p6 p7 p8 p9 p10 p11 p12 p13 p14 p15 p16 (((v_93 (p20,p21,p17) (wrap i64 (p0+p3)) (getD p1 (toNat p3) 0) (p19.1)).1,p18),(v_93 (p20,p21,p17) (wrap i64 (p0+p3)) (getD p1 (toNat p3) 0) (p19.1)).2.1,(v_93 (p20,p21,p17) (wrap i64 (p0+p3)) (getD p1 (toNat p3) 0) (p19.1)).2.2.1,p19.2.2) p20 p21)else K p0 p1 p2 (wrap i64 (p3+1)) p4 p5 p6 p7 p8 p9 p10 p11 p12 p13 p14 p15 p16 p17 p18 p19 p20 p21)else k (E_68_50_0_0.e0 p4 p5 p6 p7 p8 p9 p10 p11 p12 p13 p14 p15 p16 p17 p18 p19 p20 p21)
noncomputable def C_68_50_0_0:E_68_50_0_1->E_68_50_0_0
 | .e0 p4 p5 p6 p7 p8 p9 p10 p11 p12 p13 p14 p15 p16 p17 p18 p19=> .e1 p4 p5 p6 p7 p8 p9 p10 p11 p12 p13 p14 p15 p16 p17 p18 p19
theorem BC_68_50_0_0(r:Option E_68_50_0_1):B_68_50_0_1 r (fun p4 p5 p6 p7 p8 p9 p10 p11 p12 p13 p14 p15 p16 p17 p18 p19=>some (E_68_50_0_0.e1 p4 p5 p6 p7 p8 p9 p10 p11 p12 p13 p14 p15 p16 p17 p18 p19))=r.bind fun e=>some (C_68_50_0_0 e):=by
 cases r with
 |none=>rfl
 |some e=>cases e<;>rfl
noncomputable def Sp.L_68_50_0_0:Nat->Int->List Int->Int->Int->(Int×Int×Int×(Int×Int×List Int×(Int×List (List Int)×List (List Int)×Unit)×Unit)×Unit)->((List Int×List Int×Int×Unit)×List Int×Unit)->(Int×Int×Unit)->Int->Int->Int->Int->Int->List Int->Int->(Int×Unit)->(List Int×Unit)->(Int×Int×Unit)->(Int×Unit)->(List Int×Unit)->((Int×Int×Unit)×Int×Unit)->List Int->List Int->Option E_68_50_0_0
 |0,_,_,_,_,_,_,_,_,_,_,_,_,_,_,_,_,_,_,_,_,_,_=>none
 |m+1,p0,p1,p2,p3,p4,p5,p6,p7,p8,p9,p10,p11,p12,p13,p14,p15,p16,p17,p18,p19,p20,p21=>S_68_50_0_0 (L_68_50_0_0 m) (fun q0 q1 q2 q3 q4 q5 q6 q7 q8 q9 q10 q11 q12 q13 q14 q15 q16 q17 q18 q19=>B_68_50_0_1 (L_68_50_0_1 m q0 q1 q2 q3 q4 q5 q6 q7 q8 q9 q10 q11 q12 q13 q14 q15 q16 q17 q18 q19) (fun p4 p5 p6 p7 p8 p9 p10 p11 p12 p13 p14 p15 p16 p17 p18 p19=>some (E_68_50_0_0.e1 p4 p5 p6 p7 p8 p9 p10 p11 p12 p13 p14 p15 p16 p17 p18 p19))) some p0 p1 p2 p3 p4 p5 p6 p7 p8 p9 p10 p11 p12 p13 p14 p15 p16 p17 p18 p19 p20 p21
noncomputable def l_68_50_0_0(m:Nat)(a:T_68_50_0_0.E):Option E_68_50_0_0:=L_68_50_0_0 m a.1 a.2.1 a.2.2.1 a.2.2.2.1 a.2.2.2.2.1 a.2.2.2.2.2.1 a.2.2.2.2.2.2.1 a.2.2.2.2.2.2.2.1 a.2.2.2.2.2.2.2.2.1 a.2.2.2.2.2.2.2.2.2.1 a.2.2.2.2.2.2.2.2.2.2.1 a.2.2.2.2.2.2.2.2.2.2.2.1 a.2.2.2.2.2.2.2.2.2.2.2.2.1 a.2.2.2.2.2.2.2.2.2.2.2.2.2.1 a.2.2.2.2.2.2.2.2.2.2.2.2.2.2.1 a.2.2.2.2.2.2.2.2.2.2.2.2.2.2.2.1 a.2.2.2.2.2.2.2.2.2.2.2.2.2.2.2.2.1 a.2.2.2.2.2.2.2.2.2.2.2.2.2.2.2.2.2.1 a.2.2.2.2.2.2.2.2.2.2.2.2.2.2.2.2.2.2.1 a.2.2.2.2.2.2.2.2.2.2.2.2.2.2.2.2.2.2.2.1 a.2.2.2.2.2.2.2.2.2.2.2.2.2.2.2.2.2.2.2.2.1 a.2.2.2.2.2.2.2.2.2.2.2.2.2.2.2.2.2.2.2.2.2.1
noncomputable def O_68_50_0_0{R:Type}:Orc R:=orL T_68_50_0_0 (l_68_50_0_0 FU) Y_68_50_0_0 O_68_50_0_1
theorem OK_68_50_0_0{R:Type}:okF (R:=R) sm_68 0 (nf 50 0) O_68_50_0_0:=lp2 noO_ok (os:=[]) trivial T_68_50_0_0 T_68_50_0_1 l_68_50_0_0 l_68_50_0_1 (fun R K KB k a=>S_68_50_0_0 (fun p0 p1 p2 p3 p4 p5 p6 p7 p8 p9 p10 p11 p12 p13 p14 p15 p16 p17 p18 p19 p20 p21=>K (p0,p1,p2,p3,p4,p5,p6,p7,p8,p9,p10,p11,p12,p13,p14,p15,p16,p17,p18,p19,p20,p21,())) (fun q0 q1 q2 q3 q4 q5 q6 q7 q8 q9 q10 q11 q12 q13 q14 q15 q16 q17 q18 q19=>KB (q0,q1,q2,q3,q4,q5,q6,q7,q8,q9,q10,q11,q12,q13,q14,q15,q16,q17,q18,q19,())) k a.1 a.2.1 a.2.2.1 a.2.2.2.1 a.2.2.2.2.1 a.2.2.2.2.2.1 a.2.2.2.2.2.2.1 a.2.2.2.2.2.2.2.1 a.2.2.2.2.2.2.2.2.1 a.2.2.2.2.2.2.2.2.2.1 a.2.2.2.2.2.2.2.2.2.2.1 a.2.2.2.2.2.2.2.2.2.2.2.1 a.2.2.2.2.2.2.2.2.2.2.2.2.1 a.2.2.2.2.2.2.2.2.2.2.2.2.2.1 a.2.2.2.2.2.2.2.2.2.2.2.2.2.2.1 a.2.2.2.2.2.2.2.2.2.2.2.2.2.2.2.1 a.2.2.2.2.2.2.2.2.2.2.2.2.2.2.2.2.1 a.2.2.2.2.2.2.2.2.2.2.2.2.2.2.2.2.2.1 a.2.2.2.2.2.2.2.2.2.2.2.2.2.2.2.2.2.2.1 a.2.2.2.2.2.2.2.2.2.2.2.2.2.2.2.2.2.2.2.1 a.2.2.2.2.2.2.2.2.2.2.2.2.2.2.2.2.2.2.2.2.1 a.2.2.2.2.2.2.2.2.2.2.2.2.2.2.2.2.2.2.2.2.2.1) Y_68_50_0_0 Y_68_50_0_1 C_68_50_0_0 (fun _=>rfl) (fun m a=>by
 unfold l_68_50_0_0
 rw[L_68_50_0_0]
 simp only[BC_68_50_0_0]
 rfl) (fun k e=>by cases e<;>rfl) (fun k=>loop_68_50_0_1 k) (fun k K a=>by kernel_rfl) (fun Y K KB a=>by
 unfold S_68_50_0_0
 repeat' first|apply gdN|apply condN|rfl) OK_68_50_0_1
noncomputable def g_68_50{R:Type}:List CV->List Blk->(CV->List Blk->Option R)->Option R:=evFnL sm_68 FU (ovr noO (evFn sm_68 fns FU 0)) (mkT (fB fns 50) [O_68_50_0_0]) (fO fns 50)
theorem g_68_50_ok{R:Type}(args:List CV)(hp:List Blk)(k:CV->List Blk->Option R)(r:R)(h:g_68_50 args hp k=some r):evFn sm_68 fns FU 1 50 args hp k=some r:=runG noO_ok (os:=[O_68_50_0_0]) ⟨OK_68_50_0_0,trivial⟩ h
noncomputable def ov_68_68{R:Type}:Nat->Option (List CV->List Blk->(CV->List Blk->Option R)->Option R):=fun f'=>bif Nat.beq f' 50 then some g_68_50 else none
theorem ov_68_68_ok{R:Type}:OvrOK (R:=R) ov_68_68 (evFn sm_68 fns FU 1):=by
 intro f' g h args hp k r hg
 dsimp only[ov_68_68]at h
 by_cases h50:f'=50
 ·subst h50
  injection h with h
  subst h
  exact evFn_le 0 (g_68_50_ok _ _ _ _ hg)
 rw[nbeq_ne h50,cond_false]at h
 cases h
noncomputable def T_68_0:PS:=⟨99,[(5,.kc (.ptr 0 [])),(10,.kc (.ptr 1 [])),(11,.kc (.ptr 4 [])),(12,.kc (.ptr 7 [])),(15,.kc (.ptr 8 []))],[.mem (.hv Zy68_2),.mem (.pr (.hv (.int .i64)) (.pr (.hv (.int .i64)) (.pr (.hv (.int .i64)) (.pr (.pr (.hv (.int .i64)) (.pr (.hv (.int .i64)) (.pr (.hv (.arr 32 (.int .u8))) (.pr (.pr (.hv (.int .i64)) (.kc (.pair (.whole 2) (.pair (.whole 3) (.pure .unit PUnit.unit))))) (.kc (.pure .unit PUnit.unit)))))) (.kc (.pure .unit PUnit.unit)))))),.vec 23 (.arr 32 (.int .u8)),.vec 23 (.arr 32 (.int .u8)),.mem (.pr (.pr (.kc (.whole 5)) (.pr (.kc (.whole 6)) (.hv (.pair (.int .i64) .unit)))) (.hv Zy68_12)),.vec 37 (.int .u32),.vec 3 (.int .i64),.mem (.hv Zy68_8),.mem (.pr (.pr (.pr (.kc (.whole 9)) (.pr (.kc (.whole 10)) (.hv (.pair (.int .i64) .unit)))) (.hv Zy68_12)) (.hv Zy68_13)),.vec 37 (.int .u32),.vec 3 (.int .i64)],0⟩
inductive Sp.E_68_0 where
 |e0 (p0:Zt68_0) (p15:Int×Unit) (p16:Zt68_7) (p17:Zt68_4) (p18 p19:List Int)
 |e1 (p15:Int×Unit) (p16:Zt68_7) (p17:Zt68_4) (p18 p19:List Int)
 |e2 (p17:Zt68_4)
noncomputable def Sp.B_68_0{R:Type}(r:Option E_68_0)(k0:Zt68_0->(Int×Unit)->Zt68_7->Zt68_4->List Int->List Int->Option R)(k1:(Int×Unit)->Zt68_7->Zt68_4->List Int->List Int->Option R)(k2:Zt68_4->Option R):Option R:=match r with
 |none=>none
 |some (.e0 p0 p15 p16 p17 p18 p19)=>k0 p0 p15 p16 p17 p18 p19
 |some (.e1 p15 p16 p17 p18 p19)=>k1 p15 p16 p17 p18 p19
 |some (.e2 p17)=>k2 p17
noncomputable def Y_68_0{R:Type}(k:Ex->St->Option R):E_68_0->Option R
 | .e0 p0 p15 p16 p17 p18 p19=>k Ex.ret (sx 99 [(10,CV.ptr 0 []),(11,CV.ptr 1 []),(12,CV.ptr 4 []),(13,CV.int i64 0)] [Blk.mem (CV.pure (Ty.pair (Ty.int i64) (Ty.pair (Ty.int i64) (Ty.pair (Ty.int i64) (Ty.pair (Ty.pair (Ty.int i64) (Ty.pair (Ty.int i64) (Ty.pair (Ty.arr 32 (Ty.int u8)) (Ty.pair (Ty.pair (Ty.int i64) (Ty.pair (Ty.slice (Ty.arr 32 (Ty.int u8))) (Ty.pair (Ty.slice (Ty.arr 32 (Ty.int u8))) Ty.unit))) Ty.unit)))) Ty.unit)))) p0),Blk.mem (CV.pair (CV.pair (CV.whole 2) (CV.pair (CV.whole 3) (CV.pure (Ty.pair (Ty.int i64) Ty.unit) p15))) (CV.pure (Ty.pair (Ty.arr 32 (Ty.int u8)) Ty.unit) p16)),Blk.vec 37 (Ty.int u32) p18,Blk.vec 3 (Ty.int i64) p19,Blk.mem (CV.pure (Ty.pair (Ty.int i64) (Ty.pair (Ty.int u32) Ty.unit)) ((p17.1):Zt68_14))])
 | .e1 p15 p16 p17 p18 p19=>k Ex.ret (sx 99 [(10,CV.ptr 0 []),(11,CV.ptr 3 []),(12,CV.ptr 6 []),(13,CV.int i64 18)] [Blk.mem (CV.pair (CV.int i64 0) (CV.pair (CV.int i64 0) (CV.pair (CV.int i64 0) (CV.pair (CV.pair (CV.int i64 0) (CV.pair (CV.int i64 0) (CV.pair (CV.pure (Ty.arr 32 (Ty.int u8)) ((replicate 32 (0:Int)):(List Int))) (CV.pair (CV.pair (CV.int i64 0) (CV.pair (CV.whole 1) (CV.pair (CV.whole 2) (CV.pure Ty.unit PUnit.unit)))) (CV.pure Ty.unit PUnit.unit))))) (CV.pure Ty.unit PUnit.unit))))),Blk.vec 23 (Ty.arr 32 (Ty.int u8)) [],Blk.vec 23 (Ty.arr 32 (Ty.int u8)) [],Blk.mem (CV.pair (CV.pair (CV.whole 4) (CV.pair (CV.whole 5) (CV.pure (Ty.pair (Ty.int i64) Ty.unit) p15))) (CV.pure (Ty.pair (Ty.arr 32 (Ty.int u8)) Ty.unit) p16)),Blk.vec 37 (Ty.int u32) p18,Blk.vec 3 (Ty.int i64) p19,Blk.mem (CV.pure (Ty.pair (Ty.int i64) (Ty.pair (Ty.int u32) Ty.unit)) ((p17.1):Zt68_14))])
 | .e2 p17=>k Ex.ret (sx 99 [(10,CV.ptr 0 []),(11,CV.ptr 1 []),(12,CV.ptr 2 []),(13,CV.int i64 ((v_42 (p17.2.1)).2.2.2.1))] [Blk.mem (CV.pure (Ty.pair (Ty.int i64) (Ty.pair (Ty.int i64) (Ty.pair (Ty.int i64) (Ty.pair (Ty.pair (Ty.int i64) (Ty.pair (Ty.int i64) (Ty.pair (Ty.arr 32 (Ty.int u8)) (Ty.pair (Ty.pair (Ty.int i64) (Ty.pair (Ty.slice (Ty.arr 32 (Ty.int u8))) (Ty.pair (Ty.slice (Ty.arr 32 (Ty.int u8))) Ty.unit))) Ty.unit)))) Ty.unit)))) (((v_42 (p17.2.1)).1):Zt68_10)),Blk.mem (CV.pure (Ty.pair (Ty.pair (Ty.slice (Ty.int u32)) (Ty.pair (Ty.slice (Ty.int i64)) (Ty.pair (Ty.int i64) Ty.unit))) (Ty.pair (Ty.arr 32 (Ty.int u8)) Ty.unit)) (((v_42 (p17.2.1)).2.1):Zt68_9)),Blk.mem (CV.pure (Ty.pair (Ty.int i64) (Ty.pair (Ty.int u32) Ty.unit)) (((v_42 (p17.2.1)).2.2.1):Zt68_14))])
noncomputable def Sp.S_68_0{R:Type}(k:E_68_0->Option R)(p0:Int×Int×Int×(Int×Int×List Int×(Int×List (List Int)×List (List Int)×Unit)×Unit)×Unit)(p1 p2 p3 p4 p5:Int)(p6:List Int)(p7:Int)(p8 p9:List (List Int))(p10:Int×Unit)(p11:List Int×Unit)(p12 p13:List Int)(p14:Int×Int×Unit)(p15:Int×Unit)(p16:List Int×Unit)(p17:(Int×Int×Unit)×Int×Unit)(p18 p19:List Int):Option R:=
 bif p17.2.1==0 then k (E_68_0.e0 p0 p15 p16 p17 p18 p19)else bif p17.2.1==18 then k (E_68_0.e1 p15 p16 p17 p18 p19)else gd (p_42 (p17.2.1)) (k (E_68_0.e2 p17))
noncomputable def Sp.J_68_0(p0:Int×Int×Int×(Int×Int×List Int×(Int×List (List Int)×List (List Int)×Unit)×Unit)×Unit)(p1 p2 p3 p4 p5:Int)(p6:List Int)(p7:Int)(p8 p9:List (List Int))(p10:Int×Unit)(p11:List Int×Unit)(p12 p13:List Int)(p14:Int×Int×Unit)(p15:Int×Unit)(p16:List Int×Unit)(p17:(Int×Int×Unit)×Int×Unit)(p18 p19:List Int):Option E_68_0:=S_68_0 some p0 p1 p2 p3 p4 p5 p6 p7 p8 p9 p10 p11 p12 p13 p14 p15 p16 p17 p18 p19
noncomputable def O_68_0{R:Type}:Orc R:=orL T_68_0 (fun a=>J_68_0 a.1 a.2.1 a.2.2.1 a.2.2.2.1 a.2.2.2.2.1 a.2.2.2.2.2.1 a.2.2.2.2.2.2.1 a.2.2.2.2.2.2.2.1 a.2.2.2.2.2.2.2.2.1 a.2.2.2.2.2.2.2.2.2.1 a.2.2.2.2.2.2.2.2.2.2.1 a.2.2.2.2.2.2.2.2.2.2.2.1 a.2.2.2.2.2.2.2.2.2.2.2.2.1 a.2.2.2.2.2.2.2.2.2.2.2.2.2.1 a.2.2.2.2.2.2.2.2.2.2.2.2.2.2.1 a.2.2.2.2.2.2.2.2.2.2.2.2.2.2.2.1 a.2.2.2.2.2.2.2.2.2.2.2.2.2.2.2.2.1 a.2.2.2.2.2.2.2.2.2.2.2.2.2.2.2.2.2.1 a.2.2.2.2.2.2.2.2.2.2.2.2.2.2.2.2.2.2.1 a.2.2.2.2.2.2.2.2.2.2.2.2.2.2.2.2.2.2.2.1) Y_68_0
theorem OK_68_0{R:Type}:okF (R:=R) sm_68 1 (nf 68 0) O_68_0:=jp ov_68_68_ok (os:=[]) trivial T_68_0 (fun R k a=>S_68_0 k a.1 a.2.1 a.2.2.1 a.2.2.2.1 a.2.2.2.2.1 a.2.2.2.2.2.1 a.2.2.2.2.2.2.1 a.2.2.2.2.2.2.2.1 a.2.2.2.2.2.2.2.2.1 a.2.2.2.2.2.2.2.2.2.1 a.2.2.2.2.2.2.2.2.2.2.1 a.2.2.2.2.2.2.2.2.2.2.2.1 a.2.2.2.2.2.2.2.2.2.2.2.2.1 a.2.2.2.2.2.2.2.2.2.2.2.2.2.1 a.2.2.2.2.2.2.2.2.2.2.2.2.2.2.1 a.2.2.2.2.2.2.2.2.2.2.2.2.2.2.2.1 a.2.2.2.2.2.2.2.2.2.2.2.2.2.2.2.2.1 a.2.2.2.2.2.2.2.2.2.2.2.2.2.2.2.2.2.1 a.2.2.2.2.2.2.2.2.2.2.2.2.2.2.2.2.2.2.1 a.2.2.2.2.2.2.2.2.2.2.2.2.2.2.2.2.2.2.2.1) Y_68_0 (fun k a=>by kernel_rfl) (fun Y a=>by
 unfold S_68_0
 repeat' first|apply gdN|apply condN|rfl) (ok0 _)
noncomputable def T_68_0_1:PS:=⟨99,[(5,.kc (.ptr 0 [])),(10,.kc (.ptr 1 [])),(11,.kc (.ptr 4 [])),(12,.kc (.ptr 7 [])),(15,.kc (.ptr 8 []))],[.mem (.hv Zy68_2),.mem (.pr (.hv (.int .i64)) (.pr (.hv (.int .i64)) (.pr (.hv (.int .i64)) (.pr (.pr (.hv (.int .i64)) (.pr (.hv (.int .i64)) (.pr (.hv (.arr 32 (.int .u8))) (.pr (.pr (.hv (.int .i64)) (.kc (.pair (.whole 2) (.pair (.whole 3) (.pure .unit PUnit.unit))))) (.kc (.pure .unit PUnit.unit)))))) (.kc (.pure .unit PUnit.unit)))))),.vec 23 (.arr 32 (.int .u8)),.vec 23 (.arr 32 (.int .u8)),.mem (.pr (.pr (.kc (.whole 5)) (.pr (.kc (.whole 6)) (.hv (.pair (.int .i64) .unit)))) (.hv Zy68_12)),.vec 37 (.int .u32),.vec 3 (.int .i64),.mem (.hv Zy68_8),.mem (.hv Zy68_5)],0⟩
inductive Sp.E_68_0_1 where
 |e0 (p0:Zt68_0) (p15:Zt68_1)
 |e1 (p15:Zt68_1)
 |e2 (p15:Zt68_1)
noncomputable def Sp.B_68_0_1{R:Type}(r:Option E_68_0_1)(k0:Zt68_0->Zt68_1->Option R)(k1 k2:Zt68_1->Option R):Option R:=match r with
 |none=>none
 |some (.e0 p0 p15)=>k0 p0 p15
 |some (.e1 p15)=>k1 p15
 |some (.e2 p15)=>k2 p15
noncomputable def Y_68_0_1{R:Type}(k:Ex->St->Option R):E_68_0_1->Option R
 | .e0 p0 p15=>k Ex.ret (sx 99 [(10,CV.ptr 0 []),(11,CV.ptr 1 []),(12,CV.ptr 2 []),(13,CV.int i64 0)] [Blk.mem (CV.pure (Ty.pair (Ty.int i64) (Ty.pair (Ty.int i64) (Ty.pair (Ty.int i64) (Ty.pair (Ty.pair (Ty.int i64) (Ty.pair (Ty.int i64) (Ty.pair (Ty.arr 32 (Ty.int u8)) (Ty.pair (Ty.pair (Ty.int i64) (Ty.pair (Ty.slice (Ty.arr 32 (Ty.int u8))) (Ty.pair (Ty.slice (Ty.arr 32 (Ty.int u8))) Ty.unit))) Ty.unit)))) Ty.unit)))) p0),Blk.mem (CV.pure (Ty.pair (Ty.pair (Ty.slice (Ty.int u32)) (Ty.pair (Ty.slice (Ty.int i64)) (Ty.pair (Ty.int i64) Ty.unit))) (Ty.pair (Ty.arr 32 (Ty.int u8)) Ty.unit)) ((p15.1):Zt68_9)),Blk.mem (CV.pure (Ty.pair (Ty.int i64) (Ty.pair (Ty.int u32) Ty.unit)) ((p15.2.1):Zt68_14))])
 | .e1 p15=>k Ex.ret (sx 99 [(10,CV.ptr 0 []),(11,CV.ptr 3 []),(12,CV.ptr 4 []),(13,CV.int i64 18)] [Blk.mem (CV.pair (CV.int i64 0) (CV.pair (CV.int i64 0) (CV.pair (CV.int i64 0) (CV.pair (CV.pair (CV.int i64 0) (CV.pair (CV.int i64 0) (CV.pair (CV.pure (Ty.arr 32 (Ty.int u8)) ((replicate 32 (0:Int)):(List Int))) (CV.pair (CV.pair (CV.int i64 0) (CV.pair (CV.whole 1) (CV.pair (CV.whole 2) (CV.pure Ty.unit PUnit.unit)))) (CV.pure Ty.unit PUnit.unit))))) (CV.pure Ty.unit PUnit.unit))))),Blk.vec 23 (Ty.arr 32 (Ty.int u8)) [],Blk.vec 23 (Ty.arr 32 (Ty.int u8)) [],Blk.mem (CV.pure (Ty.pair (Ty.pair (Ty.slice (Ty.int u32)) (Ty.pair (Ty.slice (Ty.int i64)) (Ty.pair (Ty.int i64) Ty.unit))) (Ty.pair (Ty.arr 32 (Ty.int u8)) Ty.unit)) ((p15.1):Zt68_9)),Blk.mem (CV.pure (Ty.pair (Ty.int i64) (Ty.pair (Ty.int u32) Ty.unit)) ((p15.2.1):Zt68_14))])
 | .e2 p15=>k Ex.ret (sx 99 [(10,CV.ptr 0 []),(11,CV.ptr 1 []),(12,CV.ptr 2 []),(13,CV.int i64 ((v_42 (p15.2.2.1)).2.2.2.1))] [Blk.mem (CV.pure (Ty.pair (Ty.int i64) (Ty.pair (Ty.int i64) (Ty.pair (Ty.int i64) (Ty.pair (Ty.pair (Ty.int i64) (Ty.pair (Ty.int i64) (Ty.pair (Ty.arr 32 (Ty.int u8)) (Ty.pair (Ty.pair (Ty.int i64) (Ty.pair (Ty.slice (Ty.arr 32 (Ty.int u8))) (Ty.pair (Ty.slice (Ty.arr 32 (Ty.int u8))) Ty.unit))) Ty.unit)))) Ty.unit)))) (((v_42 (p15.2.2.1)).1):Zt68_10)),Blk.mem (CV.pure (Ty.pair (Ty.pair (Ty.slice (Ty.int u32)) (Ty.pair (Ty.slice (Ty.int i64)) (Ty.pair (Ty.int i64) Ty.unit))) (Ty.pair (Ty.arr 32 (Ty.int u8)) Ty.unit)) (((v_42 (p15.2.2.1)).2.1):Zt68_9)),Blk.mem (CV.pure (Ty.pair (Ty.int i64) (Ty.pair (Ty.int u32) Ty.unit)) (((v_42 (p15.2.2.1)).2.2.1):Zt68_14))])
noncomputable def Sp.S_68_0_1{R:Type}(k:E_68_0_1->Option R)(p0:Int×Int×Int×(Int×Int×List Int×(Int×List (List Int)×List (List Int)×Unit)×Unit)×Unit)(p1 p2 p3 p4 p5:Int)(p6:List Int)(p7:Int)(p8 p9:List (List Int))(p10:Int×Unit)(p11:List Int×Unit)(p12 p13:List Int)(p14:Int×Int×Unit)(p15:((List Int×List Int×Int×Unit)×List Int×Unit)×(Int×Int×Unit)×Int×Unit):Option R:=
 bif p15.2.2.1==0 then k (E_68_0_1.e0 p0 p15)else bif p15.2.2.1==18 then k (E_68_0_1.e1 p15)else gd (p_42 (p15.2.2.1)) (k (E_68_0_1.e2 p15))
noncomputable def Sp.J_68_0_1(p0:Int×Int×Int×(Int×Int×List Int×(Int×List (List Int)×List (List Int)×Unit)×Unit)×Unit)(p1 p2 p3 p4 p5:Int)(p6:List Int)(p7:Int)(p8 p9:List (List Int))(p10:Int×Unit)(p11:List Int×Unit)(p12 p13:List Int)(p14:Int×Int×Unit)(p15:((List Int×List Int×Int×Unit)×List Int×Unit)×(Int×Int×Unit)×Int×Unit):Option E_68_0_1:=S_68_0_1 some p0 p1 p2 p3 p4 p5 p6 p7 p8 p9 p10 p11 p12 p13 p14 p15
noncomputable def O_68_0_1{R:Type}:Orc R:=orL T_68_0_1 (fun a=>J_68_0_1 a.1 a.2.1 a.2.2.1 a.2.2.2.1 a.2.2.2.2.1 a.2.2.2.2.2.1 a.2.2.2.2.2.2.1 a.2.2.2.2.2.2.2.1 a.2.2.2.2.2.2.2.2.1 a.2.2.2.2.2.2.2.2.2.1 a.2.2.2.2.2.2.2.2.2.2.1 a.2.2.2.2.2.2.2.2.2.2.2.1 a.2.2.2.2.2.2.2.2.2.2.2.2.1 a.2.2.2.2.2.2.2.2.2.2.2.2.2.1 a.2.2.2.2.2.2.2.2.2.2.2.2.2.2.1 a.2.2.2.2.2.2.2.2.2.2.2.2.2.2.2.1) Y_68_0_1 O_68_0
theorem OK_68_0_1{R:Type}:okF (R:=R) sm_68 1 (nf 68 0) O_68_0_1:=jp ov_68_68_ok (os:=[]) trivial T_68_0_1 (fun R k a=>S_68_0_1 k a.1 a.2.1 a.2.2.1 a.2.2.2.1 a.2.2.2.2.1 a.2.2.2.2.2.1 a.2.2.2.2.2.2.1 a.2.2.2.2.2.2.2.1 a.2.2.2.2.2.2.2.2.1 a.2.2.2.2.2.2.2.2.2.1 a.2.2.2.2.2.2.2.2.2.2.1 a.2.2.2.2.2.2.2.2.2.2.2.1 a.2.2.2.2.2.2.2.2.2.2.2.2.1 a.2.2.2.2.2.2.2.2.2.2.2.2.2.1 a.2.2.2.2.2.2.2.2.2.2.2.2.2.2.1 a.2.2.2.2.2.2.2.2.2.2.2.2.2.2.2.1) Y_68_0_1 (fun k a=>by kernel_rfl) (fun Y a=>by
 unfold S_68_0_1
 repeat' first|apply gdN|apply condN|rfl) OK_68_0
noncomputable def F_68(a0:(Int×(Int×(Int×((Int×(Int×((List Int)×((Int×((List (List Int))×((List (List Int))×Unit)))×Unit))))×Unit)))))(a1:(((List Int)×((List Int)×(Int×Unit)))×((List Int)×Unit)))(a2:Int)(a3:(List Int))(a4:(Int×(Int×Unit))):Option ((Int×(Int×(Int×((Int×(Int×((List Int)×((Int×((List (List Int))×((List (List Int))×Unit)))×Unit))))×Unit))))×(((List Int)×((List Int)×(Int×Unit)))×((List Int)×Unit))×(Int×(Int×Unit))×Int×Unit) :=
 gd (p_64 a0 a1 a4) (bif(v_64 a0 a1 a4).1 !=0 then gd (p_42 ((v_64 a0 a1 a4).1)) (some ((v_42 ((v_64 a0 a1 a4).1)).1,(v_42 ((v_64 a0 a1 a4).1)).2.1,(v_42 ((v_64 a0 a1 a4).1)).2.2.1,(v_42 ((v_64 a0 a1 a4).1)).2.2.2.1,PUnit.unit))else bif a0.1 !=1 then gd (p_42 6) (some ((v_42 6).1,(v_42 6).2.1,(v_42 6).2.2.1,(v_42 6).2.2.2.1,PUnit.unit))else bif a2 !=wrap i64 (Int.tdiv (a0.2.2.1) 32)then gd (p_42 15) (some ((v_42 15).1,(v_42 15).2.1,(v_42 15).2.2.1,(v_42 15).2.2.2.1,PUnit.unit))else bif(↑(length a3):Int)!=if wrap i64 (a0.2.2.2.1.2.1-a0.2.2.1)<32 then wrap i64 (a0.2.2.2.1.2.1-a0.2.2.1)else 32 then gd (p_42 3) (some ((v_42 3).1,(v_42 3).2.1,(v_42 3).2.2.1,(v_42 3).2.2.2.1,PUnit.unit))else gd (room (length (a1.1.1)) 4) (gd (room (length (a1.1.2.1)) 8) (gd (p_41 a1) (B_68_50_0_0 (L_68_50_0_0 4611686018427387904 (wrap i64 (wrap i64 (wrap i64 (a0.2.1*(v_41 a1).1)+564)+a0.2.2.1)) a3 (↑(length a3):Int) 0 a0 a1 a4 0 0 0 0 0 (replicate 32 (0:Int)) 0 (0,PUnit.unit) (replicate 32 (0:Int),PUnit.unit) (0,0,PUnit.unit) (a1.1.2.2.1,PUnit.unit) (a1.2) (a4,0,PUnit.unit) (a1.1.1) (a1.1.2.1)) (fun y72 y73 y74 y75 y76 y77 y78 y79 y80 y81 y82 y83 y84 y85 y86 y87 y88 y89=>bif wrap i64 (y72.2.2.1+(↑(length a3):Int))==y72.2.2.2.1.2.1 then B_68_0 (J_68_0 (2,y72.2.1,wrap i64 (y72.2.2.1+(↑(length a3):Int)),y72.2.2.2) y75 y76 y77 y78 y79 y80 y81 [] [] y82 y83 [] [] y84 y85 y86 y87 y88 y89) (fun y90 y91 y92 y93 y94 y95=>some (y90,((y94,y95,y91),y92),y93.1,0,PUnit.unit)) (fun y96 y97 y98 y99 y100=>some ((0,0,0,(0,0,replicate 32 (0:Int),(0,[],[],PUnit.unit),PUnit.unit),PUnit.unit),((y99,y100,y96),y97),y98.1,18,PUnit.unit)) fun y101=>some ((v_42 (y101.2.1)).1,(v_42 (y101.2.1)).2.1,(v_42 (y101.2.1)).2.2.1,(v_42 (y101.2.1)).2.2.2.1,PUnit.unit)else B_68_0 (J_68_0 (y72.1,y72.2.1,wrap i64 (y72.2.2.1+(↑(length a3):Int)),y72.2.2.2) y75 y76 y77 y78 y79 y80 y81 [] [] y82 y83 [] [] y84 y85 y86 y87 y88 y89) (fun y102 y103 y104 y105 y106 y107=>some (y102,((y106,y107,y103),y104),y105.1,0,PUnit.unit)) (fun y108 y109 y110 y111 y112=>some ((0,0,0,(0,0,replicate 32 (0:Int),(0,[],[],PUnit.unit),PUnit.unit),PUnit.unit),((y111,y112,y108),y109),y110.1,18,PUnit.unit)) fun y113=>some ((v_42 (y113.2.1)).1,(v_42 (y113.2.1)).2.1,(v_42 (y113.2.1)).2.2.1,(v_42 (y113.2.1)).2.2.2.1,PUnit.unit)) fun y114 y115 y116 y117 y118 y119 y120 y121 y122 y123 y124 y125 y126 y127 y128 y129=>bif wrap i64 (y114.2.2.1+(↑(length a3):Int))==y114.2.2.2.1.2.1 then B_68_0_1 (J_68_0_1 (2,y114.2.1,wrap i64 (y114.2.2.1+(↑(length a3):Int)),y114.2.2.2) y117 y118 y119 y120 y121 y122 y123 [] [] y124 y125 [] [] y126 y127) (fun y130 y131=>some (y130,y131.1,y131.2.1,0,PUnit.unit)) (fun y132=>some ((0,0,0,(0,0,replicate 32 (0:Int),(0,[],[],PUnit.unit),PUnit.unit),PUnit.unit),y132.1,y132.2.1,18,PUnit.unit)) fun y133=>some ((v_42 (y133.2.2.1)).1,(v_42 (y133.2.2.1)).2.1,(v_42 (y133.2.2.1)).2.2.1,(v_42 (y133.2.2.1)).2.2.2.1,PUnit.unit)else B_68_0_1 (J_68_0_1 (y114.1,y114.2.1,wrap i64 (y114.2.2.1+(↑(length a3):Int)),y114.2.2.2) y117 y118 y119 y120 y121 y122 y123 [] [] y124 y125 [] [] y126 y127) (fun y134 y135=>some (y134,y135.1,y135.2.1,0,PUnit.unit)) (fun y136=>some ((0,0,0,(0,0,replicate 32 (0:Int),(0,[],[],PUnit.unit),PUnit.unit),PUnit.unit),y136.1,y136.2.1,18,PUnit.unit)) fun y137=>some ((v_42 (y137.2.2.1)).1,(v_42 (y137.2.2.1)).2.1,(v_42 (y137.2.2.1)).2.2.1,(v_42 (y137.2.2.1)).2.2.2.1,PUnit.unit)))))
noncomputable def Sp.p_68(a0:(Int×(Int×(Int×((Int×(Int×((List Int)×((Int×((List (List Int))×((List (List Int))×Unit)))×Unit))))×Unit)))))(a1:(((List Int)×((List Int)×(Int×Unit)))×((List Int)×Unit)))(a2:Int)(a3:(List Int))(a4:(Int×(Int×Unit))):Bool:=(F_68 a0 a1 a2 a3 a4).isSome
noncomputable def Sp.v_68(a0:(Int×(Int×(Int×((Int×(Int×((List Int)×((Int×((List (List Int))×((List (List Int))×Unit)))×Unit))))×Unit)))))(a1:(((List Int)×((List Int)×(Int×Unit)))×((List Int)×Unit)))(a2:Int)(a3:(List Int))(a4:(Int×(Int×Unit))):(Int×(Int×(Int×((Int×(Int×((List Int)×((Int×((List (List Int))×((List (List Int))×Unit)))×Unit))))×Unit))))×(((List Int)×((List Int)×(Int×Unit)))×((List Int)×Unit))×(Int×(Int×Unit))×Int×Unit:=(F_68 a0 a1 a2 a3 a4).getD (dfH R_68)
noncomputable def s_68:Summ:=shS A_68 R_68 (fun x=>p_68 x.1 x.2.1 x.2.2.1 x.2.2.2.1 x.2.2.2.2.1) (fun x=>v_68 x.1 x.2.1 x.2.2.1 x.2.2.2.1 x.2.2.2.2.1)
theorem pv_68(a0:(Int×(Int×(Int×((Int×(Int×((List Int)×((Int×((List (List Int))×((List (List Int))×Unit)))×Unit))))×Unit)))))(a1:(((List Int)×((List Int)×(Int×Unit)))×((List Int)×Unit)))(a2:Int)(a3:(List Int))(a4:(Int×(Int×Unit))){y:(Int×(Int×(Int×((Int×(Int×((List Int)×((Int×((List (List Int))×((List (List Int))×Unit)))×Unit))))×Unit))))×(((List Int)×((List Int)×(Int×Unit)))×((List Int)×Unit))×(Int×(Int×Unit))×Int×Unit}(h:F_68 a0 a1 a2 a3 a4=some y):p_68 a0 a1 a2 a3 a4=true/\v_68 a0 a1 a2 a3 a4=y:=pvG h
theorem run_68(x:HDen A_68)(y:HDen R_68)(h:F_68 x.1 x.2.1 x.2.2.1 x.2.2.2.1 x.2.2.2.2.1=some y):rnF sm_68 2 68 A_68 R_68 x y:=runG ov_68_68_ok (os:=[O_68_0_1]) ⟨OK_68_0_1,trivial⟩ (Eq.trans (by kernel_rfl) h)
end
noncomputable section
abbrev Zt23_0:Type:=Int×Int×Int×(Int×Int×List Int×(Int×List (List Int)×List (List Int)×Unit)×Unit)×Unit
abbrev Zt23_1:Type:=(List Int×List Int×Int×Unit)×List Int×Unit
abbrev Zt23_2:Type:=Int×Int×List Int×(Int×List (List Int)×List (List Int)×Unit)×Unit
abbrev Zy23_3:Ty:=(.pair (.int .i64) (.pair (.int .i64) (.pair (.int .i64) (.pair (.pair (.int .i64) (.pair (.int .i64) (.pair (.arr 32 (.int .u8)) (.pair (.pair (.int .i64) (.pair (.slice (.arr 32 (.int .u8))) (.pair (.slice (.arr 32 (.int .u8))) .unit))) .unit)))) .unit))))
abbrev Zt23_4:Type:=Int×Int×Unit
abbrev Zy23_5:Ty:=(.pair (.pair (.slice (.int .u32)) (.pair (.slice (.int .i64)) (.pair (.int .i64) .unit))) (.pair (.arr 32 (.int .u8)) .unit))
abbrev Zy23_6:Ty:=(.pair (.int .i64) (.pair (.int .u32) .unit))
abbrev Zt23_7:Type:=List Int×Unit
abbrev A_23:List Ty:=[(.pair (.pair (.slice (.int .u32)) (.pair (.slice (.int .i64)) (.pair (.int .i64) .unit))) (.pair (.arr 32 (.int .u8)) .unit)),(.pair (.int .i64) (.pair (.int .i64) (.pair (.arr 32 (.int .u8)) (.pair (.pair (.int .i64) (.pair (.slice (.arr 32 (.int .u8))) (.pair (.slice (.arr 32 (.int .u8))) .unit))) .unit)))),(.slice (.int .u32)),(.pair (.int .i64) (.pair (.int .u32) .unit))]
abbrev R_23:List Ty:=[(.pair (.pair (.slice (.int .u32)) (.pair (.slice (.int .i64)) (.pair (.int .i64) .unit))) (.pair (.arr 32 (.int .u8)) .unit)),(.pair (.int .i64) (.pair (.int .u32) .unit)),(.int .i64)]
noncomputable def sm_23:Nat->Option Summ:=smL [(10,s_10),(19,s_19),(29,s_29),(35,s_35),(39,s_39),(40,s_40),(41,s_41),(68,s_68)]
noncomputable def T_23_108_0_0:PS:=⟨31,[(0,.yl 16 23 (.kc (.pair .junk (.pair .junk (.pair .junk (.pair .junk (.pair (.ptr 0 []) (.pair .junk (.pair .junk (.pair (.ptr 2 []) (.pair .junk (.pair .junk (.pair .junk (.pair (.ptr 11 []) (.pair (.ptr 12 []) (.pair (.ptr 13 []) (.pair .junk (.pair .junk (.pair .junk (.pair .junk (.pair .junk (.pair .junk (.pair .junk (.pair .junk (.pair .junk (.pair .junk (.pair .junk (.pair .junk (.pair .junk (.pair .junk (.pair .junk (.pair .junk (.pair .junk (.pair .junk (.pair .junk (.pair .junk (.pair .junk (.pair .junk (.pair .junk (.pair .junk (.pair .junk (.pair .junk (.pair .junk (.pair .junk (.pair .junk (.pair .junk (.pair .junk (.pair .junk (.pair .junk (.pair .junk (.pair .junk (.pair .junk (.pair .junk (.pair .junk (.pair .junk (.pair .junk (.pair .junk (.pair .junk (.pair .junk (.pair .junk (.pair .junk (.pair .junk (.pair .junk (.pair .junk (.pair .junk (.pair .junk (.pair .junk (.pair .junk (.pair .junk (.pair .junk (.pair .junk (.pair .junk (.pair .junk (.pair .junk (.pair .junk (.pair .junk (.pair .junk (.pair .junk (.pair .junk (.pair .junk (.pair .junk (.pair .junk (.pair .junk (.pair .junk (.pure .unit PUnit.unit))))))))))))))))))))))))))))))))))))))))))))))))))))))))))))))))))))))))))))))))))))),(1,.kc (.ptr 14 [])),(2,.kc (.ptr 15 [])),(4,.hv (.int .i64))],[.mem (.hv Zy23_5),.mem (.hv (.pair (.int .i64) (.pair (.int .i64) (.pair (.arr 32 (.int .u8)) (.pair (.pair (.int .i64) (.pair (.slice (.arr 32 (.int .u8))) (.pair (.slice (.arr 32 (.int .u8))) .unit))) .unit))))),.mem (.hv Zy23_6),.mem (.pr (.pr (.kc (.nil 37 (.int .u32))) (.pr (.kc (.nil 3 (.int .i64))) (.hv (.pair (.int .i64) .unit)))) (.hv (.pair (.arr 32 (.int .u8)) .unit))),.mem (.hv Zy23_6),.fresh,.fresh,.fresh,.fresh,.fresh,.fresh,.mem (.hv Zy23_3),.mem (.hv (.int .i64)),.mem (.hv (.int .i64)),.mem (.hv (.slice (.int .u32))),.mem (.hv (.int .i64)),.gh 0],17⟩
inductive Sp.E_23_108_0_0 where
 |e0 (p1:Zt23_1) (p2:Zt23_2) (p3:Zt23_4) (p4:Int×Unit) (p5:Zt23_7) (p6:Zt23_4) (p7:Zt23_0) (p8 p9:Int) (p10:List Int) (p11:Int)
 |e1 (p1:Zt23_1) (p2:Zt23_2) (p3:Zt23_4) (p4:Int×Unit) (p5:Zt23_7) (p6:Zt23_4) (p7:Zt23_0) (p8 p9:Int) (p10:List Int) (p11:Int)
noncomputable def Sp.B_23_108_0_0{R:Type}(r:Option E_23_108_0_0)(k0 k1:Zt23_1->Zt23_2->Zt23_4->(Int×Unit)->Zt23_7->Zt23_4->Zt23_0->Int->Int->List Int->Int->Option R):Option R:=match r with
 |none=>none
 |some (.e0 p1 p2 p3 p4 p5 p6 p7 p8 p9 p10 p11)=>k0 p1 p2 p3 p4 p5 p6 p7 p8 p9 p10 p11
 |some (.e1 p1 p2 p3 p4 p5 p6 p7 p8 p9 p10 p11)=>k1 p1 p2 p3 p4 p5 p6 p7 p8 p9 p10 p11
noncomputable def Y_23_108_0_0{R:Type}(k:Ex->St->Option R):E_23_108_0_0->Option R
 | .e0 p1 p2 p3 p4 p5 p6 p7 p8 p9 p10 p11=>k Ex.ret (sx 31 [] [Blk.mem (CV.pure (Ty.pair (Ty.pair (Ty.slice (Ty.int u32)) (Ty.pair (Ty.slice (Ty.int i64)) (Ty.pair (Ty.int i64) Ty.unit))) (Ty.pair (Ty.arr 32 (Ty.int u8)) Ty.unit)) p1),Blk.mem (CV.pure (Ty.pair (Ty.int i64) (Ty.pair (Ty.int i64) (Ty.pair (Ty.arr 32 (Ty.int u8)) (Ty.pair (Ty.pair (Ty.int i64) (Ty.pair (Ty.slice (Ty.arr 32 (Ty.int u8))) (Ty.pair (Ty.slice (Ty.arr 32 (Ty.int u8))) Ty.unit))) Ty.unit)))) p2),Blk.mem (CV.pure (Ty.pair (Ty.int i64) (Ty.pair (Ty.int u32) Ty.unit)) p3),Blk.mem (CV.pair (CV.pair (CV.nil 37 (Ty.int u32)) (CV.pair (CV.nil 3 (Ty.int i64)) (CV.pure (Ty.pair (Ty.int i64) Ty.unit) p4))) (CV.pure (Ty.pair (Ty.arr 32 (Ty.int u8)) Ty.unit) p5)),Blk.mem (CV.pure (Ty.pair (Ty.int i64) (Ty.pair (Ty.int u32) Ty.unit)) p6),Blk.fresh,Blk.fresh,Blk.fresh,Blk.fresh,Blk.fresh,Blk.fresh,Blk.mem (CV.pure (Ty.pair (Ty.int i64) (Ty.pair (Ty.int i64) (Ty.pair (Ty.int i64) (Ty.pair (Ty.pair (Ty.int i64) (Ty.pair (Ty.int i64) (Ty.pair (Ty.arr 32 (Ty.int u8)) (Ty.pair (Ty.pair (Ty.int i64) (Ty.pair (Ty.slice (Ty.arr 32 (Ty.int u8))) (Ty.pair (Ty.slice (Ty.arr 32 (Ty.int u8))) Ty.unit))) Ty.unit)))) Ty.unit)))) p7),Blk.mem (CV.int i64 p8),Blk.mem (CV.int i64 p9),Blk.mem (CV.pure (Ty.slice (Ty.int u32)) p10),Blk.mem (CV.int i64 p11),Blk.ghost 3] 17)
 | .e1 p1 p2 p3 p4 p5 p6 p7 p8 p9 p10 p11=>k (Ex.exit 0) (sx 31 [] [Blk.mem (CV.pure (Ty.pair (Ty.pair (Ty.slice (Ty.int u32)) (Ty.pair (Ty.slice (Ty.int i64)) (Ty.pair (Ty.int i64) Ty.unit))) (Ty.pair (Ty.arr 32 (Ty.int u8)) Ty.unit)) p1),Blk.mem (CV.pure (Ty.pair (Ty.int i64) (Ty.pair (Ty.int i64) (Ty.pair (Ty.arr 32 (Ty.int u8)) (Ty.pair (Ty.pair (Ty.int i64) (Ty.pair (Ty.slice (Ty.arr 32 (Ty.int u8))) (Ty.pair (Ty.slice (Ty.arr 32 (Ty.int u8))) Ty.unit))) Ty.unit)))) p2),Blk.mem (CV.pure (Ty.pair (Ty.int i64) (Ty.pair (Ty.int u32) Ty.unit)) p3),Blk.mem (CV.pair (CV.pair (CV.nil 37 (Ty.int u32)) (CV.pair (CV.nil 3 (Ty.int i64)) (CV.pure (Ty.pair (Ty.int i64) Ty.unit) p4))) (CV.pure (Ty.pair (Ty.arr 32 (Ty.int u8)) Ty.unit) p5)),Blk.mem (CV.pure (Ty.pair (Ty.int i64) (Ty.pair (Ty.int u32) Ty.unit)) p6),Blk.fresh,Blk.fresh,Blk.fresh,Blk.fresh,Blk.fresh,Blk.fresh,Blk.mem (CV.pure (Ty.pair (Ty.int i64) (Ty.pair (Ty.int i64) (Ty.pair (Ty.int i64) (Ty.pair (Ty.pair (Ty.int i64) (Ty.pair (Ty.int i64) (Ty.pair (Ty.arr 32 (Ty.int u8)) (Ty.pair (Ty.pair (Ty.int i64) (Ty.pair (Ty.slice (Ty.arr 32 (Ty.int u8))) (Ty.pair (Ty.slice (Ty.arr 32 (Ty.int u8))) Ty.unit))) Ty.unit)))) Ty.unit)))) p7),Blk.mem (CV.int i64 p8),Blk.mem (CV.int i64 p9),Blk.mem (CV.pure (Ty.slice (Ty.int u32)) p10),Blk.mem (CV.int i64 p11),Blk.ghost 0] 17)
noncomputable def Sp.S_23_108_0_0{R:Type}(K:Int->((List Int×List Int×Int×Unit)×List Int×Unit)->(Int×Int×List Int×(Int×List (List Int)×List (List Int)×Unit)×Unit)->(Int×Int×Unit)->(Int×Unit)->(List Int×Unit)->(Int×Int×Unit)->(Int×Int×Int×(Int×Int×List Int×(Int×List (List Int)×List (List Int)×Unit)×Unit)×Unit)->Int->Int->List Int->Int->Option R)(k:E_23_108_0_0->Option R)(p0:Int)(p1:(List Int×List Int×Int×Unit)×List Int×Unit)(p2:Int×Int×List Int×(Int×List (List Int)×List (List Int)×Unit)×Unit)(p3:Int×Int×Unit)(p4:Int×Unit)(p5:List Int×Unit)(p6:Int×Int×Unit)(p7:Int×Int×Int×(Int×Int×List Int×(Int×List (List Int)×List (List Int)×Unit)×Unit)×Unit)(p8 p9:Int)(p10:List Int)(p11:Int):Option R:=
 bif decide (p0<(↑(length p10):Int))then gd (sl3 p0 (↑(length p10):Int) (↑(length p10):Int)) (gd (sl3 p0 (wrap i64 (p0+if(↑(length (drop (toNat p0) p10)):Int)<p11 then(↑(length (drop (toNat p0) p10)):Int)else p11)) (wrap i64 (p0+if(↑(length (drop (toNat p0) p10)):Int)<p11 then(↑(length (drop (toNat p0) p10)):Int)else p11))&&decide (wrap i64 (p0+if(↑(length (drop (toNat p0) p10)):Int)<p11 then(↑(length (drop (toNat p0) p10)):Int)else p11)<=(↑(length p10):Int))) (bif p8 !=0 then k (E_23_108_0_0.e0 p1 p2 p3 p4 p5 p6 p7 p8 p9 p10 p11)else gd (p_68 p7 p1 p9 (take (toNat (wrap i64 (p0+if(↑(length (drop (toNat p0) p10)):Int)<p11 then(↑(length (drop (toNat p0) p10)):Int)else p11))-toNat p0) (drop (toNat p0) p10)) p3) (K (wrap i64 (p0+p11)) ((v_68 p7 p1 p9 (take (toNat (wrap i64 (p0+if(↑(length (drop (toNat p0) p10)):Int)<p11 then(↑(length (drop (toNat p0) p10)):Int)else p11))-toNat p0) (drop (toNat p0) p10)) p3).2.1) p2 ((v_68 p7 p1 p9 (take (toNat (wrap i64 (p0+if(↑(length (drop (toNat p0) p10)):Int)<p11 then(↑(length (drop (toNat p0) p10)):Int)else p11))-toNat p0) (drop (toNat p0) p10)) p3).2.2.1) p4 p5 p6 ((v_68 p7 p1 p9 (take (toNat (wrap i64 (p0+if(↑(length (drop (toNat p0) p10)):Int)<p11 then(↑(length (drop (toNat p0) p10)):Int)else p11))-toNat p0) (drop (toNat p0) p10)) p3).1) ((v_68 p7 p1 p9 (take (toNat (wrap i64 (p0+if(↑(length (drop (toNat p0) p10)):Int)<p11 then(↑(length (drop (toNat p0) p10)):Int)else p11))-toNat p0) (drop (toNat p0) p10)) p3).2.2.2.1) (wrap i64 (p9+1)) p10 p11)))else k (E_23_108_0_0.e1 p1 p2 p3 p4 p5 p6 p7 p8 p9 p10 p11)
noncomputable def Sp.L_23_108_0_0:Nat->Int->((List Int×List Int×Int×Unit)×List Int×Unit)->(Int×Int×List Int×(Int×List (List Int)×List (List Int)×Unit)×Unit)->(Int×Int×Unit)->(Int×Unit)->(List Int×Unit)->(Int×Int×Unit)->(Int×Int×Int×(Int×Int×List Int×(Int×List (List Int)×List (List Int)×Unit)×Unit)×Unit)->Int->Int->List Int->Int->Option E_23_108_0_0
 |0,_,_,_,_,_,_,_,_,_,_,_,_=>none
 |m+1,p0,p1,p2,p3,p4,p5,p6,p7,p8,p9,p10,p11=>S_23_108_0_0 (L_23_108_0_0 m) some p0 p1 p2 p3 p4 p5 p6 p7 p8 p9 p10 p11
noncomputable def l_23_108_0_0(m:Nat)(a:T_23_108_0_0.E):Option E_23_108_0_0:=L_23_108_0_0 m a.1 a.2.1 a.2.2.1 a.2.2.2.1 a.2.2.2.2.1 a.2.2.2.2.2.1 a.2.2.2.2.2.2.1 a.2.2.2.2.2.2.2.1 a.2.2.2.2.2.2.2.2.1 a.2.2.2.2.2.2.2.2.2.1 a.2.2.2.2.2.2.2.2.2.2.1 a.2.2.2.2.2.2.2.2.2.2.2.1
noncomputable def O_23_108_0_0{R:Type}:Orc R:=orL T_23_108_0_0 (l_23_108_0_0 FU) Y_23_108_0_0
theorem OK_23_108_0_0{R:Type}:okF (R:=R) sm_23 2 (nf 108 0) O_23_108_0_0:=lp0 T_23_108_0_0 l_23_108_0_0 (fun R K k a=>S_23_108_0_0 (fun p0 p1 p2 p3 p4 p5 p6 p7 p8 p9 p10 p11=>K (p0,p1,p2,p3,p4,p5,p6,p7,p8,p9,p10,p11,())) k a.1 a.2.1 a.2.2.1 a.2.2.2.1 a.2.2.2.2.1 a.2.2.2.2.2.1 a.2.2.2.2.2.2.1 a.2.2.2.2.2.2.2.1 a.2.2.2.2.2.2.2.2.1 a.2.2.2.2.2.2.2.2.2.1 a.2.2.2.2.2.2.2.2.2.2.1 a.2.2.2.2.2.2.2.2.2.2.2.1) Y_23_108_0_0 (fun _ _ _=>by kernel_rfl) (fun _ _ _=>by
 unfold S_23_108_0_0
 repeat' first|apply gdN|apply condN|rfl) (ok0 _)
noncomputable def g_23_108{R:Type}:List CV->List Blk->(CV->List Blk->Option R)->Option R:=evFnL sm_23 FU (ovr noO (evFn sm_23 fns FU 2)) (mkT (fB fns 108) [O_23_108_0_0]) (fO fns 108)
theorem g_23_108_ok{R:Type}(args:List CV)(hp:List Blk)(k:CV->List Blk->Option R)(r:R)(h:g_23_108 args hp k=some r):evFn sm_23 fns FU 3 108 args hp k=some r:=runG noO_ok (os:=[O_23_108_0_0]) ⟨OK_23_108_0_0,trivial⟩ h
noncomputable def ov_23_67{R:Type}:Nat->Option (List CV->List Blk->(CV->List Blk->Option R)->Option R):=fun f'=>bif Nat.beq f' 108 then some g_23_108 else none
theorem ov_23_67_ok{R:Type}:OvrOK (R:=R) ov_23_67 (evFn sm_23 fns FU 3):=by
 intro f' g h args hp k r hg
 dsimp only[ov_23_67]at h
 by_cases h108:f'=108
 ·subst h108
  injection h with h
  subst h
  exact evFn_le 0 (g_23_108_ok _ _ _ _ hg)
 rw[nbeq_ne h108,cond_false]at h
 cases h
noncomputable def g_23_67{R:Type}:List CV->List Blk->(CV->List Blk->Option R)->Option R:=evFnL sm_23 FU (ovr ov_23_67 (evFn sm_23 fns FU 3)) (mkT (fB fns 67) []) (fO fns 67)
theorem g_23_67_ok{R:Type}(args:List CV)(hp:List Blk)(k:CV->List Blk->Option R)(r:R)(h:g_23_67 args hp k=some r):evFn sm_23 fns FU 4 67 args hp k=some r:=runG ov_23_67_ok (os:=[]) trivial h
noncomputable def ov_23_23{R:Type}:Nat->Option (List CV->List Blk->(CV->List Blk->Option R)->Option R):=fun f'=>bif Nat.beq f' 67 then some g_23_67 else bif Nat.beq f' 108 then some g_23_108 else none
theorem ov_23_23_ok{R:Type}:OvrOK (R:=R) ov_23_23 (evFn sm_23 fns FU 4):=by
 intro f' g h args hp k r hg
 dsimp only[ov_23_23]at h
 by_cases h67:f'=67
 ·subst h67
  injection h with h
  subst h
  exact evFn_le 0 (g_23_67_ok _ _ _ _ hg)
 rw[nbeq_ne h67,cond_false]at h
 by_cases h108:f'=108
 ·subst h108
  injection h with h
  subst h
  exact evFn_le 1 (g_23_108_ok _ _ _ _ hg)
 rw[nbeq_ne h108,cond_false]at h
 cases h
noncomputable def T_23_0:PS:=⟨82,[(4,.kc (.ptr 0 [])),(7,.kc (.ptr 1 [])),(8,.kc (.ptr 2 [])),(9,.kc (.ptr 5 [])),(11,.kc (.ptr 6 [])),(12,.kc (.ptr 7 []))],[.mem (.hv Zy23_5),.mem (.hv Zy23_6),.mem (.pr (.pr (.kc (.whole 3)) (.pr (.kc (.whole 4)) (.hv (.pair (.int .i64) .unit)))) (.hv (.pair (.arr 32 (.int .u8)) .unit))),.vec 37 (.int .u32),.vec 3 (.int .i64),.mem (.hv Zy23_6),.mem (.hv Zy23_3),.mem (.hv (.int .i64))],0⟩
inductive Sp.E_23_0 where
 |e0 (p0:Zt23_1) (p1:Zt23_4) (p7:Zt23_0)
 |e1 (p0:Zt23_1) (p1:Zt23_4) (p8:Int)
noncomputable def Sp.B_23_0{R:Type}(r:Option E_23_0)(k0:Zt23_1->Zt23_4->Zt23_0->Option R)(k1:Zt23_1->Zt23_4->Int->Option R):Option R:=match r with
 |none=>none
 |some (.e0 p0 p1 p7)=>k0 p0 p1 p7
 |some (.e1 p0 p1 p8)=>k1 p0 p1 p8
noncomputable def Y_23_0{R:Type}(k:Ex->St->Option R):E_23_0->Option R
 | .e0 p0 p1 p7=>k Ex.ret (sx 82 [(8,CV.ptr 0 []),(9,CV.ptr 1 []),(10,CV.int i64 ((v_19 p7 p0 p1).2.2.2.1))] [Blk.mem (CV.pure (Ty.pair (Ty.pair (Ty.slice (Ty.int u32)) (Ty.pair (Ty.slice (Ty.int i64)) (Ty.pair (Ty.int i64) Ty.unit))) (Ty.pair (Ty.arr 32 (Ty.int u8)) Ty.unit)) (((v_19 p7 p0 p1).2.1):(((List Int)×((List Int)×(Int×Unit)))×((List Int)×Unit)))),Blk.mem (CV.pure (Ty.pair (Ty.int i64) (Ty.pair (Ty.int u32) Ty.unit)) (((v_19 p7 p0 p1).2.2.1):(Int×(Int×Unit))))])
 | .e1 p0 p1 p8=>k Ex.ret (sx 82 [(8,CV.ptr 0 []),(9,CV.ptr 1 []),(10,CV.int i64 p8)] [Blk.mem (CV.pure (Ty.pair (Ty.pair (Ty.slice (Ty.int u32)) (Ty.pair (Ty.slice (Ty.int i64)) (Ty.pair (Ty.int i64) Ty.unit))) (Ty.pair (Ty.arr 32 (Ty.int u8)) Ty.unit)) p0),Blk.mem (CV.pure (Ty.pair (Ty.int i64) (Ty.pair (Ty.int u32) Ty.unit)) p1)])
noncomputable def Sp.S_23_0{R:Type}(k:E_23_0->Option R)(p0:(List Int×List Int×Int×Unit)×List Int×Unit)(p1:Int×Int×Unit)(p2:Int×Unit)(p3:List Int×Unit)(p4 p5:List Int)(p6:Int×Int×Unit)(p7:Int×Int×Int×(Int×Int×List Int×(Int×List (List Int)×List (List Int)×Unit)×Unit)×Unit)(p8:Int):Option R:=
 bif p8==0 then gd (p_19 p7 p0 p1) (k (E_23_0.e0 p0 p1 p7))else k (E_23_0.e1 p0 p1 p8)
noncomputable def Sp.J_23_0(p0:(List Int×List Int×Int×Unit)×List Int×Unit)(p1:Int×Int×Unit)(p2:Int×Unit)(p3:List Int×Unit)(p4 p5:List Int)(p6:Int×Int×Unit)(p7:Int×Int×Int×(Int×Int×List Int×(Int×List (List Int)×List (List Int)×Unit)×Unit)×Unit)(p8:Int):Option E_23_0:=S_23_0 some p0 p1 p2 p3 p4 p5 p6 p7 p8
noncomputable def O_23_0{R:Type}:Orc R:=orL T_23_0 (fun a=>J_23_0 a.1 a.2.1 a.2.2.1 a.2.2.2.1 a.2.2.2.2.1 a.2.2.2.2.2.1 a.2.2.2.2.2.2.1 a.2.2.2.2.2.2.2.1 a.2.2.2.2.2.2.2.2.1) Y_23_0
theorem OK_23_0{R:Type}:okF (R:=R) sm_23 4 (nf 23 0) O_23_0:=jp ov_23_23_ok (os:=[]) trivial T_23_0 (fun R k a=>S_23_0 k a.1 a.2.1 a.2.2.1 a.2.2.2.1 a.2.2.2.2.1 a.2.2.2.2.2.1 a.2.2.2.2.2.2.1 a.2.2.2.2.2.2.2.1 a.2.2.2.2.2.2.2.2.1) Y_23_0 (fun k a=>by kernel_rfl) (fun Y a=>by
 unfold S_23_0
 repeat' first|apply gdN|apply condN|rfl) (ok0 _)
noncomputable def F_23(a0:(((List Int)×((List Int)×(Int×Unit)))×((List Int)×Unit)))(a1:(Int×(Int×((List Int)×((Int×((List (List Int))×((List (List Int))×Unit)))×Unit)))))(a2:(List Int))(a3:(Int×(Int×Unit))):Option ((((List Int)×((List Int)×(Int×Unit)))×((List Int)×Unit))×(Int×(Int×Unit))×Int×Unit) :=
 gd (p_29 a0) (bif !(v_29 a0).1 then some ((([],[],0,PUnit.unit),replicate 32 (0:Int),PUnit.unit),(0,0,PUnit.unit),1,PUnit.unit)else gd (p_39 a3) (bif !(v_39 a3).1 then some ((([],[],0,PUnit.unit),replicate 32 (0:Int),PUnit.unit),(0,0,PUnit.unit),1,PUnit.unit)else gd (p_41 a0) (gd (p_40 a1 (wrap i64 ((v_41 a0).1-564))) (bif !(v_40 a1 (wrap i64 ((v_41 a0).1-564))).1 then some ((([],[],0,PUnit.unit),replicate 32 (0:Int),PUnit.unit),(0,0,PUnit.unit),1,PUnit.unit)else bif(↑(length a2):Int)!=a1.2.1 then some ((([],[],0,PUnit.unit),replicate 32 (0:Int),PUnit.unit),(0,0,PUnit.unit),1,PUnit.unit)else gd p_35 (gd (p_10 (v_35.1) a0 a1 a3) (B_23_108_0_0 (L_23_108_0_0 4611686018427387904 0 ((v_10 (v_35.1) a0 a1 a3).2.1) a1 ((v_10 (v_35.1) a0 a1 a3).2.2.1) (0,PUnit.unit) (replicate 32 (0:Int),PUnit.unit) (0,0,PUnit.unit) ((v_10 (v_35.1) a0 a1 a3).1) ((v_10 (v_35.1) a0 a1 a3).2.2.2.1) 0 a2 32) (fun y34 y35 y36 y37 y38 y39 y40 y41 y42 y43 y44=>B_23_0 (J_23_0 y34 y36 y37 y38 [] [] y39 y40 y41) (fun y45 y46 y47=>some ((v_19 y47 y45 y46).2.1,(v_19 y47 y45 y46).2.2.1,(v_19 y47 y45 y46).2.2.2.1,PUnit.unit)) fun y48 y49 y50=>some (y48,y49,y50,PUnit.unit)) fun y51 y52 y53 y54 y55 y56 y57 y58 y59 y60 y61=>B_23_0 (J_23_0 y51 y53 y54 y55 [] [] y56 y57 y58) (fun y62 y63 y64=>some ((v_19 y64 y62 y63).2.1,(v_19 y64 y62 y63).2.2.1,(v_19 y64 y62 y63).2.2.2.1,PUnit.unit)) fun y65 y66 y67=>some (y65,y66,y67,PUnit.unit)))))))
noncomputable def Sp.p_23(a0:(((List Int)×((List Int)×(Int×Unit)))×((List Int)×Unit)))(a1:(Int×(Int×((List Int)×((Int×((List (List Int))×((List (List Int))×Unit)))×Unit)))))(a2:(List Int))(a3:(Int×(Int×Unit))):Bool:=(F_23 a0 a1 a2 a3).isSome
noncomputable def Sp.v_23(a0:(((List Int)×((List Int)×(Int×Unit)))×((List Int)×Unit)))(a1:(Int×(Int×((List Int)×((Int×((List (List Int))×((List (List Int))×Unit)))×Unit)))))(a2:(List Int))(a3:(Int×(Int×Unit))):(((List Int)×((List Int)×(Int×Unit)))×((List Int)×Unit))×(Int×(Int×Unit))×Int×Unit:=(F_23 a0 a1 a2 a3).getD (dfH R_23)
noncomputable def s_23:Summ:=shS A_23 R_23 (fun x=>p_23 x.1 x.2.1 x.2.2.1 x.2.2.2.1) (fun x=>v_23 x.1 x.2.1 x.2.2.1 x.2.2.2.1)
theorem pv_23(a0:(((List Int)×((List Int)×(Int×Unit)))×((List Int)×Unit)))(a1:(Int×(Int×((List Int)×((Int×((List (List Int))×((List (List Int))×Unit)))×Unit)))))(a2:(List Int))(a3:(Int×(Int×Unit))){y:(((List Int)×((List Int)×(Int×Unit)))×((List Int)×Unit))×(Int×(Int×Unit))×Int×Unit}(h:F_23 a0 a1 a2 a3=some y):p_23 a0 a1 a2 a3=true/\v_23 a0 a1 a2 a3=y:=pvG h
theorem run_23(x:HDen A_23)(y:HDen R_23)(h:F_23 x.1 x.2.1 x.2.2.1 x.2.2.2.1=some y):rnF sm_23 5 23 A_23 R_23 x y:=runG ov_23_23_ok (os:=[O_23_0]) ⟨OK_23_0,trivial⟩ (Eq.trans (by kernel_rfl) h)
end
noncomputable section
abbrev A_112:List Ty:=[(.arr 32 (.int .u8))]
abbrev R_112:List Ty:=[(.slice (.int .u32))]
noncomputable def sm_112:Nat->Option Summ:=smL []
noncomputable def T_112_0:PS:=⟨38,[(1,.kc (.ptr 0 [])),(3,.kc (.whole 1)),(4,.hv (.int .i64))],[.mem (.hv (.arr 32 (.int .u8))),.vec 37 (.int .u32)],0⟩
inductive Sp.E_112_0 where
 |e0 (p2:List Int)
noncomputable def Sp.B_112_0{R:Type}(r:Option E_112_0)(k0:List Int->Option R):Option R:=match r with
 |none=>none
 |some (.e0 p2)=>k0 p2
noncomputable def Y_112_0{R:Type}(k:Ex->St->Option R):E_112_0->Option R
 | .e0 p2=>k (Ex.exit 0) (sx 38 [(3,CV.whole 0)] [Blk.vec 37 (Ty.int u32) p2])
noncomputable def Sp.S_112_0{R:Type}(K:Int->List Int->List Int->Option R)(k:E_112_0->Option R)(p0:Int)(p1 p2:List Int):Option R:=
 bif decide (p0<32)then gd (inB p0 32) (gd (decide (toNat p0<32)&&true) (gd (inB (wrap i64 (p0+1)) 32) (gd (decide (toNat (wrap i64 (p0+1))<32)&&true) (gd (inB (wrap i64 (p0+2)) 32) (gd (decide (toNat (wrap i64 (p0+2))<32)&&true) (gd (inB (wrap i64 (p0+3)) 32) (gd (decide (toNat (wrap i64 (p0+3))<32)&&true) (gd (room (length p2+1) 4) (K (wrap i64 (p0+4)) p1 (p2++[Sp.orI u32 (Sp.orI u32 (Sp.orI u32 (wrap u32 (wrap u32 (getD p1 (toNat p0) 0)*16777216)) (wrap u32 (wrap u32 (getD p1 (toNat (wrap i64 (p0+1))) 0)*65536))) (wrap u32 (wrap u32 (getD p1 (toNat (wrap i64 (p0+2))) 0)*256))) (wrap u32 (getD p1 (toNat (wrap i64 (p0+3))) 0))]))))))))))else k (E_112_0.e0 p2)
noncomputable def Sp.L_112_0:Nat->Int->List Int->List Int->Option E_112_0
 |0,_,_,_=>none
 |m+1,p0,p1,p2=>S_112_0 (L_112_0 m) some p0 p1 p2
noncomputable def l_112_0(m:Nat)(a:T_112_0.E):Option E_112_0:=L_112_0 m a.1 a.2.1 a.2.2.1
noncomputable def O_112_0{R:Type}:Orc R:=orL T_112_0 (l_112_0 FU) Y_112_0
theorem OK_112_0{R:Type}:okF (R:=R) sm_112 0 (nf 112 0) O_112_0:=lp0 T_112_0 l_112_0 (fun R K k a=>S_112_0 (fun p0 p1 p2=>K (p0,p1,p2,())) k a.1 a.2.1 a.2.2.1) Y_112_0 (fun _ _ _=>by kernel_rfl) (fun _ _ _=>by
 unfold S_112_0
 repeat' first|apply gdN|apply condN|rfl) (ok0 _)
noncomputable def F_112(a0:(List Int)):Option ((List Int)×Unit) :=
 B_112_0 (L_112_0 4611686018427387904 0 a0 []) fun y1=>some (y1,PUnit.unit)
noncomputable def Sp.p_112(a0:(List Int)):Bool:=(F_112 a0).isSome
noncomputable def Sp.v_112(a0:(List Int)):(List Int)×Unit:=(F_112 a0).getD (dfH R_112)
noncomputable def s_112:Summ:=shS A_112 R_112 (fun x=>p_112 x.1) (fun x=>v_112 x.1)
theorem pv_112(a0:(List Int)){y:(List Int)×Unit}(h:F_112 a0=some y):p_112 a0=true/\v_112 a0=y:=pvG h
theorem run_112(x:HDen A_112)(y:HDen R_112)(h:F_112 x.1=some y):rnF sm_112 1 112 A_112 R_112 x y:=runG noO_ok (os:=[O_112_0]) ⟨OK_112_0,trivial⟩ (Eq.trans (by kernel_rfl) h)
end
noncomputable section
abbrev A_76:List Ty:=[(.pair (.int .i64) (.pair (.slice (.arr 32 (.int .u8))) (.pair (.slice (.arr 32 (.int .u8))) .unit)))]
abbrev R_76:List Ty:=[(.slice (.int .u32))]
noncomputable def sm_76:Nat->Option Summ:=smL [(112,s_112)]
noncomputable def T_76_0:PS:=⟨35,[(1,.kc (.ptr 0 [])),(3,.kc (.whole 1)),(4,.hv (.int .i64))],[.mem (.hv (.pair (.int .i64) (.pair (.slice (.arr 32 (.int .u8))) (.pair (.slice (.arr 32 (.int .u8))) .unit)))),.vec 37 (.int .u32)],0⟩
inductive Sp.E_76_0 where
 |e0 (p1:Int×List (List Int)×List (List Int)×Unit) (p2:List Int)
noncomputable def Sp.B_76_0{R:Type}(r:Option E_76_0)(k0:(Int×List (List Int)×List (List Int)×Unit)->List Int->Option R):Option R:=match r with
 |none=>none
 |some (.e0 p1 p2)=>k0 p1 p2
noncomputable def Y_76_0{R:Type}(k:Ex->St->Option R):E_76_0->Option R
 | .e0 p1 p2=>k (Ex.exit 0) (sx 35 [(1,CV.ptr 0 []),(3,CV.whole 1)] [Blk.mem (CV.pure (Ty.pair (Ty.int i64) (Ty.pair (Ty.slice (Ty.arr 32 (Ty.int u8))) (Ty.pair (Ty.slice (Ty.arr 32 (Ty.int u8))) Ty.unit))) p1),Blk.vec 37 (Ty.int u32) p2])
noncomputable def Sp.S_76_0{R:Type}(K:Int->(Int×List (List Int)×List (List Int)×Unit)->List Int->Option R)(k:E_76_0->Option R)(p0:Int)(p1:Int×List (List Int)×List (List Int)×Unit)(p2:List Int):Option R:=
 bif decide (p0<67)then gd (inB p0 (length (p1.2.1))) (gd (p_112 (getD (p1.2.1) (toNat p0) (Ty.dflt (Ty.arr 32 (Ty.int u8))))) (gd (room (length p2+length ((v_112 (getD (p1.2.1) (toNat p0) (Ty.dflt (Ty.arr 32 (Ty.int u8))))).1)) 4) (K (wrap i64 (p0+1)) p1 (p2++(v_112 (getD (p1.2.1) (toNat p0) (Ty.dflt (Ty.arr 32 (Ty.int u8))))).1))))else k (E_76_0.e0 p1 p2)
noncomputable def Sp.L_76_0:Nat->Int->(Int×List (List Int)×List (List Int)×Unit)->List Int->Option E_76_0
 |0,_,_,_=>none
 |m+1,p0,p1,p2=>S_76_0 (L_76_0 m) some p0 p1 p2
noncomputable def l_76_0(m:Nat)(a:T_76_0.E):Option E_76_0:=L_76_0 m a.1 a.2.1 a.2.2.1
noncomputable def O_76_0{R:Type}:Orc R:=orL T_76_0 (l_76_0 FU) Y_76_0
theorem OK_76_0{R:Type}:okF (R:=R) sm_76 0 (nf 76 0) O_76_0:=lp0 T_76_0 l_76_0 (fun R K k a=>S_76_0 (fun p0 p1 p2=>K (p0,p1,p2,())) k a.1 a.2.1 a.2.2.1) Y_76_0 (fun _ _ _=>by kernel_rfl) (fun _ _ _=>by
 unfold S_76_0
 repeat' first|apply gdN|apply condN|rfl) (ok0 _)
noncomputable def T_76_1:PS:=⟨35,[(1,.kc (.ptr 0 [])),(3,.kc (.whole 1)),(5,.hv (.int .i64))],[.mem (.hv (.pair (.int .i64) (.pair (.slice (.arr 32 (.int .u8))) (.pair (.slice (.arr 32 (.int .u8))) .unit)))),.vec 37 (.int .u32)],0⟩
inductive Sp.E_76_1 where
 |e0 (p2:List Int)
noncomputable def Sp.B_76_1{R:Type}(r:Option E_76_1)(k0:List Int->Option R):Option R:=match r with
 |none=>none
 |some (.e0 p2)=>k0 p2
noncomputable def Y_76_1{R:Type}(k:Ex->St->Option R):E_76_1->Option R
 | .e0 p2=>k (Ex.exit 2) (sx 35 [(3,CV.whole 0)] [Blk.vec 37 (Ty.int u32) p2])
noncomputable def Sp.S_76_1{R:Type}(K:Int->(Int×List (List Int)×List (List Int)×Unit)->List Int->Option R)(k:E_76_1->Option R)(p0:Int)(p1:Int×List (List Int)×List (List Int)×Unit)(p2:List Int):Option R:=
 bif decide (p0<2)then gd (inB p0 (length (p1.2.2.1))) (gd (p_112 (getD (p1.2.2.1) (toNat p0) (Ty.dflt (Ty.arr 32 (Ty.int u8))))) (gd (room (length p2+length ((v_112 (getD (p1.2.2.1) (toNat p0) (Ty.dflt (Ty.arr 32 (Ty.int u8))))).1)) 4) (K (wrap i64 (p0+1)) p1 (p2++(v_112 (getD (p1.2.2.1) (toNat p0) (Ty.dflt (Ty.arr 32 (Ty.int u8))))).1))))else k (E_76_1.e0 p2)
noncomputable def Sp.L_76_1:Nat->Int->(Int×List (List Int)×List (List Int)×Unit)->List Int->Option E_76_1
 |0,_,_,_=>none
 |m+1,p0,p1,p2=>S_76_1 (L_76_1 m) some p0 p1 p2
noncomputable def l_76_1(m:Nat)(a:T_76_1.E):Option E_76_1:=L_76_1 m a.1 a.2.1 a.2.2.1
noncomputable def O_76_1{R:Type}:Orc R:=orL T_76_1 (l_76_1 FU) Y_76_1
theorem OK_76_1{R:Type}:okF (R:=R) sm_76 0 (nf 76 1) O_76_1:=lp0 T_76_1 l_76_1 (fun R K k a=>S_76_1 (fun p0 p1 p2=>K (p0,p1,p2,())) k a.1 a.2.1 a.2.2.1) Y_76_1 (fun _ _ _=>by kernel_rfl) (fun _ _ _=>by
 unfold S_76_1
 repeat' first|apply gdN|apply condN|rfl) (ok0 _)
noncomputable def F_76(a0:(Int×((List (List Int))×((List (List Int))×Unit)))):Option ((List Int)×Unit) :=
 B_76_0 (L_76_0 4611686018427387904 0 a0 [wrap u32 (a0.1)]) fun y3 y4=>B_76_1 (L_76_1 4611686018427387904 0 y3 y4) fun y5=>some (y5,PUnit.unit)
noncomputable def Sp.p_76(a0:(Int×((List (List Int))×((List (List Int))×Unit)))):Bool:=(F_76 a0).isSome
noncomputable def Sp.v_76(a0:(Int×((List (List Int))×((List (List Int))×Unit)))):(List Int)×Unit:=(F_76 a0).getD (dfH R_76)
noncomputable def s_76:Summ:=shS A_76 R_76 (fun x=>p_76 x.1) (fun x=>v_76 x.1)
theorem pv_76(a0:(Int×((List (List Int))×((List (List Int))×Unit)))){y:(List Int)×Unit}(h:F_76 a0=some y):p_76 a0=true/\v_76 a0=y:=pvG h
theorem run_76(x:HDen A_76)(y:HDen R_76)(h:F_76 x.1=some y):rnF sm_76 1 76 A_76 R_76 x y:=runG noO_ok (os:=[O_76_0,O_76_1]) ⟨OK_76_0,OK_76_1,trivial⟩ (Eq.trans (by kernel_rfl) h)
end
noncomputable section
abbrev Zt31_0:Type:=Int×Int×List Int×(Int×List (List Int)×List (List Int)×Unit)×Unit
abbrev Zy31_1:Ty:=(.pair (.int .i64) (.pair (.int .i64) (.pair (.arr 32 (.int .u8)) (.pair (.pair (.int .i64) (.pair (.slice (.arr 32 (.int .u8))) (.pair (.slice (.arr 32 (.int .u8))) .unit))) .unit))))
abbrev A_31:List Ty:=[(.pair (.int .i64) (.pair (.int .i64) (.pair (.arr 32 (.int .u8)) (.pair (.pair (.int .i64) (.pair (.slice (.arr 32 (.int .u8))) (.pair (.slice (.arr 32 (.int .u8))) .unit))) .unit)))),(.slice (.int .u32))]
abbrev R_31:List Ty:=[(.slice (.int .u32))]
noncomputable def sm_31:Nat->Option Summ:=smL [(76,s_76)]
noncomputable def T_31_1:PS:=⟨72,[(1,.hv (.slice (.int .u32))),(2,.kc (.ptr 0 [])),(5,.kc (.whole 1)),(6,.hv (.int .i64)),(7,.hv (.int .u32)),(8,.hv (.int .i64))],[.mem (.hv Zy31_1),.vec 37 (.int .u32)],0⟩
inductive Sp.E_31_1 where
 |e0 (p0:List Int) (p1 p2:Int) (p4:Zt31_0) (p5:List Int)
noncomputable def Sp.B_31_1{R:Type}(r:Option E_31_1)(k0:List Int->Int->Int->Zt31_0->List Int->Option R):Option R:=match r with
 |none=>none
 |some (.e0 p0 p1 p2 p4 p5)=>k0 p0 p1 p2 p4 p5
theorem Bn_31_1{A R:Type}{r:Option E_31_1}{f:A->Option R}{k0:List Int->Int->Int->Zt31_0->List Int->Option A}{l0:List Int->Int->Int->Zt31_0->List Int->Option R}(h0:∀p0 p1 p2 p4 p5,(k0 p0 p1 p2 p4 p5).bind f=l0 p0 p1 p2 p4 p5):(B_31_1 r k0).bind f=B_31_1 r l0:=by
 cases r with
 |none=>rfl
 |some e=>cases e<;>first|apply h0
noncomputable def Y_31_1{R:Type}(k:Ex->St->Option R):E_31_1->Option R
 | .e0 p0 p1 p2 p4 p5=>k (Ex.exit 2) (sx 72 [(1,CV.pure (Ty.slice (Ty.int u32)) p0),(2,CV.ptr 0 []),(5,CV.whole 1),(6,CV.int i64 p1),(7,CV.int u32 p2)] [Blk.mem (CV.pure (Ty.pair (Ty.int i64) (Ty.pair (Ty.int i64) (Ty.pair (Ty.arr 32 (Ty.int u8)) (Ty.pair (Ty.pair (Ty.int i64) (Ty.pair (Ty.slice (Ty.arr 32 (Ty.int u8))) (Ty.pair (Ty.slice (Ty.arr 32 (Ty.int u8))) Ty.unit))) Ty.unit)))) p4),Blk.vec 37 (Ty.int u32) p5])
noncomputable def Sp.S_31_1{R:Type}(K:List Int->Int->Int->Int->(Int×Int×List Int×(Int×List (List Int)×List (List Int)×Unit)×Unit)->List Int->Option R)(k:E_31_1->Option R)(p0:List Int)(p1 p2 p3:Int)(p4:Int×Int×List Int×(Int×List (List Int)×List (List Int)×Unit)×Unit)(p5:List Int):Option R:=
 bif decide (p3<4)then gd (inB (wrap i64 (wrap i64 (4*p1)+p3)) 32) (gd (decide (toNat (wrap i64 (wrap i64 (4*p1)+p3))<32)&&true) (K p0 p1 (Sp.orI u32 (wrap u32 (p2*256)) (wrap u32 (getD (p4.2.2.1) (toNat (wrap i64 (wrap i64 (4*p1)+p3))) 0))) (wrap i64 (p3+1)) p4 p5))else k (E_31_1.e0 p0 p1 p2 p4 p5)
noncomputable def Sp.L_31_1:Nat->List Int->Int->Int->Int->(Int×Int×List Int×(Int×List (List Int)×List (List Int)×Unit)×Unit)->List Int->Option E_31_1
 |0,_,_,_,_,_,_=>none
 |m+1,p0,p1,p2,p3,p4,p5=>S_31_1 (L_31_1 m) some p0 p1 p2 p3 p4 p5
noncomputable def l_31_1(m:Nat)(a:T_31_1.E):Option E_31_1:=L_31_1 m a.1 a.2.1 a.2.2.1 a.2.2.2.1 a.2.2.2.2.1 a.2.2.2.2.2.1
noncomputable def O_31_1{R:Type}:Orc R:=orL T_31_1 (l_31_1 FU) Y_31_1
theorem OK_31_1{R:Type}:okF (R:=R) sm_31 0 (ni (nf 31 0) 0) O_31_1:=lp0 T_31_1 l_31_1 (fun R K k a=>S_31_1 (fun p0 p1 p2 p3 p4 p5=>K (p0,p1,p2,p3,p4,p5,())) k a.1 a.2.1 a.2.2.1 a.2.2.2.1 a.2.2.2.2.1 a.2.2.2.2.2.1) Y_31_1 (fun _ _ _=>by kernel_rfl) (fun _ _ _=>by
 unfold S_31_1
 repeat' first|apply gdN|apply condN|rfl) (ok0 _)
noncomputable def T_31_0:PS:=⟨72,[(1,.hv (.slice (.int .u32))),(2,.kc (.ptr 0 [])),(5,.kc (.whole 1)),(6,.hv (.int .i64))],[.mem (.hv Zy31_1),.vec 37 (.int .u32)],0⟩
inductive Sp.E_31_0 where
 |e0 (p0:List Int) (p2:Zt31_0) (p3:List Int)
noncomputable def Sp.B_31_0{R:Type}(r:Option E_31_0)(k0:List Int->Zt31_0->List Int->Option R):Option R:=match r with
 |none=>none
 |some (.e0 p0 p2 p3)=>k0 p0 p2 p3
noncomputable def Y_31_0{R:Type}(k:Ex->St->Option R):E_31_0->Option R
 | .e0 p0 p2 p3=>k (Ex.exit 0) (sx 72 [(1,CV.pure (Ty.slice (Ty.int u32)) p0),(2,CV.ptr 0 []),(5,CV.whole 1)] [Blk.mem (CV.pure (Ty.pair (Ty.int i64) (Ty.pair (Ty.int i64) (Ty.pair (Ty.arr 32 (Ty.int u8)) (Ty.pair (Ty.pair (Ty.int i64) (Ty.pair (Ty.slice (Ty.arr 32 (Ty.int u8))) (Ty.pair (Ty.slice (Ty.arr 32 (Ty.int u8))) Ty.unit))) Ty.unit)))) p2),Blk.vec 37 (Ty.int u32) p3])
noncomputable def Sp.S_31_0{R:Type}(K:List Int->Int->(Int×Int×List Int×(Int×List (List Int)×List (List Int)×Unit)×Unit)->List Int->Option R)(k:E_31_0->Option R)(p0:List Int)(p1:Int)(p2:Int×Int×List Int×(Int×List (List Int)×List (List Int)×Unit)×Unit)(p3:List Int):Option R:=
 bif decide (p1<8)then B_31_1 (L_31_1 4611686018427387904 p0 p1 0 0 p2 p3) fun y5 y6 y7 y8 y9=>gd (room (length y9+1) 4) (K y5 (wrap i64 (y6+1)) y8 (y9++[y7]))else k (E_31_0.e0 p0 p2 p3)
noncomputable def Sp.L_31_0:Nat->List Int->Int->(Int×Int×List Int×(Int×List (List Int)×List (List Int)×Unit)×Unit)->List Int->Option E_31_0
 |0,_,_,_,_=>none
 |m+1,p0,p1,p2,p3=>S_31_0 (L_31_0 m) some p0 p1 p2 p3
noncomputable def l_31_0(m:Nat)(a:T_31_0.E):Option E_31_0:=L_31_0 m a.1 a.2.1 a.2.2.1 a.2.2.2.1
noncomputable def O_31_0{R:Type}:Orc R:=orL T_31_0 (l_31_0 FU) Y_31_0
theorem OK_31_0{R:Type}:okF (R:=R) sm_31 0 (nf 31 0) O_31_0:=lp noO_ok (os:=[O_31_1]) ⟨OK_31_1,trivial⟩ T_31_0 l_31_0 (fun R K k a=>S_31_0 (fun p0 p1 p2 p3=>K (p0,p1,p2,p3,())) k a.1 a.2.1 a.2.2.1 a.2.2.2.1) Y_31_0 (fun _=>rfl) (fun _ _=>rfl) (fun k K a=>by kernel_rfl) (fun Y K a=>by
 unfold S_31_0
 repeat' first|apply gdN|apply condN|(apply Bn_31_1<;>intros)|rfl) (ok0 _)
noncomputable def T_31_2:PS:=⟨72,[(1,.hv (.slice (.int .u32))),(5,.kc (.whole 0)),(9,.hv (.slice (.int .u32))),(10,.hv (.int .i64))],[.vec 37 (.int .u32)],0⟩
inductive Sp.E_31_2 where
 |e0 (p0 p3:List Int)
noncomputable def Sp.B_31_2{R:Type}(r:Option E_31_2)(k0:List Int->List Int->Option R):Option R:=match r with
 |none=>none
 |some (.e0 p0 p3)=>k0 p0 p3
noncomputable def Y_31_2{R:Type}(k:Ex->St->Option R):E_31_2->Option R
 | .e0 p0 p3=>k (Ex.exit 4) (sx 72 [(1,CV.pure (Ty.slice (Ty.int u32)) p0),(5,CV.whole 0)] [Blk.vec 37 (Ty.int u32) p3])
noncomputable def Sp.S_31_2{R:Type}(K:List Int->List Int->Int->List Int->Option R)(k:E_31_2->Option R)(p0 p1:List Int)(p2:Int)(p3:List Int):Option R:=
 bif decide (p2<(↑(length p1):Int))then gd (inB p2 (length p1)) (gd (room (length p3+1) 4) (K p0 p1 (wrap i64 (p2+1)) (p3++[getD p1 (toNat p2) 0])))else k (E_31_2.e0 p0 p3)
noncomputable def Sp.L_31_2:Nat->List Int->List Int->Int->List Int->Option E_31_2
 |0,_,_,_,_=>none
 |m+1,p0,p1,p2,p3=>S_31_2 (L_31_2 m) some p0 p1 p2 p3
noncomputable def l_31_2(m:Nat)(a:T_31_2.E):Option E_31_2:=L_31_2 m a.1 a.2.1 a.2.2.1 a.2.2.2.1
noncomputable def O_31_2{R:Type}:Orc R:=orL T_31_2 (l_31_2 FU) Y_31_2
theorem OK_31_2{R:Type}:okF (R:=R) sm_31 0 (nf 31 1) O_31_2:=lp0 T_31_2 l_31_2 (fun R K k a=>S_31_2 (fun p0 p1 p2 p3=>K (p0,p1,p2,p3,())) k a.1 a.2.1 a.2.2.1 a.2.2.2.1) Y_31_2 (fun _ _ _=>by kernel_rfl) (fun _ _ _=>by
 unfold S_31_2
 repeat' first|apply gdN|apply condN|rfl) (ok0 _)
noncomputable def T_31_3:PS:=⟨72,[(1,.hv (.slice (.int .u32))),(5,.kc (.whole 0)),(11,.hv (.int .i64))],[.vec 37 (.int .u32)],0⟩
inductive Sp.E_31_3 where
 |e0 (p2:List Int)
noncomputable def Sp.B_31_3{R:Type}(r:Option E_31_3)(k0:List Int->Option R):Option R:=match r with
 |none=>none
 |some (.e0 p2)=>k0 p2
noncomputable def Y_31_3{R:Type}(k:Ex->St->Option R):E_31_3->Option R
 | .e0 p2=>k (Ex.exit 6) (sx 72 [(5,CV.whole 0)] [Blk.vec 37 (Ty.int u32) p2])
noncomputable def Sp.S_31_3{R:Type}(K:List Int->Int->List Int->Option R)(k:E_31_3->Option R)(p0:List Int)(p1:Int)(p2:List Int):Option R:=
 bif decide (p1<(↑(length p0):Int))then gd (inB p1 (length p0)) (gd (room (length p2+1) 4) (K p0 (wrap i64 (p1+1)) (p2++[getD p0 (toNat p1) 0])))else k (E_31_3.e0 p2)
noncomputable def Sp.L_31_3:Nat->List Int->Int->List Int->Option E_31_3
 |0,_,_,_=>none
 |m+1,p0,p1,p2=>S_31_3 (L_31_3 m) some p0 p1 p2
noncomputable def l_31_3(m:Nat)(a:T_31_3.E):Option E_31_3:=L_31_3 m a.1 a.2.1 a.2.2.1
noncomputable def O_31_3{R:Type}:Orc R:=orL T_31_3 (l_31_3 FU) Y_31_3
theorem OK_31_3{R:Type}:okF (R:=R) sm_31 0 (nf 31 2) O_31_3:=lp0 T_31_3 l_31_3 (fun R K k a=>S_31_3 (fun p0 p1 p2=>K (p0,p1,p2,())) k a.1 a.2.1 a.2.2.1) Y_31_3 (fun _ _ _=>by kernel_rfl) (fun _ _ _=>by
 unfold S_31_3
 repeat' first|apply gdN|apply condN|rfl) (ok0 _)
noncomputable def F_31(a0:(Int×(Int×((List Int)×((Int×((List (List Int))×((List (List Int))×Unit)))×Unit)))))(a1:(List Int)):Option ((List Int)×Unit) :=
 B_31_0 (L_31_0 4611686018427387904 a1 0 a0 [wrap u32 (a0.1),wrap u32 (a0.2.1)]) fun y6 y7 y8=>gd (p_76 (y7.2.2.2.1)) (B_31_2 (L_31_2 4611686018427387904 y6 ((v_76 (y7.2.2.2.1)).1) 0 y8) fun y9 y10=>B_31_3 (L_31_3 4611686018427387904 y9 0 y10) fun y11=>some (y11,PUnit.unit))
noncomputable def Sp.p_31(a0:(Int×(Int×((List Int)×((Int×((List (List Int))×((List (List Int))×Unit)))×Unit)))))(a1:(List Int)):Bool:=(F_31 a0 a1).isSome
noncomputable def Sp.v_31(a0:(Int×(Int×((List Int)×((Int×((List (List Int))×((List (List Int))×Unit)))×Unit)))))(a1:(List Int)):(List Int)×Unit:=(F_31 a0 a1).getD (dfH R_31)
noncomputable def s_31:Summ:=shS A_31 R_31 (fun x=>p_31 x.1 x.2.1) (fun x=>v_31 x.1 x.2.1)
theorem pv_31(a0:(Int×(Int×((List Int)×((Int×((List (List Int))×((List (List Int))×Unit)))×Unit)))))(a1:(List Int)){y:(List Int)×Unit}(h:F_31 a0 a1=some y):p_31 a0 a1=true/\v_31 a0 a1=y:=pvG h
theorem run_31(x:HDen A_31)(y:HDen R_31)(h:F_31 x.1 x.2.1=some y):rnF sm_31 1 31 A_31 R_31 x y:=runG noO_ok (os:=[O_31_0,O_31_2,O_31_3]) ⟨OK_31_0,OK_31_2,OK_31_3,trivial⟩ (Eq.trans (by kernel_rfl) h)
end
noncomputable section
abbrev A_101:List Ty:=[(.pair (.int .i64) (.pair (.int .u32) .unit))]
abbrev R_101:List Ty:=[(.int .u32),(.pair (.int .i64) (.pair (.int .u32) .unit)),(.int .i64)]
noncomputable def sm_101:Nat->Option Summ:=smL []
noncomputable def T_101_0:PS:=⟨23,[(1,.kc (.ptr 0 [])),(3,.kc (.ptr 1 [])),(5,.hv (.int .u32)),(6,.hv (.int .i64))],[.mem (.hv (.pair (.int .i64) (.pair (.int .u32) .unit))),.mem (.hv (.pair (.int .i64) (.pair (.int .u32) .unit)))],0⟩
inductive Sp.E_101_0 where
 |e0 (p1:Int) (p2:Int×Int×Unit)
 |e1 (p0 p1:Int) (p2:Int×Int×Unit)
noncomputable def Sp.B_101_0{R:Type}(r:Option E_101_0)(k0:Int->(Int×Int×Unit)->Option R)(k1:Int->Int->(Int×Int×Unit)->Option R):Option R:=match r with
 |none=>none
 |some (.e0 p1 p2)=>k0 p1 p2
 |some (.e1 p0 p1 p2)=>k1 p0 p1 p2
noncomputable def Y_101_0{R:Type}(k:Ex->St->Option R):E_101_0->Option R
 | .e0 p1 p2=>k Ex.ret (sx 23 [(2,CV.int u32 0),(3,CV.ptr 0 []),(4,CV.int i64 p1)] [Blk.mem (CV.pure (Ty.pair (Ty.int i64) (Ty.pair (Ty.int u32) Ty.unit)) ((if wrap i64 (p2.1-1)>0 then wrap i64 (p2.1-1)else 0,p2.2):(Int×(Int×Unit))))])
 | .e1 p0 p1 p2=>k Ex.ret (sx 23 [(2,CV.int u32 p0),(3,CV.ptr 0 []),(4,CV.int i64 p1)] [Blk.mem (CV.pure (Ty.pair (Ty.int i64) (Ty.pair (Ty.int u32) Ty.unit)) ((if wrap i64 (p2.1-1)>0 then wrap i64 (p2.1-1)else 0,p2.2):(Int×(Int×Unit))))])
noncomputable def Sp.S_101_0{R:Type}(k:E_101_0->Option R)(p0 p1:Int)(p2 p3:Int×Int×Unit):Option R:=
 bif decide (p2.1<1)then k (E_101_0.e0 p1 p2)else k (E_101_0.e1 p0 p1 p2)
noncomputable def Sp.J_101_0(p0 p1:Int)(p2 p3:Int×Int×Unit):Option E_101_0:=S_101_0 some p0 p1 p2 p3
noncomputable def O_101_0{R:Type}:Orc R:=orL T_101_0 (fun a=>J_101_0 a.1 a.2.1 a.2.2.1 a.2.2.2.1) Y_101_0
theorem OK_101_0{R:Type}:okF (R:=R) sm_101 0 (nf 101 0) O_101_0:=jp noO_ok (os:=[]) trivial T_101_0 (fun R k a=>S_101_0 k a.1 a.2.1 a.2.2.1 a.2.2.2.1) Y_101_0 (fun k a=>by kernel_rfl) (fun Y a=>by
 unfold S_101_0
 repeat' first|apply gdN|apply condN|rfl) (ok0 _)
noncomputable def F_101(a0:(Int×(Int×Unit))):Option (Int×(Int×(Int×Unit))×Int×Unit) :=
 bif decide (a0.1<2)then B_101_0 (J_101_0 (a0.2.1) 18 a0 (0,0,PUnit.unit)) (fun y12 y13=>some (0,(if wrap i64 (y13.1-1)>0 then wrap i64 (y13.1-1)else 0,y13.2),y12,PUnit.unit)) fun y14 y15 y16=>some (y14,(if wrap i64 (y16.1-1)>0 then wrap i64 (y16.1-1)else 0,y16.2),y15,PUnit.unit)else B_101_0 (J_101_0 4294967295 0 a0 (0,0,PUnit.unit)) (fun y17 y18=>some (0,(if wrap i64 (y18.1-1)>0 then wrap i64 (y18.1-1)else 0,y18.2),y17,PUnit.unit)) fun y19 y20 y21=>some (y19,(if wrap i64 (y21.1-1)>0 then wrap i64 (y21.1-1)else 0,y21.2),y20,PUnit.unit)
noncomputable def Sp.p_101(a0:(Int×(Int×Unit))):Bool:=(F_101 a0).isSome
noncomputable def Sp.v_101(a0:(Int×(Int×Unit))):Int×(Int×(Int×Unit))×Int×Unit:=(F_101 a0).getD (dfH R_101)
noncomputable def s_101:Summ:=shN A_101 R_101 (fun x=>p_101 x.1) (fun x=>v_101 x.1)
theorem pv_101(a0:(Int×(Int×Unit))){y:Int×(Int×(Int×Unit))×Int×Unit}(h:F_101 a0=some y):p_101 a0=true/\v_101 a0=y:=pvG h
theorem run_101(x:HDen A_101)(y:HDen R_101)(h:F_101 x.1=some y):rnF sm_101 1 101 A_101 R_101 x y:=runG noO_ok (os:=[O_101_0]) ⟨OK_101_0,trivial⟩ (Eq.trans (by kernel_rfl) h)
end
noncomputable section
abbrev Zt60_0:Type:=Int×Int×Unit
abbrev Zt60_1:Type:=List Int×List Int×Int×Unit
abbrev Zy60_2:Ty:=(.pair (.int .i64) (.pair (.int .u32) .unit))
abbrev Zy60_3:Ty:=(.pair (.slice (.int .u32)) (.pair (.slice (.int .i64)) (.pair (.int .i64) .unit)))
abbrev A_60:List Ty:=[(.pair (.slice (.int .u32)) (.pair (.slice (.int .i64)) (.pair (.int .i64) .unit))),(.int .i64),(.pair (.int .i64) (.pair (.int .u32) .unit))]
abbrev R_60:List Ty:=[(.pair (.slice (.int .u32)) (.pair (.slice (.int .i64)) (.pair (.int .i64) .unit))),(.pair (.int .i64) (.pair (.int .u32) .unit)),(.int .i64)]
noncomputable def sm_60:Nat->Option Summ:=smL [(13,s_13),(54,s_54),(101,s_101)]
noncomputable def T_60_102_0_0:PS:=⟨44,[(1,.kc (.ptr 5 [])),(2,.kc (.ptr 6 [])),(3,.kc (.ptr 9 [])),(4,.hv (.int .i64))],[.mem (.hv Zy60_3),.mem (.hv Zy60_2),.mem (.pr (.kc (.nil 37 (.int .u32))) (.pr (.kc (.nil 3 (.int .i64))) (.hv (.pair (.int .i64) .unit)))),.mem (.hv Zy60_2),.mem (.hv Zy60_2),.mem (.hv Zy60_3),.mem (.pr (.kc (.whole 7)) (.pr (.kc (.whole 8)) (.hv (.pair (.int .i64) .unit)))),.vec 37 (.int .u32),.vec 3 (.int .i64),.mem (.pr (.kc (.whole 10)) (.pr (.kc (.whole 11)) (.hv (.pair (.int .i64) .unit)))),.vec 37 (.int .u32),.vec 3 (.int .i64)],5⟩
inductive Sp.E_60_102_0_0 where
 |e0 (p1:Zt60_1) (p2:Zt60_0) (p3:Int×Unit) (p4 p5:Zt60_0) (p6:Zt60_1) (p7:Int×Unit) (p8 p9:List Int) (p10:Int×Unit) (p11 p12:List Int)
noncomputable def Sp.B_60_102_0_0{R:Type}(r:Option E_60_102_0_0)(k0:Zt60_1->Zt60_0->(Int×Unit)->Zt60_0->Zt60_0->Zt60_1->(Int×Unit)->List Int->List Int->(Int×Unit)->List Int->List Int->Option R):Option R:=match r with
 |none=>none
 |some (.e0 p1 p2 p3 p4 p5 p6 p7 p8 p9 p10 p11 p12)=>k0 p1 p2 p3 p4 p5 p6 p7 p8 p9 p10 p11 p12
noncomputable def Y_60_102_0_0{R:Type}(k:Ex->St->Option R):E_60_102_0_0->Option R
 | .e0 p1 p2 p3 p4 p5 p6 p7 p8 p9 p10 p11 p12=>k (Ex.exit 0) (sx 44 [(1,CV.ptr 5 []),(2,CV.ptr 6 []),(3,CV.ptr 9 [])] [Blk.mem (CV.pure (Ty.pair (Ty.slice (Ty.int u32)) (Ty.pair (Ty.slice (Ty.int i64)) (Ty.pair (Ty.int i64) Ty.unit))) p1),Blk.mem (CV.pure (Ty.pair (Ty.int i64) (Ty.pair (Ty.int u32) Ty.unit)) p2),Blk.mem (CV.pair (CV.nil 37 (Ty.int u32)) (CV.pair (CV.nil 3 (Ty.int i64)) (CV.pure (Ty.pair (Ty.int i64) Ty.unit) p3))),Blk.mem (CV.pure (Ty.pair (Ty.int i64) (Ty.pair (Ty.int u32) Ty.unit)) p4),Blk.mem (CV.pure (Ty.pair (Ty.int i64) (Ty.pair (Ty.int u32) Ty.unit)) p5),Blk.mem (CV.pure (Ty.pair (Ty.slice (Ty.int u32)) (Ty.pair (Ty.slice (Ty.int i64)) (Ty.pair (Ty.int i64) Ty.unit))) p6),Blk.mem (CV.pair (CV.whole 7) (CV.pair (CV.whole 8) (CV.pure (Ty.pair (Ty.int i64) Ty.unit) p7))),Blk.vec 37 (Ty.int u32) p8,Blk.vec 3 (Ty.int i64) p9,Blk.mem (CV.pair (CV.whole 10) (CV.pair (CV.whole 11) (CV.pure (Ty.pair (Ty.int i64) Ty.unit) p10))),Blk.vec 37 (Ty.int u32) p11,Blk.vec 3 (Ty.int i64) p12] 5)
noncomputable def Sp.S_60_102_0_0{R:Type}(K:Int->(List Int×List Int×Int×Unit)->(Int×Int×Unit)->(Int×Unit)->(Int×Int×Unit)->(Int×Int×Unit)->(List Int×List Int×Int×Unit)->(Int×Unit)->List Int->List Int->(Int×Unit)->List Int->List Int->Option R)(k:E_60_102_0_0->Option R)(p0:Int)(p1:List Int×List Int×Int×Unit)(p2:Int×Int×Unit)(p3:Int×Unit)(p4 p5:Int×Int×Unit)(p6:List Int×List Int×Int×Unit)(p7:Int×Unit)(p8 p9:List Int)(p10:Int×Unit)(p11 p12:List Int):Option R:=
 bif decide (p0<(↑(length (p6.1)):Int))then gd (inB p0 (length (p6.1))) (gd (room (length p11+1) 4) (K (wrap i64 (p0+1)) p1 p2 p3 p4 p5 p6 p7 p8 p9 p10 (p11++[getD (p6.1) (toNat p0) 0]) p12))else k (E_60_102_0_0.e0 p1 p2 p3 p4 p5 p6 p7 p8 p9 p10 p11 p12)
noncomputable def Sp.L_60_102_0_0:Nat->Int->(List Int×List Int×Int×Unit)->(Int×Int×Unit)->(Int×Unit)->(Int×Int×Unit)->(Int×Int×Unit)->(List Int×List Int×Int×Unit)->(Int×Unit)->List Int->List Int->(Int×Unit)->List Int->List Int->Option E_60_102_0_0
 |0,_,_,_,_,_,_,_,_,_,_,_,_,_=>none
 |m+1,p0,p1,p2,p3,p4,p5,p6,p7,p8,p9,p10,p11,p12=>S_60_102_0_0 (L_60_102_0_0 m) some p0 p1 p2 p3 p4 p5 p6 p7 p8 p9 p10 p11 p12
noncomputable def l_60_102_0_0(m:Nat)(a:T_60_102_0_0.E):Option E_60_102_0_0:=L_60_102_0_0 m a.1 a.2.1 a.2.2.1 a.2.2.2.1 a.2.2.2.2.1 a.2.2.2.2.2.1 a.2.2.2.2.2.2.1 a.2.2.2.2.2.2.2.1 a.2.2.2.2.2.2.2.2.1 a.2.2.2.2.2.2.2.2.2.1 a.2.2.2.2.2.2.2.2.2.2.1 a.2.2.2.2.2.2.2.2.2.2.2.1 a.2.2.2.2.2.2.2.2.2.2.2.2.1
noncomputable def O_60_102_0_0{R:Type}:Orc R:=orL T_60_102_0_0 (l_60_102_0_0 FU) Y_60_102_0_0
theorem OK_60_102_0_0{R:Type}:okF (R:=R) sm_60 0 (nf 102 0) O_60_102_0_0:=lp0 T_60_102_0_0 l_60_102_0_0 (fun R K k a=>S_60_102_0_0 (fun p0 p1 p2 p3 p4 p5 p6 p7 p8 p9 p10 p11 p12=>K (p0,p1,p2,p3,p4,p5,p6,p7,p8,p9,p10,p11,p12,())) k a.1 a.2.1 a.2.2.1 a.2.2.2.1 a.2.2.2.2.1 a.2.2.2.2.2.1 a.2.2.2.2.2.2.1 a.2.2.2.2.2.2.2.1 a.2.2.2.2.2.2.2.2.1 a.2.2.2.2.2.2.2.2.2.1 a.2.2.2.2.2.2.2.2.2.2.1 a.2.2.2.2.2.2.2.2.2.2.2.1 a.2.2.2.2.2.2.2.2.2.2.2.2.1) Y_60_102_0_0 (fun _ _ _=>by kernel_rfl) (fun _ _ _=>by
 unfold S_60_102_0_0
 repeat' first|apply gdN|apply condN|rfl) (ok0 _)
noncomputable def T_60_102_1_0:PS:=⟨44,[(1,.kc (.ptr 5 [])),(2,.kc (.ptr 6 [])),(3,.kc (.ptr 9 [])),(5,.hv (.int .i64))],[.mem (.hv Zy60_3),.mem (.hv Zy60_2),.mem (.pr (.kc (.nil 37 (.int .u32))) (.pr (.kc (.nil 3 (.int .i64))) (.hv (.pair (.int .i64) .unit)))),.mem (.hv Zy60_2),.mem (.hv Zy60_2),.mem (.hv Zy60_3),.mem (.pr (.kc (.whole 7)) (.pr (.kc (.whole 8)) (.hv (.pair (.int .i64) .unit)))),.vec 37 (.int .u32),.vec 3 (.int .i64),.mem (.pr (.kc (.whole 10)) (.pr (.kc (.whole 11)) (.hv (.pair (.int .i64) .unit)))),.vec 37 (.int .u32),.vec 3 (.int .i64)],5⟩
inductive Sp.E_60_102_1_0 where
 |e0 (p1:Zt60_1) (p2:Zt60_0) (p3:Int×Unit) (p4 p5:Zt60_0) (p7:Int×Unit) (p8 p9:List Int) (p10:Int×Unit) (p11 p12:List Int)
noncomputable def Sp.B_60_102_1_0{R:Type}(r:Option E_60_102_1_0)(k0:Zt60_1->Zt60_0->(Int×Unit)->Zt60_0->Zt60_0->(Int×Unit)->List Int->List Int->(Int×Unit)->List Int->List Int->Option R):Option R:=match r with
 |none=>none
 |some (.e0 p1 p2 p3 p4 p5 p7 p8 p9 p10 p11 p12)=>k0 p1 p2 p3 p4 p5 p7 p8 p9 p10 p11 p12
noncomputable def Y_60_102_1_0{R:Type}(k:Ex->St->Option R):E_60_102_1_0->Option R
 | .e0 p1 p2 p3 p4 p5 p7 p8 p9 p10 p11 p12=>k (Ex.exit 2) (sx 44 [(2,CV.ptr 5 []),(3,CV.ptr 8 [])] [Blk.mem (CV.pure (Ty.pair (Ty.slice (Ty.int u32)) (Ty.pair (Ty.slice (Ty.int i64)) (Ty.pair (Ty.int i64) Ty.unit))) p1),Blk.mem (CV.pure (Ty.pair (Ty.int i64) (Ty.pair (Ty.int u32) Ty.unit)) p2),Blk.mem (CV.pair (CV.nil 37 (Ty.int u32)) (CV.pair (CV.nil 3 (Ty.int i64)) (CV.pure (Ty.pair (Ty.int i64) Ty.unit) p3))),Blk.mem (CV.pure (Ty.pair (Ty.int i64) (Ty.pair (Ty.int u32) Ty.unit)) p4),Blk.mem (CV.pure (Ty.pair (Ty.int i64) (Ty.pair (Ty.int u32) Ty.unit)) p5),Blk.mem (CV.pair (CV.whole 6) (CV.pair (CV.whole 7) (CV.pure (Ty.pair (Ty.int i64) Ty.unit) p7))),Blk.vec 37 (Ty.int u32) p8,Blk.vec 3 (Ty.int i64) p9,Blk.mem (CV.pair (CV.whole 9) (CV.pair (CV.whole 10) (CV.pure (Ty.pair (Ty.int i64) Ty.unit) p10))),Blk.vec 37 (Ty.int u32) p11,Blk.vec 3 (Ty.int i64) p12] 5)
noncomputable def Sp.S_60_102_1_0{R:Type}(K:Int->(List Int×List Int×Int×Unit)->(Int×Int×Unit)->(Int×Unit)->(Int×Int×Unit)->(Int×Int×Unit)->(List Int×List Int×Int×Unit)->(Int×Unit)->List Int->List Int->(Int×Unit)->List Int->List Int->Option R)(k:E_60_102_1_0->Option R)(p0:Int)(p1:List Int×List Int×Int×Unit)(p2:Int×Int×Unit)(p3:Int×Unit)(p4 p5:Int×Int×Unit)(p6:List Int×List Int×Int×Unit)(p7:Int×Unit)(p8 p9:List Int)(p10:Int×Unit)(p11 p12:List Int):Option R:=
 bif decide (p0<(↑(length (p6.2.1)):Int))then gd (inB p0 (length (p6.2.1))) (gd (room (length p12+1) 8) (K (wrap i64 (p0+1)) p1 p2 p3 p4 p5 p6 p7 p8 p9 p10 p11 (p12++[getD (p6.2.1) (toNat p0) 0])))else k (E_60_102_1_0.e0 p1 p2 p3 p4 p5 p7 p8 p9 p10 p11 p12)
noncomputable def Sp.L_60_102_1_0:Nat->Int->(List Int×List Int×Int×Unit)->(Int×Int×Unit)->(Int×Unit)->(Int×Int×Unit)->(Int×Int×Unit)->(List Int×List Int×Int×Unit)->(Int×Unit)->List Int->List Int->(Int×Unit)->List Int->List Int->Option E_60_102_1_0
 |0,_,_,_,_,_,_,_,_,_,_,_,_,_=>none
 |m+1,p0,p1,p2,p3,p4,p5,p6,p7,p8,p9,p10,p11,p12=>S_60_102_1_0 (L_60_102_1_0 m) some p0 p1 p2 p3 p4 p5 p6 p7 p8 p9 p10 p11 p12
noncomputable def l_60_102_1_0(m:Nat)(a:T_60_102_1_0.E):Option E_60_102_1_0:=L_60_102_1_0 m a.1 a.2.1 a.2.2.1 a.2.2.2.1 a.2.2.2.2.1 a.2.2.2.2.2.1 a.2.2.2.2.2.2.1 a.2.2.2.2.2.2.2.1 a.2.2.2.2.2.2.2.2.1 a.2.2.2.2.2.2.2.2.2.1 a.2.2.2.2.2.2.2.2.2.2.1 a.2.2.2.2.2.2.2.2.2.2.2.1 a.2.2.2.2.2.2.2.2.2.2.2.2.1
noncomputable def O_60_102_1_0{R:Type}:Orc R:=orL T_60_102_1_0 (l_60_102_1_0 FU) Y_60_102_1_0
theorem OK_60_102_1_0{R:Type}:okF (R:=R) sm_60 0 (nf 102 1) O_60_102_1_0:=lp0 T_60_102_1_0 l_60_102_1_0 (fun R K k a=>S_60_102_1_0 (fun p0 p1 p2 p3 p4 p5 p6 p7 p8 p9 p10 p11 p12=>K (p0,p1,p2,p3,p4,p5,p6,p7,p8,p9,p10,p11,p12,())) k a.1 a.2.1 a.2.2.1 a.2.2.2.1 a.2.2.2.2.1 a.2.2.2.2.2.1 a.2.2.2.2.2.2.1 a.2.2.2.2.2.2.2.1 a.2.2.2.2.2.2.2.2.1 a.2.2.2.2.2.2.2.2.2.1 a.2.2.2.2.2.2.2.2.2.2.1 a.2.2.2.2.2.2.2.2.2.2.2.1 a.2.2.2.2.2.2.2.2.2.2.2.2.1) Y_60_102_1_0 (fun _ _ _=>by kernel_rfl) (fun _ _ _=>by
 unfold S_60_102_1_0
 repeat' first|apply gdN|apply condN|rfl) (ok0 _)
noncomputable def g_60_102{R:Type}:List CV->List Blk->(CV->List Blk->Option R)->Option R:=evFnL sm_60 FU (ovr noO (evFn sm_60 fns FU 0)) (mkT (fB fns 102) [O_60_102_0_0,O_60_102_1_0]) (fO fns 102)
theorem g_60_102_ok{R:Type}(args:List CV)(hp:List Blk)(k:CV->List Blk->Option R)(r:R)(h:g_60_102 args hp k=some r):evFn sm_60 fns FU 1 102 args hp k=some r:=runG noO_ok (os:=[O_60_102_0_0,O_60_102_1_0]) ⟨OK_60_102_0_0,OK_60_102_1_0,trivial⟩ h
noncomputable def ov_60_60{R:Type}:Nat->Option (List CV->List Blk->(CV->List Blk->Option R)->Option R):=fun f'=>bif Nat.beq f' 102 then some g_60_102 else none
theorem ov_60_60_ok{R:Type}:OvrOK (R:=R) ov_60_60 (evFn sm_60 fns FU 1):=by
 intro f' g h args hp k r hg
 dsimp only[ov_60_60]at h
 by_cases h102:f'=102
 ·subst h102
  injection h with h
  subst h
  exact evFn_le 0 (g_60_102_ok _ _ _ _ hg)
 rw[nbeq_ne h102,cond_false]at h
 cases h
noncomputable def T_60_0:PS:=⟨87,[(1,.hv (.int .i64)),(6,.kc (.ptr 0 [])),(7,.kc (.ptr 3 [])),(9,.hv (.int .u32)),(10,.kc (.ptr 4 [])),(11,.hv (.int .i64)),(12,.kc (.ptr 5 [])),(13,.hv (.int .i64))],[.mem (.pr (.kc (.whole 1)) (.pr (.kc (.whole 2)) (.hv (.pair (.int .i64) .unit)))),.vec 37 (.int .u32),.vec 3 (.int .i64),.mem (.hv Zy60_2),.mem (.hv Zy60_2),.mem (.pr (.kc (.whole 6)) (.pr (.kc (.whole 7)) (.hv (.pair (.int .i64) .unit)))),.vec 37 (.int .u32),.vec 3 (.int .i64)],0⟩
inductive Sp.E_60_0 where
 |e0 (p2:Int) (p4:Int×Unit) (p5 p6:List Int) (p7 p8:Zt60_0) (p9:Int×Unit) (p10 p11:List Int)
noncomputable def Sp.B_60_0{R:Type}(r:Option E_60_0)(k0:Int->(Int×Unit)->List Int->List Int->Zt60_0->Zt60_0->(Int×Unit)->List Int->List Int->Option R):Option R:=match r with
 |none=>none
 |some (.e0 p2 p4 p5 p6 p7 p8 p9 p10 p11)=>k0 p2 p4 p5 p6 p7 p8 p9 p10 p11
noncomputable def Y_60_0{R:Type}(k:Ex->St->Option R):E_60_0->Option R
 | .e0 p2 p4 p5 p6 p7 p8 p9 p10 p11=>k (Ex.exit 0) (sx 87 [(6,CV.ptr 0 []),(7,CV.ptr 3 []),(10,CV.ptr 4 []),(11,CV.int i64 p2),(12,CV.ptr 5 [])] [Blk.mem (CV.pair (CV.whole 1) (CV.pair (CV.whole 2) (CV.pure (Ty.pair (Ty.int i64) Ty.unit) p4))),Blk.vec 37 (Ty.int u32) p5,Blk.vec 3 (Ty.int i64) p6,Blk.mem (CV.pure (Ty.pair (Ty.int i64) (Ty.pair (Ty.int u32) Ty.unit)) p7),Blk.mem (CV.pure (Ty.pair (Ty.int i64) (Ty.pair (Ty.int u32) Ty.unit)) p8),Blk.mem (CV.pair (CV.whole 6) (CV.pair (CV.whole 7) (CV.pure (Ty.pair (Ty.int i64) Ty.unit) p9))),Blk.vec 37 (Ty.int u32) p10,Blk.vec 3 (Ty.int i64) p11])
noncomputable def Sp.S_60_0{R:Type}(K:Int->Int->Int->Int->(Int×Unit)->List Int->List Int->(Int×Int×Unit)->(Int×Int×Unit)->(Int×Unit)->List Int->List Int->Option R)(k:E_60_0->Option R)(p0 p1 p2 p3:Int)(p4:Int×Unit)(p5 p6:List Int)(p7 p8:Int×Int×Unit)(p9:Int×Unit)(p10 p11:List Int):Option R:=
 bif decide (p3<64)then gd (inB (wrap i64 (wrap i64 (p0*64)+p3)) (length p10)) (gd (decide (toNat (wrap i64 (wrap i64 (p0*64)+p3))<length p10)&&true) (gd (inB (wrap i64 (wrap i64 (p0*64)+p3)) (length p10)) (gd (decide (toNat (wrap i64 (wrap i64 (p0*64)+p3))<length p10)&&true&&true) (K p0 p1 p2 (wrap i64 (p3+1)) p4 p5 p6 p7 p8 p9 (List.set p10 (toNat (wrap i64 (wrap i64 (p0*64)+p3))) (Sp.orI u32 (getD p10 (toNat (wrap i64 (wrap i64 (p0*64)+p3))) 0) p1)) p11))))else k (E_60_0.e0 p2 p4 p5 p6 p7 p8 p9 p10 p11)
noncomputable def Sp.L_60_0:Nat->Int->Int->Int->Int->(Int×Unit)->List Int->List Int->(Int×Int×Unit)->(Int×Int×Unit)->(Int×Unit)->List Int->List Int->Option E_60_0
 |0,_,_,_,_,_,_,_,_,_,_,_,_=>none
 |m+1,p0,p1,p2,p3,p4,p5,p6,p7,p8,p9,p10,p11=>S_60_0 (L_60_0 m) some p0 p1 p2 p3 p4 p5 p6 p7 p8 p9 p10 p11
noncomputable def l_60_0(m:Nat)(a:T_60_0.E):Option E_60_0:=L_60_0 m a.1 a.2.1 a.2.2.1 a.2.2.2.1 a.2.2.2.2.1 a.2.2.2.2.2.1 a.2.2.2.2.2.2.1 a.2.2.2.2.2.2.2.1 a.2.2.2.2.2.2.2.2.1 a.2.2.2.2.2.2.2.2.2.1 a.2.2.2.2.2.2.2.2.2.2.1 a.2.2.2.2.2.2.2.2.2.2.2.1
noncomputable def O_60_0{R:Type}:Orc R:=orL T_60_0 (l_60_0 FU) Y_60_0
theorem OK_60_0{R:Type}:okF (R:=R) sm_60 1 (nf 60 0) O_60_0:=lp ov_60_60_ok (os:=[]) trivial T_60_0 l_60_0 (fun R K k a=>S_60_0 (fun p0 p1 p2 p3 p4 p5 p6 p7 p8 p9 p10 p11=>K (p0,p1,p2,p3,p4,p5,p6,p7,p8,p9,p10,p11,())) k a.1 a.2.1 a.2.2.1 a.2.2.2.1 a.2.2.2.2.1 a.2.2.2.2.2.1 a.2.2.2.2.2.2.1 a.2.2.2.2.2.2.2.1 a.2.2.2.2.2.2.2.2.1 a.2.2.2.2.2.2.2.2.2.1 a.2.2.2.2.2.2.2.2.2.2.1 a.2.2.2.2.2.2.2.2.2.2.2.1) Y_60_0 (fun _=>rfl) (fun _ _=>rfl) (fun k K a=>by kernel_rfl) (fun Y K a=>by
 unfold S_60_0
 repeat' first|apply gdN|apply condN|rfl) (ok0 _)
noncomputable def F_60(a0:((List Int)×((List Int)×(Int×Unit))))(a1:Int)(a2:(Int×(Int×Unit))):Option (((List Int)×((List Int)×(Int×Unit)))×(Int×(Int×Unit))×Int×Unit) :=
 gd (p_54 a0) (bif !(v_54 a0).1 then some (([],[],0,PUnit.unit),(0,0,PUnit.unit),1,PUnit.unit)else gd (p_13 a2) (bif !(v_13 a2).1 then some (([],[],0,PUnit.unit),(0,0,PUnit.unit),1,PUnit.unit)else bif decide (a1<0)then some (([],[],0,PUnit.unit),(0,0,PUnit.unit),2,PUnit.unit)else bif decide (a1>=(↑(length (a0.2.1)):Int))then some (([],[],0,PUnit.unit),(0,0,PUnit.unit),2,PUnit.unit)else gd (inB a1 (length (a0.2.1))) (bif getD (a0.2.1) (toNat a1) 0==a0.2.2.1 then some (([],[],0,PUnit.unit),(0,0,PUnit.unit),19,PUnit.unit)else gd (p_101 a2) (B_60_102_0_0 (L_60_102_0_0 4611686018427387904 0 a0 a2 (0,PUnit.unit) (0,0,PUnit.unit) ((v_101 a2).2.1) a0 (0,PUnit.unit) [] [] (a0.2.2.1,PUnit.unit) [] []) fun y40 y41 y42 y43 y44 y45 y46 y47 y48 y49 y50 y51=>B_60_102_1_0 (L_60_102_1_0 4611686018427387904 0 y40 y41 y42 y43 y44 y45 y46 y47 y48 y49 y50 y51) fun y52 y53 y54 y55 y56 y57 y58 y59 y60 y61 y62=>bif decide (y53.1>0)then gd (inB a1 (length y62)) (gd (decide (toNat a1<length y62)&&true) (gd (inB a1 (length y62)) (gd (decide (toNat a1<length y62)&&true&&true) (B_60_0 (L_60_0 4611686018427387904 a1 ((v_101 a2).1) ((v_101 a2).2.2.1) 0 y54 [] [] y55 y56 y60 y61 (List.set y62 (toNat a1) (wrap i64 (getD y62 (toNat a1) (0:Int)+(1:Int))))) fun y65 y66 y67 y68 y69 y70 y71 y72 y73=>some ((y72,y73,y71),y70,y65,PUnit.unit)))))else some ((y61,y62,y60),y56,(v_101 a2).2.2.1,PUnit.unit)))))
noncomputable def Sp.p_60(a0:((List Int)×((List Int)×(Int×Unit))))(a1:Int)(a2:(Int×(Int×Unit))):Bool:=(F_60 a0 a1 a2).isSome
noncomputable def Sp.v_60(a0:((List Int)×((List Int)×(Int×Unit))))(a1:Int)(a2:(Int×(Int×Unit))):((List Int)×((List Int)×(Int×Unit)))×(Int×(Int×Unit))×Int×Unit:=(F_60 a0 a1 a2).getD (dfH R_60)
noncomputable def s_60:Summ:=shS A_60 R_60 (fun x=>p_60 x.1 x.2.1 x.2.2.1) (fun x=>v_60 x.1 x.2.1 x.2.2.1)
theorem pv_60(a0:((List Int)×((List Int)×(Int×Unit))))(a1:Int)(a2:(Int×(Int×Unit))){y:((List Int)×((List Int)×(Int×Unit)))×(Int×(Int×Unit))×Int×Unit}(h:F_60 a0 a1 a2=some y):p_60 a0 a1 a2=true/\v_60 a0 a1 a2=y:=pvG h
theorem run_60(x:HDen A_60)(y:HDen R_60)(h:F_60 x.1 x.2.1 x.2.2.1=some y):rnF sm_60 2 60 A_60 R_60 x y:=runG ov_60_60_ok (os:=[O_60_0]) ⟨OK_60_0,trivial⟩ (Eq.trans (by kernel_rfl) h)
end
noncomputable section
abbrev Zt103_0:Type:=List Int×List Int×Int×Unit
abbrev Zt103_1:Type:=Int×Int×Unit
abbrev Zy103_2:Ty:=(.pair (.slice (.int .u32)) (.pair (.slice (.int .i64)) (.pair (.int .i64) .unit)))
abbrev Zy103_3:Ty:=(.pair (.int .i64) (.pair (.int .u32) .unit))
abbrev A_103:List Ty:=[(.pair (.slice (.int .u32)) (.pair (.slice (.int .i64)) (.pair (.int .i64) .unit))),(.int .i64),(.int .u32),(.pair (.int .i64) (.pair (.int .u32) .unit))]
abbrev R_103:List Ty:=[(.pair (.slice (.int .u32)) (.pair (.slice (.int .i64)) (.pair (.int .i64) .unit))),(.pair (.int .i64) (.pair (.int .u32) .unit)),(.int .i64)]
noncomputable def sm_103:Nat->Option Summ:=smL [(13,s_13),(54,s_54),(101,s_101)]
noncomputable def T_103_102_0_0:PS:=⟨44,[(1,.kc (.ptr 5 [])),(2,.kc (.ptr 6 [])),(3,.kc (.ptr 9 [])),(4,.hv (.int .i64))],[.mem (.hv Zy103_2),.mem (.hv Zy103_3),.mem (.pr (.kc (.nil 37 (.int .u32))) (.pr (.kc (.nil 3 (.int .i64))) (.hv (.pair (.int .i64) .unit)))),.mem (.hv Zy103_3),.mem (.hv Zy103_3),.mem (.hv Zy103_2),.mem (.pr (.kc (.whole 7)) (.pr (.kc (.whole 8)) (.hv (.pair (.int .i64) .unit)))),.vec 37 (.int .u32),.vec 3 (.int .i64),.mem (.pr (.kc (.whole 10)) (.pr (.kc (.whole 11)) (.hv (.pair (.int .i64) .unit)))),.vec 37 (.int .u32),.vec 3 (.int .i64)],5⟩
inductive Sp.E_103_102_0_0 where
 |e0 (p1:Zt103_0) (p2:Zt103_1) (p3:Int×Unit) (p4 p5:Zt103_1) (p6:Zt103_0) (p7:Int×Unit) (p8 p9:List Int) (p10:Int×Unit) (p11 p12:List Int)
noncomputable def Sp.B_103_102_0_0{R:Type}(r:Option E_103_102_0_0)(k0:Zt103_0->Zt103_1->(Int×Unit)->Zt103_1->Zt103_1->Zt103_0->(Int×Unit)->List Int->List Int->(Int×Unit)->List Int->List Int->Option R):Option R:=match r with
 |none=>none
 |some (.e0 p1 p2 p3 p4 p5 p6 p7 p8 p9 p10 p11 p12)=>k0 p1 p2 p3 p4 p5 p6 p7 p8 p9 p10 p11 p12
noncomputable def Y_103_102_0_0{R:Type}(k:Ex->St->Option R):E_103_102_0_0->Option R
 | .e0 p1 p2 p3 p4 p5 p6 p7 p8 p9 p10 p11 p12=>k (Ex.exit 0) (sx 44 [(1,CV.ptr 5 []),(2,CV.ptr 6 []),(3,CV.ptr 9 [])] [Blk.mem (CV.pure (Ty.pair (Ty.slice (Ty.int u32)) (Ty.pair (Ty.slice (Ty.int i64)) (Ty.pair (Ty.int i64) Ty.unit))) p1),Blk.mem (CV.pure (Ty.pair (Ty.int i64) (Ty.pair (Ty.int u32) Ty.unit)) p2),Blk.mem (CV.pair (CV.nil 37 (Ty.int u32)) (CV.pair (CV.nil 3 (Ty.int i64)) (CV.pure (Ty.pair (Ty.int i64) Ty.unit) p3))),Blk.mem (CV.pure (Ty.pair (Ty.int i64) (Ty.pair (Ty.int u32) Ty.unit)) p4),Blk.mem (CV.pure (Ty.pair (Ty.int i64) (Ty.pair (Ty.int u32) Ty.unit)) p5),Blk.mem (CV.pure (Ty.pair (Ty.slice (Ty.int u32)) (Ty.pair (Ty.slice (Ty.int i64)) (Ty.pair (Ty.int i64) Ty.unit))) p6),Blk.mem (CV.pair (CV.whole 7) (CV.pair (CV.whole 8) (CV.pure (Ty.pair (Ty.int i64) Ty.unit) p7))),Blk.vec 37 (Ty.int u32) p8,Blk.vec 3 (Ty.int i64) p9,Blk.mem (CV.pair (CV.whole 10) (CV.pair (CV.whole 11) (CV.pure (Ty.pair (Ty.int i64) Ty.unit) p10))),Blk.vec 37 (Ty.int u32) p11,Blk.vec 3 (Ty.int i64) p12] 5)
noncomputable def Sp.S_103_102_0_0{R:Type}(K:Int->(List Int×List Int×Int×Unit)->(Int×Int×Unit)->(Int×Unit)->(Int×Int×Unit)->(Int×Int×Unit)->(List Int×List Int×Int×Unit)->(Int×Unit)->List Int->List Int->(Int×Unit)->List Int->List Int->Option R)(k:E_103_102_0_0->Option R)(p0:Int)(p1:List Int×List Int×Int×Unit)(p2:Int×Int×Unit)(p3:Int×Unit)(p4 p5:Int×Int×Unit)(p6:List Int×List Int×Int×Unit)(p7:Int×Unit)(p8 p9:List Int)(p10:Int×Unit)(p11 p12:List Int):Option R:=
 bif decide (p0<(↑(length (p6.1)):Int))then gd (inB p0 (length (p6.1))) (gd (room (length p11+1) 4) (K (wrap i64 (p0+1)) p1 p2 p3 p4 p5 p6 p7 p8 p9 p10 (p11++[getD (p6.1) (toNat p0) 0]) p12))else k (E_103_102_0_0.e0 p1 p2 p3 p4 p5 p6 p7 p8 p9 p10 p11 p12)
noncomputable def Sp.L_103_102_0_0:Nat->Int->(List Int×List Int×Int×Unit)->(Int×Int×Unit)->(Int×Unit)->(Int×Int×Unit)->(Int×Int×Unit)->(List Int×List Int×Int×Unit)->(Int×Unit)->List Int->List Int->(Int×Unit)->List Int->List Int->Option E_103_102_0_0
 |0,_,_,_,_,_,_,_,_,_,_,_,_,_=>none
 |m+1,p0,p1,p2,p3,p4,p5,p6,p7,p8,p9,p10,p11,p12=>S_103_102_0_0 (L_103_102_0_0 m) some p0 p1 p2 p3 p4 p5 p6 p7 p8 p9 p10 p11 p12
noncomputable def l_103_102_0_0(m:Nat)(a:T_103_102_0_0.E):Option E_103_102_0_0:=L_103_102_0_0 m a.1 a.2.1 a.2.2.1 a.2.2.2.1 a.2.2.2.2.1 a.2.2.2.2.2.1 a.2.2.2.2.2.2.1 a.2.2.2.2.2.2.2.1 a.2.2.2.2.2.2.2.2.1 a.2.2.2.2.2.2.2.2.2.1 a.2.2.2.2.2.2.2.2.2.2.1 a.2.2.2.2.2.2.2.2.2.2.2.1 a.2.2.2.2.2.2.2.2.2.2.2.2.1
noncomputable def O_103_102_0_0{R:Type}:Orc R:=orL T_103_102_0_0 (l_103_102_0_0 FU) Y_103_102_0_0
theorem OK_103_102_0_0{R:Type}:okF (R:=R) sm_103 0 (nf 102 0) O_103_102_0_0:=lp0 T_103_102_0_0 l_103_102_0_0 (fun R K k a=>S_103_102_0_0 (fun p0 p1 p2 p3 p4 p5 p6 p7 p8 p9 p10 p11 p12=>K (p0,p1,p2,p3,p4,p5,p6,p7,p8,p9,p10,p11,p12,())) k a.1 a.2.1 a.2.2.1 a.2.2.2.1 a.2.2.2.2.1 a.2.2.2.2.2.1 a.2.2.2.2.2.2.1 a.2.2.2.2.2.2.2.1 a.2.2.2.2.2.2.2.2.1 a.2.2.2.2.2.2.2.2.2.1 a.2.2.2.2.2.2.2.2.2.2.1 a.2.2.2.2.2.2.2.2.2.2.2.1 a.2.2.2.2.2.2.2.2.2.2.2.2.1) Y_103_102_0_0 (fun _ _ _=>by kernel_rfl) (fun _ _ _=>by
 unfold S_103_102_0_0
 repeat' first|apply gdN|apply condN|rfl) (ok0 _)
noncomputable def T_103_102_1_0:PS:=⟨44,[(1,.kc (.ptr 5 [])),(2,.kc (.ptr 6 [])),(3,.kc (.ptr 9 [])),(5,.hv (.int .i64))],[.mem (.hv Zy103_2),.mem (.hv Zy103_3),.mem (.pr (.kc (.nil 37 (.int .u32))) (.pr (.kc (.nil 3 (.int .i64))) (.hv (.pair (.int .i64) .unit)))),.mem (.hv Zy103_3),.mem (.hv Zy103_3),.mem (.hv Zy103_2),.mem (.pr (.kc (.whole 7)) (.pr (.kc (.whole 8)) (.hv (.pair (.int .i64) .unit)))),.vec 37 (.int .u32),.vec 3 (.int .i64),.mem (.pr (.kc (.whole 10)) (.pr (.kc (.whole 11)) (.hv (.pair (.int .i64) .unit)))),.vec 37 (.int .u32),.vec 3 (.int .i64)],5⟩
inductive Sp.E_103_102_1_0 where
 |e0 (p1:Zt103_0) (p2:Zt103_1) (p3:Int×Unit) (p4 p5:Zt103_1) (p7:Int×Unit) (p8 p9:List Int) (p10:Int×Unit) (p11 p12:List Int)
noncomputable def Sp.B_103_102_1_0{R:Type}(r:Option E_103_102_1_0)(k0:Zt103_0->Zt103_1->(Int×Unit)->Zt103_1->Zt103_1->(Int×Unit)->List Int->List Int->(Int×Unit)->List Int->List Int->Option R):Option R:=match r with
 |none=>none
 |some (.e0 p1 p2 p3 p4 p5 p7 p8 p9 p10 p11 p12)=>k0 p1 p2 p3 p4 p5 p7 p8 p9 p10 p11 p12
noncomputable def Y_103_102_1_0{R:Type}(k:Ex->St->Option R):E_103_102_1_0->Option R
 | .e0 p1 p2 p3 p4 p5 p7 p8 p9 p10 p11 p12=>k (Ex.exit 2) (sx 44 [(2,CV.ptr 5 []),(3,CV.ptr 8 [])] [Blk.mem (CV.pure (Ty.pair (Ty.slice (Ty.int u32)) (Ty.pair (Ty.slice (Ty.int i64)) (Ty.pair (Ty.int i64) Ty.unit))) p1),Blk.mem (CV.pure (Ty.pair (Ty.int i64) (Ty.pair (Ty.int u32) Ty.unit)) p2),Blk.mem (CV.pair (CV.nil 37 (Ty.int u32)) (CV.pair (CV.nil 3 (Ty.int i64)) (CV.pure (Ty.pair (Ty.int i64) Ty.unit) p3))),Blk.mem (CV.pure (Ty.pair (Ty.int i64) (Ty.pair (Ty.int u32) Ty.unit)) p4),Blk.mem (CV.pure (Ty.pair (Ty.int i64) (Ty.pair (Ty.int u32) Ty.unit)) p5),Blk.mem (CV.pair (CV.whole 6) (CV.pair (CV.whole 7) (CV.pure (Ty.pair (Ty.int i64) Ty.unit) p7))),Blk.vec 37 (Ty.int u32) p8,Blk.vec 3 (Ty.int i64) p9,Blk.mem (CV.pair (CV.whole 9) (CV.pair (CV.whole 10) (CV.pure (Ty.pair (Ty.int i64) Ty.unit) p10))),Blk.vec 37 (Ty.int u32) p11,Blk.vec 3 (Ty.int i64) p12] 5)
noncomputable def Sp.S_103_102_1_0{R:Type}(K:Int->(List Int×List Int×Int×Unit)->(Int×Int×Unit)->(Int×Unit)->(Int×Int×Unit)->(Int×Int×Unit)->(List Int×List Int×Int×Unit)->(Int×Unit)->List Int->List Int->(Int×Unit)->List Int->List Int->Option R)(k:E_103_102_1_0->Option R)(p0:Int)(p1:List Int×List Int×Int×Unit)(p2:Int×Int×Unit)(p3:Int×Unit)(p4 p5:Int×Int×Unit)(p6:List Int×List Int×Int×Unit)(p7:Int×Unit)(p8 p9:List Int)(p10:Int×Unit)(p11 p12:List Int):Option R:=
 bif decide (p0<(↑(length (p6.2.1)):Int))then gd (inB p0 (length (p6.2.1))) (gd (room (length p12+1) 8) (K (wrap i64 (p0+1)) p1 p2 p3 p4 p5 p6 p7 p8 p9 p10 p11 (p12++[getD (p6.2.1) (toNat p0) 0])))else k (E_103_102_1_0.e0 p1 p2 p3 p4 p5 p7 p8 p9 p10 p11 p12)
noncomputable def Sp.L_103_102_1_0:Nat->Int->(List Int×List Int×Int×Unit)->(Int×Int×Unit)->(Int×Unit)->(Int×Int×Unit)->(Int×Int×Unit)->(List Int×List Int×Int×Unit)->(Int×Unit)->List Int->List Int->(Int×Unit)->List Int->List Int->Option E_103_102_1_0
 |0,_,_,_,_,_,_,_,_,_,_,_,_,_=>none
 |m+1,p0,p1,p2,p3,p4,p5,p6,p7,p8,p9,p10,p11,p12=>S_103_102_1_0 (L_103_102_1_0 m) some p0 p1 p2 p3 p4 p5 p6 p7 p8 p9 p10 p11 p12
noncomputable def l_103_102_1_0(m:Nat)(a:T_103_102_1_0.E):Option E_103_102_1_0:=L_103_102_1_0 m a.1 a.2.1 a.2.2.1 a.2.2.2.1 a.2.2.2.2.1 a.2.2.2.2.2.1 a.2.2.2.2.2.2.1 a.2.2.2.2.2.2.2.1 a.2.2.2.2.2.2.2.2.1 a.2.2.2.2.2.2.2.2.2.1 a.2.2.2.2.2.2.2.2.2.2.1 a.2.2.2.2.2.2.2.2.2.2.2.1 a.2.2.2.2.2.2.2.2.2.2.2.2.1
noncomputable def O_103_102_1_0{R:Type}:Orc R:=orL T_103_102_1_0 (l_103_102_1_0 FU) Y_103_102_1_0
theorem OK_103_102_1_0{R:Type}:okF (R:=R) sm_103 0 (nf 102 1) O_103_102_1_0:=lp0 T_103_102_1_0 l_103_102_1_0 (fun R K k a=>S_103_102_1_0 (fun p0 p1 p2 p3 p4 p5 p6 p7 p8 p9 p10 p11 p12=>K (p0,p1,p2,p3,p4,p5,p6,p7,p8,p9,p10,p11,p12,())) k a.1 a.2.1 a.2.2.1 a.2.2.2.1 a.2.2.2.2.1 a.2.2.2.2.2.1 a.2.2.2.2.2.2.1 a.2.2.2.2.2.2.2.1 a.2.2.2.2.2.2.2.2.1 a.2.2.2.2.2.2.2.2.2.1 a.2.2.2.2.2.2.2.2.2.2.1 a.2.2.2.2.2.2.2.2.2.2.2.1 a.2.2.2.2.2.2.2.2.2.2.2.2.1) Y_103_102_1_0 (fun _ _ _=>by kernel_rfl) (fun _ _ _=>by
 unfold S_103_102_1_0
 repeat' first|apply gdN|apply condN|rfl) (ok0 _)
noncomputable def g_103_102{R:Type}:List CV->List Blk->(CV->List Blk->Option R)->Option R:=evFnL sm_103 FU (ovr noO (evFn sm_103 fns FU 0)) (mkT (fB fns 102) [O_103_102_0_0,O_103_102_1_0]) (fO fns 102)
theorem g_103_102_ok{R:Type}(args:List CV)(hp:List Blk)(k:CV->List Blk->Option R)(r:R)(h:g_103_102 args hp k=some r):evFn sm_103 fns FU 1 102 args hp k=some r:=runG noO_ok (os:=[O_103_102_0_0,O_103_102_1_0]) ⟨OK_103_102_0_0,OK_103_102_1_0,trivial⟩ h
noncomputable def ov_103_103{R:Type}:Nat->Option (List CV->List Blk->(CV->List Blk->Option R)->Option R):=fun f'=>bif Nat.beq f' 102 then some g_103_102 else none
theorem ov_103_103_ok{R:Type}:OvrOK (R:=R) ov_103_103 (evFn sm_103 fns FU 1):=by
 intro f' g h args hp k r hg
 dsimp only[ov_103_103]at h
 by_cases h102:f'=102
 ·subst h102
  injection h with h
  subst h
  exact evFn_le 0 (g_103_102_ok _ _ _ _ hg)
 rw[nbeq_ne h102,cond_false]at h
 cases h
noncomputable def F_103(a0:((List Int)×((List Int)×(Int×Unit))))(a1 a2:Int)(a3:(Int×(Int×Unit))):Option (((List Int)×((List Int)×(Int×Unit)))×(Int×(Int×Unit))×Int×Unit) :=
 gd (p_54 a0) (bif !(v_54 a0).1 then some (([],[],0,PUnit.unit),(0,0,PUnit.unit),1,PUnit.unit)else gd (p_13 a3) (bif !(v_13 a3).1 then some (([],[],0,PUnit.unit),(0,0,PUnit.unit),1,PUnit.unit)else bif decide (a1<0)then some (([],[],0,PUnit.unit),(0,0,PUnit.unit),2,PUnit.unit)else bif decide (a1>=(↑(length (a0.1)):Int))then some (([],[],0,PUnit.unit),(0,0,PUnit.unit),2,PUnit.unit)else gd (p_101 a3) (B_103_102_0_0 (L_103_102_0_0 4611686018427387904 0 a0 a3 (0,PUnit.unit) (0,0,PUnit.unit) ((v_101 a3).2.1) a0 (0,PUnit.unit) [] [] (a0.2.2.1,PUnit.unit) [] []) fun y31 y32 y33 y34 y35 y36 y37 y38 y39 y40 y41 y42=>B_103_102_1_0 (L_103_102_1_0 4611686018427387904 0 y31 y32 y33 y34 y35 y36 y37 y38 y39 y40 y41 y42) fun y43 y44 y45 y46 y47 y48 y49 y50 y51 y52 y53=>gd (inB a1 (length (y43.1))) (gd (inB a1 (length y52)) (gd (decide (toNat a1<length y52)&&true&&true) (some ((List.set y52 (toNat a1) (Sp.andI u32 (getD (y43.1) (toNat a1) 0) (Sp.orI u32 a2 (Sp.xorI u32 4294967295 ((v_101 a3).1)))),y53,y51),y47,(v_101 a3).2.2.1,PUnit.unit)))))))
noncomputable def Sp.p_103(a0:((List Int)×((List Int)×(Int×Unit))))(a1 a2:Int)(a3:(Int×(Int×Unit))):Bool:=(F_103 a0 a1 a2 a3).isSome
noncomputable def Sp.v_103(a0:((List Int)×((List Int)×(Int×Unit))))(a1 a2:Int)(a3:(Int×(Int×Unit))):((List Int)×((List Int)×(Int×Unit)))×(Int×(Int×Unit))×Int×Unit:=(F_103 a0 a1 a2 a3).getD (dfH R_103)
noncomputable def s_103:Summ:=shS A_103 R_103 (fun x=>p_103 x.1 x.2.1 x.2.2.1 x.2.2.2.1) (fun x=>v_103 x.1 x.2.1 x.2.2.1 x.2.2.2.1)
theorem pv_103(a0:((List Int)×((List Int)×(Int×Unit))))(a1 a2:Int)(a3:(Int×(Int×Unit))){y:((List Int)×((List Int)×(Int×Unit)))×(Int×(Int×Unit))×Int×Unit}(h:F_103 a0 a1 a2 a3=some y):p_103 a0 a1 a2 a3=true/\v_103 a0 a1 a2 a3=y:=pvG h
theorem run_103(x:HDen A_103)(y:HDen R_103)(h:F_103 x.1 x.2.1 x.2.2.1 x.2.2.2.1=some y):rnF sm_103 2 103 A_103 R_103 x y:=runG ov_103_103_ok (os:=[]) trivial (Eq.trans (by kernel_rfl) h)
end
noncomputable section
abbrev A_61:List Ty:=[(.pair (.pair (.pair (.slice (.int .u32)) (.pair (.slice (.int .i64)) (.pair (.int .i64) .unit))) (.pair (.arr 32 (.int .u8)) .unit)) (.pair (.pair (.int .i64) (.pair (.int .u32) .unit)) (.pair (.int .i64) .unit))),(.int .i64),(.slice (.int .u32))]
abbrev R_61:List Ty:=[(.pair (.pair (.pair (.slice (.int .u32)) (.pair (.slice (.int .i64)) (.pair (.int .i64) .unit))) (.pair (.arr 32 (.int .u8)) .unit)) (.pair (.pair (.int .i64) (.pair (.int .u32) .unit)) (.pair (.int .i64) .unit)))]
noncomputable def sm_61:Nat->Option Summ:=smL [(103,s_103)]
noncomputable def T_61_0:PS:=⟨41,[(1,.hv (.int .i64)),(2,.hv (.slice (.int .u32))),(3,.kc (.ptr 0 [])),(6,.kc (.ptr 1 [])),(7,.hv (.int .i64))],[.mem (.hv (.pair (.pair (.pair (.slice (.int .u32)) (.pair (.slice (.int .i64)) (.pair (.int .i64) .unit))) (.pair (.arr 32 (.int .u8)) .unit)) (.pair (.pair (.int .i64) (.pair (.int .u32) .unit)) (.pair (.int .i64) .unit)))),.mem (.pr (.pr (.pr (.kc (.whole 2)) (.pr (.kc (.whole 3)) (.hv (.pair (.int .i64) .unit)))) (.hv (.pair (.arr 32 (.int .u8)) .unit))) (.hv (.pair (.pair (.int .i64) (.pair (.int .u32) .unit)) (.pair (.int .i64) .unit)))),.vec 37 (.int .u32),.vec 3 (.int .i64)],0⟩
inductive Sp.E_61_0 where
 |e0 (p3:((List Int×List Int×Int×Unit)×List Int×Unit)×(Int×Int×Unit)×Int×Unit) (p4:Int×Unit) (p5:List Int×Unit) (p6:(Int×Int×Unit)×Int×Unit) (p7 p8:List Int)
noncomputable def Sp.B_61_0{R:Type}(r:Option E_61_0)(k0:(((List Int×List Int×Int×Unit)×List Int×Unit)×(Int×Int×Unit)×Int×Unit)->(Int×Unit)->(List Int×Unit)->((Int×Int×Unit)×Int×Unit)->List Int->List Int->Option R):Option R:=match r with
 |none=>none
 |some (.e0 p3 p4 p5 p6 p7 p8)=>k0 p3 p4 p5 p6 p7 p8
noncomputable def Y_61_0{R:Type}(k:Ex->St->Option R):E_61_0->Option R
 | .e0 p3 p4 p5 p6 p7 p8=>k (Ex.exit 0) (sx 41 [(3,CV.ptr 0 []),(6,CV.ptr 1 [])] [Blk.mem (CV.pure (Ty.pair (Ty.pair (Ty.pair (Ty.slice (Ty.int u32)) (Ty.pair (Ty.slice (Ty.int i64)) (Ty.pair (Ty.int i64) Ty.unit))) (Ty.pair (Ty.arr 32 (Ty.int u8)) Ty.unit)) (Ty.pair (Ty.pair (Ty.int i64) (Ty.pair (Ty.int u32) Ty.unit)) (Ty.pair (Ty.int i64) Ty.unit))) p3),Blk.mem (CV.pair (CV.pair (CV.pair (CV.whole 2) (CV.pair (CV.whole 3) (CV.pure (Ty.pair (Ty.int i64) Ty.unit) p4))) (CV.pure (Ty.pair (Ty.arr 32 (Ty.int u8)) Ty.unit) p5)) (CV.pure (Ty.pair (Ty.pair (Ty.int i64) (Ty.pair (Ty.int u32) Ty.unit)) (Ty.pair (Ty.int i64) Ty.unit)) p6)),Blk.vec 37 (Ty.int u32) p7,Blk.vec 3 (Ty.int i64) p8])
noncomputable def Sp.S_61_0{R:Type}(K:Int->List Int->Int->(((List Int×List Int×Int×Unit)×List Int×Unit)×(Int×Int×Unit)×Int×Unit)->(Int×Unit)->(List Int×Unit)->((Int×Int×Unit)×Int×Unit)->List Int->List Int->Option R)(k:E_61_0->Option R)(p0:Int)(p1:List Int)(p2:Int)(p3:((List Int×List Int×Int×Unit)×List Int×Unit)×(Int×Int×Unit)×Int×Unit)(p4:Int×Unit)(p5:List Int×Unit)(p6:(Int×Int×Unit)×Int×Unit)(p7 p8:List Int):Option R:=
 bif decide (p2<(↑(length p1):Int))then bif p3.2.2.1==0 then gd (inB p2 (length p1)) (gd (p_103 (p3.1.1) (wrap i64 (p0+p2)) (getD p1 (toNat p2) 0) (p3.2.1)) (K p0 p1 (wrap i64 (p2+1)) (((v_103 (p3.1.1) (wrap i64 (p0+p2)) (getD p1 (toNat p2) 0) (p3.2.1)).1,p3.1.2),(v_103 (p3.1.1) (wrap i64 (p0+p2)) (getD p1 (toNat p2) 0) (p3.2.1)).2.1,(v_103 (p3.1.1) (wrap i64 (p0+p2)) (getD p1 (toNat p2) 0) (p3.2.1)).2.2.1,p3.2.2.2) p4 p5 p6 p7 p8))else k (E_61_0.e0 p3 p4 p5 p6 p7 p8)else k (E_61_0.e0 p3 p4 p5 p6 p7 p8)
noncomputable def Sp.L_61_0:Nat->Int->List Int->Int->(((List Int×List Int×Int×Unit)×List Int×Unit)×(Int×Int×Unit)×Int×Unit)->(Int×Unit)->(List Int×Unit)->((Int×Int×Unit)×Int×Unit)->List Int->List Int->Option E_61_0
 |0,_,_,_,_,_,_,_,_,_=>none
 |m+1,p0,p1,p2,p3,p4,p5,p6,p7,p8=>S_61_0 (L_61_0 m) some p0 p1 p2 p3 p4 p5 p6 p7 p8
noncomputable def l_61_0(m:Nat)(a:T_61_0.E):Option E_61_0:=L_61_0 m a.1 a.2.1 a.2.2.1 a.2.2.2.1 a.2.2.2.2.1 a.2.2.2.2.2.1 a.2.2.2.2.2.2.1 a.2.2.2.2.2.2.2.1 a.2.2.2.2.2.2.2.2.1
noncomputable def O_61_0{R:Type}:Orc R:=orL T_61_0 (l_61_0 FU) Y_61_0
theorem OK_61_0{R:Type}:okF (R:=R) sm_61 0 (nf 61 0) O_61_0:=lp0 T_61_0 l_61_0 (fun R K k a=>S_61_0 (fun p0 p1 p2 p3 p4 p5 p6 p7 p8=>K (p0,p1,p2,p3,p4,p5,p6,p7,p8,())) k a.1 a.2.1 a.2.2.1 a.2.2.2.1 a.2.2.2.2.1 a.2.2.2.2.2.1 a.2.2.2.2.2.2.1 a.2.2.2.2.2.2.2.1 a.2.2.2.2.2.2.2.2.1) Y_61_0 (fun _ _ _=>by kernel_rfl) (fun _ _ _=>by
 unfold S_61_0
 repeat' first|apply gdN|apply condN|rfl) (ok0 _)
noncomputable def F_61(a0:((((List Int)×((List Int)×(Int×Unit)))×((List Int)×Unit))×((Int×(Int×Unit))×(Int×Unit))))(a1:Int)(a2:(List Int)):Option (((((List Int)×((List Int)×(Int×Unit)))×((List Int)×Unit))×((Int×(Int×Unit))×(Int×Unit)))×Unit) :=
 B_61_0 (L_61_0 4611686018427387904 a1 a2 0 a0 (0,PUnit.unit) (replicate 32 (0:Int),PUnit.unit) ((0,0,PUnit.unit),0,PUnit.unit) [] []) fun y6 y7 y8 y9 y10 y11=>some (y6,PUnit.unit)
noncomputable def Sp.p_61(a0:((((List Int)×((List Int)×(Int×Unit)))×((List Int)×Unit))×((Int×(Int×Unit))×(Int×Unit))))(a1:Int)(a2:(List Int)):Bool:=(F_61 a0 a1 a2).isSome
noncomputable def Sp.v_61(a0:((((List Int)×((List Int)×(Int×Unit)))×((List Int)×Unit))×((Int×(Int×Unit))×(Int×Unit))))(a1:Int)(a2:(List Int)):((((List Int)×((List Int)×(Int×Unit)))×((List Int)×Unit))×((Int×(Int×Unit))×(Int×Unit)))×Unit:=(F_61 a0 a1 a2).getD (dfH R_61)
noncomputable def s_61:Summ:=shS A_61 R_61 (fun x=>p_61 x.1 x.2.1 x.2.2.1) (fun x=>v_61 x.1 x.2.1 x.2.2.1)
theorem pv_61(a0:((((List Int)×((List Int)×(Int×Unit)))×((List Int)×Unit))×((Int×(Int×Unit))×(Int×Unit))))(a1:Int)(a2:(List Int)){y:((((List Int)×((List Int)×(Int×Unit)))×((List Int)×Unit))×((Int×(Int×Unit))×(Int×Unit)))×Unit}(h:F_61 a0 a1 a2=some y):p_61 a0 a1 a2=true/\v_61 a0 a1 a2=y:=pvG h
theorem run_61(x:HDen A_61)(y:HDen R_61)(h:F_61 x.1 x.2.1 x.2.2.1=some y):rnF sm_61 1 61 A_61 R_61 x y:=runG noO_ok (os:=[O_61_0]) ⟨OK_61_0,trivial⟩ (Eq.trans (by kernel_rfl) h)
end
noncomputable section
abbrev A_62:List Ty:=[(.pair (.pair (.slice (.int .u32)) (.pair (.slice (.int .i64)) (.pair (.int .i64) .unit))) (.pair (.arr 32 (.int .u8)) .unit)),(.int .i64)]
abbrev R_62:List Ty:=[(.int .i64)]
noncomputable def sm_62:Nat->Option Summ:=smL []
noncomputable def F_62(a0:(((List Int)×((List Int)×(Int×Unit)))×((List Int)×Unit)))(a1:Int):Option (Int×Unit) :=
 some (wrap i64 (Int.tdiv (wrap i64 (a1*(↑(length (a0.1.1)):Int))) 2),PUnit.unit)
noncomputable def Sp.p_62(a0:(((List Int)×((List Int)×(Int×Unit)))×((List Int)×Unit)))(a1:Int):Bool:=(F_62 a0 a1).isSome
noncomputable def Sp.v_62(a0:(((List Int)×((List Int)×(Int×Unit)))×((List Int)×Unit)))(a1:Int):Int×Unit:=(F_62 a0 a1).getD (dfH R_62)
noncomputable def s_62:Summ:=shN A_62 R_62 (fun x=>p_62 x.1 x.2.1) (fun x=>v_62 x.1 x.2.1)
theorem pv_62(a0:(((List Int)×((List Int)×(Int×Unit)))×((List Int)×Unit)))(a1:Int){y:Int×Unit}(h:F_62 a0 a1=some y):p_62 a0 a1=true/\v_62 a0 a1=y:=pvG h
theorem run_62(x:HDen A_62)(y:HDen R_62)(h:F_62 x.1 x.2.1=some y):rnF sm_62 1 62 A_62 R_62 x y:=runG noO_ok (os:=[]) trivial (Eq.trans (by kernel_rfl) h)
end
noncomputable section
abbrev Zt17_0:Type:=((List Int×List Int×Int×Unit)×List Int×Unit)×(Int×Int×Unit)×Int×Unit
abbrev Zt17_1:Type:=Int×Int×List Int×(Int×List (List Int)×List (List Int)×Unit)×Unit
abbrev Zy17_2:Ty:=(.pair (.pair (.pair (.slice (.int .u32)) (.pair (.slice (.int .i64)) (.pair (.int .i64) .unit))) (.pair (.arr 32 (.int .u8)) .unit)) (.pair (.pair (.int .i64) (.pair (.int .u32) .unit)) (.pair (.int .i64) .unit)))
abbrev Zy17_3:Ty:=(.pair (.int .i64) (.pair (.int .i64) (.pair (.arr 32 (.int .u8)) (.pair (.pair (.int .i64) (.pair (.slice (.arr 32 (.int .u8))) (.pair (.slice (.arr 32 (.int .u8))) .unit))) .unit))))
abbrev Zy17_4:Ty:=(.pair (.pair (.int .i64) (.pair (.int .u32) .unit)) (.pair (.int .i64) .unit))
abbrev Zt17_5:Type:=(Int×Int×Unit)×Int×Unit
abbrev A_17:List Ty:=[(.pair (.pair (.pair (.slice (.int .u32)) (.pair (.slice (.int .i64)) (.pair (.int .i64) .unit))) (.pair (.arr 32 (.int .u8)) .unit)) (.pair (.pair (.int .i64) (.pair (.int .u32) .unit)) (.pair (.int .i64) .unit))),(.pair (.int .i64) (.pair (.int .i64) (.pair (.arr 32 (.int .u8)) (.pair (.pair (.int .i64) (.pair (.slice (.arr 32 (.int .u8))) (.pair (.slice (.arr 32 (.int .u8))) .unit))) .unit))))]
abbrev R_17:List Ty:=[(.pair (.pair (.pair (.slice (.int .u32)) (.pair (.slice (.int .i64)) (.pair (.int .i64) .unit))) (.pair (.arr 32 (.int .u8)) .unit)) (.pair (.pair (.int .i64) (.pair (.int .u32) .unit)) (.pair (.int .i64) .unit)))]
noncomputable def sm_17:Nat->Option Summ:=smL [(18,s_18),(31,s_31),(60,s_60),(61,s_61),(62,s_62)]
noncomputable def T_17_0:PS:=⟨55,[(2,.kc (.ptr 0 [])),(3,.kc (.ptr 1 [])),(4,.kc (.ptr 2 [])),(5,.hv (.int .i64)),(6,.hv (.int .i64)),(7,.hv (.int .i64))],[.mem (.hv Zy17_2),.mem (.hv Zy17_3),.mem (.pr (.pr (.pr (.kc (.whole 3)) (.pr (.kc (.whole 4)) (.hv (.pair (.int .i64) .unit)))) (.hv (.pair (.arr 32 (.int .u8)) .unit))) (.hv Zy17_4)),.vec 37 (.int .u32),.vec 3 (.int .i64)],0⟩
inductive Sp.E_17_0 where
 |e0 (p0:Int) (p3:Zt17_0) (p4:Zt17_1) (p5:Int×Unit) (p6:List Int×Unit) (p7:Zt17_5) (p8 p9:List Int)
noncomputable def Sp.B_17_0{R:Type}(r:Option E_17_0)(k0:Int->Zt17_0->Zt17_1->(Int×Unit)->(List Int×Unit)->Zt17_5->List Int->List Int->Option R):Option R:=match r with
 |none=>none
 |some (.e0 p0 p3 p4 p5 p6 p7 p8 p9)=>k0 p0 p3 p4 p5 p6 p7 p8 p9
noncomputable def Y_17_0{R:Type}(k:Ex->St->Option R):E_17_0->Option R
 | .e0 p0 p3 p4 p5 p6 p7 p8 p9=>k (Ex.exit 0) (sx 55 [(2,CV.ptr 0 []),(3,CV.ptr 1 []),(4,CV.ptr 2 []),(5,CV.int i64 p0)] [Blk.mem (CV.pure (Ty.pair (Ty.pair (Ty.pair (Ty.slice (Ty.int u32)) (Ty.pair (Ty.slice (Ty.int i64)) (Ty.pair (Ty.int i64) Ty.unit))) (Ty.pair (Ty.arr 32 (Ty.int u8)) Ty.unit)) (Ty.pair (Ty.pair (Ty.int i64) (Ty.pair (Ty.int u32) Ty.unit)) (Ty.pair (Ty.int i64) Ty.unit))) p3),Blk.mem (CV.pure (Ty.pair (Ty.int i64) (Ty.pair (Ty.int i64) (Ty.pair (Ty.arr 32 (Ty.int u8)) (Ty.pair (Ty.pair (Ty.int i64) (Ty.pair (Ty.slice (Ty.arr 32 (Ty.int u8))) (Ty.pair (Ty.slice (Ty.arr 32 (Ty.int u8))) Ty.unit))) Ty.unit)))) p4),Blk.mem (CV.pair (CV.pair (CV.pair (CV.whole 3) (CV.pair (CV.whole 4) (CV.pure (Ty.pair (Ty.int i64) Ty.unit) p5))) (CV.pure (Ty.pair (Ty.arr 32 (Ty.int u8)) Ty.unit) p6)) (CV.pure (Ty.pair (Ty.pair (Ty.int i64) (Ty.pair (Ty.int u32) Ty.unit)) (Ty.pair (Ty.int i64) Ty.unit)) p7)),Blk.vec 37 (Ty.int u32) p8,Blk.vec 3 (Ty.int i64) p9])
noncomputable def Sp.S_17_0{R:Type}(K:Int->Int->Int->(((List Int×List Int×Int×Unit)×List Int×Unit)×(Int×Int×Unit)×Int×Unit)->(Int×Int×List Int×(Int×List (List Int)×List (List Int)×Unit)×Unit)->(Int×Unit)->(List Int×Unit)->((Int×Int×Unit)×Int×Unit)->List Int->List Int->Option R)(k:E_17_0->Option R)(p0 p1 p2:Int)(p3:((List Int×List Int×Int×Unit)×List Int×Unit)×(Int×Int×Unit)×Int×Unit)(p4:Int×Int×List Int×(Int×List (List Int)×List (List Int)×Unit)×Unit)(p5:Int×Unit)(p6:List Int×Unit)(p7:(Int×Int×Unit)×Int×Unit)(p8 p9:List Int):Option R:=
 bif decide (p2<p1)then bif p3.2.2.1==0 then gd (p_60 (p3.1.1) (wrap i64 (wrap i64 (p0*p1)+p2)) (p3.2.1)) (K p0 p1 (wrap i64 (p2+1)) (((v_60 (p3.1.1) (wrap i64 (wrap i64 (p0*p1)+p2)) (p3.2.1)).1,p3.1.2),(v_60 (p3.1.1) (wrap i64 (wrap i64 (p0*p1)+p2)) (p3.2.1)).2.1,(v_60 (p3.1.1) (wrap i64 (wrap i64 (p0*p1)+p2)) (p3.2.1)).2.2.1,p3.2.2.2) p4 p5 p6 p7 p8 p9)else k (E_17_0.e0 p0 p3 p4 p5 p6 p7 p8 p9)else k (E_17_0.e0 p0 p3 p4 p5 p6 p7 p8 p9)
noncomputable def Sp.L_17_0:Nat->Int->Int->Int->(((List Int×List Int×Int×Unit)×List Int×Unit)×(Int×Int×Unit)×Int×Unit)->(Int×Int×List Int×(Int×List (List Int)×List (List Int)×Unit)×Unit)->(Int×Unit)->(List Int×Unit)->((Int×Int×Unit)×Int×Unit)->List Int->List Int->Option E_17_0
 |0,_,_,_,_,_,_,_,_,_,_=>none
 |m+1,p0,p1,p2,p3,p4,p5,p6,p7,p8,p9=>S_17_0 (L_17_0 m) some p0 p1 p2 p3 p4 p5 p6 p7 p8 p9
noncomputable def l_17_0(m:Nat)(a:T_17_0.E):Option E_17_0:=L_17_0 m a.1 a.2.1 a.2.2.1 a.2.2.2.1 a.2.2.2.2.1 a.2.2.2.2.2.1 a.2.2.2.2.2.2.1 a.2.2.2.2.2.2.2.1 a.2.2.2.2.2.2.2.2.1 a.2.2.2.2.2.2.2.2.2.1
noncomputable def O_17_0{R:Type}:Orc R:=orL T_17_0 (l_17_0 FU) Y_17_0
theorem OK_17_0{R:Type}:okF (R:=R) sm_17 0 (nf 17 0) O_17_0:=lp0 T_17_0 l_17_0 (fun R K k a=>S_17_0 (fun p0 p1 p2 p3 p4 p5 p6 p7 p8 p9=>K (p0,p1,p2,p3,p4,p5,p6,p7,p8,p9,())) k a.1 a.2.1 a.2.2.1 a.2.2.2.1 a.2.2.2.2.1 a.2.2.2.2.2.1 a.2.2.2.2.2.2.1 a.2.2.2.2.2.2.2.1 a.2.2.2.2.2.2.2.2.1 a.2.2.2.2.2.2.2.2.2.1) Y_17_0 (fun _ _ _=>by kernel_rfl) (fun _ _ _=>by
 unfold S_17_0
 repeat' first|apply gdN|apply condN|rfl) (ok0 _)
noncomputable def T_17_1:PS:=⟨55,[(2,.kc (.ptr 0 [])),(3,.kc (.ptr 1 [])),(4,.kc (.ptr 2 [])),(5,.hv (.int .i64))],[.mem (.hv Zy17_2),.mem (.hv Zy17_3),.mem (.pr (.pr (.pr (.kc (.whole 3)) (.pr (.kc (.whole 4)) (.hv (.pair (.int .i64) .unit)))) (.hv (.pair (.arr 32 (.int .u8)) .unit))) (.hv Zy17_4)),.vec 37 (.int .u32),.vec 3 (.int .i64)],0⟩
inductive Sp.E_17_1 where
 |e0 (p0:Int) (p1:Zt17_0) (p2:Zt17_1)
noncomputable def Sp.B_17_1{R:Type}(r:Option E_17_1)(k0:Int->Zt17_0->Zt17_1->Option R):Option R:=match r with
 |none=>none
 |some (.e0 p0 p1 p2)=>k0 p0 p1 p2
noncomputable def Y_17_1{R:Type}(k:Ex->St->Option R):E_17_1->Option R
 | .e0 p0 p1 p2=>k Ex.ret (sx 55 [(4,CV.ptr 0 [])] [Blk.mem (CV.pure (Ty.pair (Ty.pair (Ty.pair (Ty.slice (Ty.int u32)) (Ty.pair (Ty.slice (Ty.int i64)) (Ty.pair (Ty.int i64) Ty.unit))) (Ty.pair (Ty.arr 32 (Ty.int u8)) Ty.unit)) (Ty.pair (Ty.pair (Ty.int i64) (Ty.pair (Ty.int u32) Ty.unit)) (Ty.pair (Ty.int i64) Ty.unit))) (((v_61 p1 (wrap i64 ((v_62 (p1.1) p0).1+1)) ((v_31 p2 []).1)).1):((((List Int)×((List Int)×(Int×Unit)))×((List Int)×Unit))×((Int×(Int×Unit))×(Int×Unit)))))])
noncomputable def Sp.S_17_1{R:Type}(k:E_17_1->Option R)(p0:Int)(p1:((List Int×List Int×Int×Unit)×List Int×Unit)×(Int×Int×Unit)×Int×Unit)(p2:Int×Int×List Int×(Int×List (List Int)×List (List Int)×Unit)×Unit)(p3:Int×Unit)(p4:List Int×Unit)(p5:(Int×Int×Unit)×Int×Unit)(p6 p7:List Int):Option R:=
 gd (p_62 (p1.1) p0) (gd (p_31 p2 []) (gd (p_61 p1 (wrap i64 ((v_62 (p1.1) p0).1+1)) ((v_31 p2 []).1)) (k (E_17_1.e0 p0 p1 p2))))
noncomputable def Sp.J_17_1(p0:Int)(p1:((List Int×List Int×Int×Unit)×List Int×Unit)×(Int×Int×Unit)×Int×Unit)(p2:Int×Int×List Int×(Int×List (List Int)×List (List Int)×Unit)×Unit)(p3:Int×Unit)(p4:List Int×Unit)(p5:(Int×Int×Unit)×Int×Unit)(p6 p7:List Int):Option E_17_1:=S_17_1 some p0 p1 p2 p3 p4 p5 p6 p7
noncomputable def O_17_1{R:Type}:Orc R:=orL T_17_1 (fun a=>J_17_1 a.1 a.2.1 a.2.2.1 a.2.2.2.1 a.2.2.2.2.1 a.2.2.2.2.2.1 a.2.2.2.2.2.2.1 a.2.2.2.2.2.2.2.1) Y_17_1
theorem OK_17_1{R:Type}:okF (R:=R) sm_17 0 (nf 17 1) O_17_1:=jp noO_ok (os:=[]) trivial T_17_1 (fun R k a=>S_17_1 k a.1 a.2.1 a.2.2.1 a.2.2.2.1 a.2.2.2.2.1 a.2.2.2.2.2.1 a.2.2.2.2.2.2.1 a.2.2.2.2.2.2.2.1) Y_17_1 (fun k a=>by kernel_rfl) (fun Y a=>by
 unfold S_17_1
 repeat' first|apply gdN|apply condN|rfl) (ok0 _)
noncomputable def F_17(a0:((((List Int)×((List Int)×(Int×Unit)))×((List Int)×Unit))×((Int×(Int×Unit))×(Int×Unit))))(a1:(Int×(Int×((List Int)×((Int×((List (List Int))×((List (List Int))×Unit)))×Unit))))):Option (((((List Int)×((List Int)×(Int×Unit)))×((List Int)×Unit))×((Int×(Int×Unit))×(Int×Unit)))×Unit) :=
 gd (p_18 (a0.1)) (B_17_0 (L_17_0 4611686018427387904 ((v_18 (a0.1)).1) (wrap i64 (Int.tdiv (↑(length (a0.1.1.2.1)):Int) 2)) 0 a0 a1 (0,PUnit.unit) (replicate 32 (0:Int),PUnit.unit) ((0,0,PUnit.unit),0,PUnit.unit) [] []) fun y11 y12 y13 y14 y15 y16 y17 y18=>B_17_1 (J_17_1 y11 y12 y13 y14 y15 y16 y17 y18) fun y19 y20 y21=>some ((v_61 y20 (wrap i64 ((v_62 (y20.1) y19).1+1)) ((v_31 y21 []).1)).1,PUnit.unit))
noncomputable def Sp.p_17(a0:((((List Int)×((List Int)×(Int×Unit)))×((List Int)×Unit))×((Int×(Int×Unit))×(Int×Unit))))(a1:(Int×(Int×((List Int)×((Int×((List (List Int))×((List (List Int))×Unit)))×Unit))))):Bool:=(F_17 a0 a1).isSome
noncomputable def Sp.v_17(a0:((((List Int)×((List Int)×(Int×Unit)))×((List Int)×Unit))×((Int×(Int×Unit))×(Int×Unit))))(a1:(Int×(Int×((List Int)×((Int×((List (List Int))×((List (List Int))×Unit)))×Unit))))):((((List Int)×((List Int)×(Int×Unit)))×((List Int)×Unit))×((Int×(Int×Unit))×(Int×Unit)))×Unit:=(F_17 a0 a1).getD (dfH R_17)
noncomputable def s_17:Summ:=shS A_17 R_17 (fun x=>p_17 x.1 x.2.1) (fun x=>v_17 x.1 x.2.1)
theorem pv_17(a0:((((List Int)×((List Int)×(Int×Unit)))×((List Int)×Unit))×((Int×(Int×Unit))×(Int×Unit))))(a1:(Int×(Int×((List Int)×((Int×((List (List Int))×((List (List Int))×Unit)))×Unit))))){y:((((List Int)×((List Int)×(Int×Unit)))×((List Int)×Unit))×((Int×(Int×Unit))×(Int×Unit)))×Unit}(h:F_17 a0 a1=some y):p_17 a0 a1=true/\v_17 a0 a1=y:=pvG h
theorem run_17(x:HDen A_17)(y:HDen R_17)(h:F_17 x.1 x.2.1=some y):rnF sm_17 1 17 A_17 R_17 x y:=runG noO_ok (os:=[O_17_0,O_17_1]) ⟨OK_17_0,OK_17_1,trivial⟩ (Eq.trans (by kernel_rfl) h)
end
noncomputable section
abbrev Zt66_0:Type:=(List Int×List Int×Int×Unit)×List Int×Unit
abbrev A_66:List Ty:=[(.pair (.pair (.slice (.int .u32)) (.pair (.slice (.int .i64)) (.pair (.int .i64) .unit))) (.pair (.arr 32 (.int .u8)) .unit)),(.int .i64),(.pair (.int .i64) (.pair (.int .u32) .unit))]
abbrev R_66:List Ty:=[(.pair (.pair (.slice (.int .u32)) (.pair (.slice (.int .i64)) (.pair (.int .i64) .unit))) (.pair (.arr 32 (.int .u8)) .unit)),(.pair (.int .i64) (.pair (.int .u32) .unit)),(.int .i64)]
noncomputable def sm_66:Nat->Option Summ:=smL [(12,s_12),(13,s_13),(30,s_30),(32,s_32),(56,s_56),(103,s_103),(107,s_107)]
noncomputable def T_66_0:PS:=⟨68,[(1,.hv (.int .i64)),(3,.kc (.ptr 0 [])),(5,.kc (.ptr 1 [])),(6,.kc (.ptr 2 [])),(7,.kc (.ptr 5 [])),(9,.hv (.int .i64))],[.mem (.hv (.pair (.pair (.slice (.int .u32)) (.pair (.slice (.int .i64)) (.pair (.int .i64) .unit))) (.pair (.arr 32 (.int .u8)) .unit))),.mem (.hv (.pair (.int .i64) (.pair (.int .u32) .unit))),.mem (.pr (.pr (.kc (.whole 3)) (.pr (.kc (.whole 4)) (.hv (.pair (.int .i64) .unit)))) (.hv (.pair (.arr 32 (.int .u8)) .unit))),.vec 37 (.int .u32),.vec 3 (.int .i64),.mem (.hv (.pair (.int .i64) (.pair (.int .u32) .unit)))],0⟩
inductive Sp.E_66_0 where
 |e0 (p1:Int)
 |e1 (p0:Int) (p2:Zt66_0) (p3:Int×Int×Unit)
noncomputable def Sp.B_66_0{R:Type}(r:Option E_66_0)(k0:Int->Option R)(k1:Int->Zt66_0->(Int×Int×Unit)->Option R):Option R:=match r with
 |none=>none
 |some (.e0 p1)=>k0 p1
 |some (.e1 p0 p2 p3)=>k1 p0 p2 p3
noncomputable def Y_66_0{R:Type}(k:Ex->St->Option R):E_66_0->Option R
 | .e0 p1=>k Ex.ret (sx 68 [(6,CV.ptr 0 []),(7,CV.ptr 3 []),(8,CV.int i64 p1)] [Blk.mem (CV.pair (CV.pair (CV.whole 1) (CV.pair (CV.whole 2) (CV.pure (Ty.pair (Ty.int i64) Ty.unit) ((0,PUnit.unit):(Int×Unit))))) (CV.pure (Ty.pair (Ty.arr 32 (Ty.int u8)) Ty.unit) ((replicate 32 (0:Int),PUnit.unit):((List Int)×Unit)))),Blk.vec 37 (Ty.int u32) [],Blk.vec 3 (Ty.int i64) [],Blk.mem (CV.pure (Ty.pair (Ty.int i64) (Ty.pair (Ty.int u32) Ty.unit)) ((0,0,PUnit.unit):(Int×(Int×Unit))))])
 | .e1 p0 p2 p3=>k Ex.ret (sx 68 [(6,CV.ptr 0 []),(7,CV.ptr 1 []),(8,CV.int i64 ((v_103 (p2.1) (wrap i64 (Int.tdiv (wrap i64 (p0*(↑(length (p2.1.1)):Int))) 2)) 0 p3).2.2.1))] [Blk.mem (CV.pure (Ty.pair (Ty.pair (Ty.slice (Ty.int u32)) (Ty.pair (Ty.slice (Ty.int i64)) (Ty.pair (Ty.int i64) Ty.unit))) (Ty.pair (Ty.arr 32 (Ty.int u8)) Ty.unit)) (((v_103 (p2.1) (wrap i64 (Int.tdiv (wrap i64 (p0*(↑(length (p2.1.1)):Int))) 2)) 0 p3).1,p2.2.1,PUnit.unit):(((List Int)×((List Int)×(Int×Unit)))×((List Int)×Unit)))),Blk.mem (CV.pure (Ty.pair (Ty.int i64) (Ty.pair (Ty.int u32) Ty.unit)) (((v_103 (p2.1) (wrap i64 (Int.tdiv (wrap i64 (p0*(↑(length (p2.1.1)):Int))) 2)) 0 p3).2.1):(Int×(Int×Unit))))])
noncomputable def Sp.S_66_0{R:Type}(k:E_66_0->Option R)(p0 p1:Int)(p2:(List Int×List Int×Int×Unit)×List Int×Unit)(p3:Int×Int×Unit)(p4:Int×Unit)(p5:List Int×Unit)(p6 p7:List Int)(p8:Int×Int×Unit):Option R:=
 bif p1 !=0 then k (E_66_0.e0 p1)else gd (p_103 (p2.1) (wrap i64 (Int.tdiv (wrap i64 (p0*(↑(length (p2.1.1)):Int))) 2)) 0 p3) (k (E_66_0.e1 p0 p2 p3))
noncomputable def Sp.J_66_0(p0 p1:Int)(p2:(List Int×List Int×Int×Unit)×List Int×Unit)(p3:Int×Int×Unit)(p4:Int×Unit)(p5:List Int×Unit)(p6 p7:List Int)(p8:Int×Int×Unit):Option E_66_0:=S_66_0 some p0 p1 p2 p3 p4 p5 p6 p7 p8
noncomputable def O_66_0{R:Type}:Orc R:=orL T_66_0 (fun a=>J_66_0 a.1 a.2.1 a.2.2.1 a.2.2.2.1 a.2.2.2.2.1 a.2.2.2.2.2.1 a.2.2.2.2.2.2.1 a.2.2.2.2.2.2.2.1 a.2.2.2.2.2.2.2.2.1) Y_66_0
theorem OK_66_0{R:Type}:okF (R:=R) sm_66 0 (nf 66 0) O_66_0:=jp noO_ok (os:=[]) trivial T_66_0 (fun R k a=>S_66_0 k a.1 a.2.1 a.2.2.1 a.2.2.2.1 a.2.2.2.2.1 a.2.2.2.2.2.1 a.2.2.2.2.2.2.1 a.2.2.2.2.2.2.2.1 a.2.2.2.2.2.2.2.2.1) Y_66_0 (fun k a=>by kernel_rfl) (fun Y a=>by
 unfold S_66_0
 repeat' first|apply gdN|apply condN|rfl) (ok0 _)
noncomputable def F_66(a0:(((List Int)×((List Int)×(Int×Unit)))×((List Int)×Unit)))(a1:Int)(a2:(Int×(Int×Unit))):Option ((((List Int)×((List Int)×(Int×Unit)))×((List Int)×Unit))×(Int×(Int×Unit))×Int×Unit) :=
 gd (p_12 a0) (bif !(v_12 a0).1 then B_66_0 (J_66_0 a1 1 a0 a2 (0,PUnit.unit) (replicate 32 (0:Int),PUnit.unit) [] [] (0,0,PUnit.unit)) (fun y28=>some ((([],[],0,PUnit.unit),replicate 32 (0:Int),PUnit.unit),(0,0,PUnit.unit),y28,PUnit.unit)) fun y29 y30 y31=>some (((v_103 (y30.1) (wrap i64 (Int.tdiv (wrap i64 (y29*(↑(length (y30.1.1)):Int))) 2)) 0 y31).1,y30.2.1,PUnit.unit),(v_103 (y30.1) (wrap i64 (Int.tdiv (wrap i64 (y29*(↑(length (y30.1.1)):Int))) 2)) 0 y31).2.1,(v_103 (y30.1) (wrap i64 (Int.tdiv (wrap i64 (y29*(↑(length (y30.1.1)):Int))) 2)) 0 y31).2.2.1,PUnit.unit)else gd (p_13 a2) (bif !(v_13 a2).1 then B_66_0 (J_66_0 a1 1 a0 a2 (0,PUnit.unit) (replicate 32 (0:Int),PUnit.unit) [] [] (0,0,PUnit.unit)) (fun y32=>some ((([],[],0,PUnit.unit),replicate 32 (0:Int),PUnit.unit),(0,0,PUnit.unit),y32,PUnit.unit)) fun y33 y34 y35=>some (((v_103 (y34.1) (wrap i64 (Int.tdiv (wrap i64 (y33*(↑(length (y34.1.1)):Int))) 2)) 0 y35).1,y34.2.1,PUnit.unit),(v_103 (y34.1) (wrap i64 (Int.tdiv (wrap i64 (y33*(↑(length (y34.1.1)):Int))) 2)) 0 y35).2.1,(v_103 (y34.1) (wrap i64 (Int.tdiv (wrap i64 (y33*(↑(length (y34.1.1)):Int))) 2)) 0 y35).2.2.1,PUnit.unit)else gd (p_107 a1) (bif !(v_107 a1).1 then B_66_0 (J_66_0 a1 2 a0 a2 (0,PUnit.unit) (replicate 32 (0:Int),PUnit.unit) [] [] (0,0,PUnit.unit)) (fun y36=>some ((([],[],0,PUnit.unit),replicate 32 (0:Int),PUnit.unit),(0,0,PUnit.unit),y36,PUnit.unit)) fun y37 y38 y39=>some (((v_103 (y38.1) (wrap i64 (Int.tdiv (wrap i64 (y37*(↑(length (y38.1.1)):Int))) 2)) 0 y39).1,y38.2.1,PUnit.unit),(v_103 (y38.1) (wrap i64 (Int.tdiv (wrap i64 (y37*(↑(length (y38.1.1)):Int))) 2)) 0 y39).2.1,(v_103 (y38.1) (wrap i64 (Int.tdiv (wrap i64 (y37*(↑(length (y38.1.1)):Int))) 2)) 0 y39).2.2.1,PUnit.unit)else gd (p_32 a0 a1) (bif !(v_32 a0 a1).1 then B_66_0 (J_66_0 a1 14 a0 a2 (0,PUnit.unit) (replicate 32 (0:Int),PUnit.unit) [] [] (0,0,PUnit.unit)) (fun y40=>some ((([],[],0,PUnit.unit),replicate 32 (0:Int),PUnit.unit),(0,0,PUnit.unit),y40,PUnit.unit)) fun y41 y42 y43=>some (((v_103 (y42.1) (wrap i64 (Int.tdiv (wrap i64 (y41*(↑(length (y42.1.1)):Int))) 2)) 0 y43).1,y42.2.1,PUnit.unit),(v_103 (y42.1) (wrap i64 (Int.tdiv (wrap i64 (y41*(↑(length (y42.1.1)):Int))) 2)) 0 y43).2.1,(v_103 (y42.1) (wrap i64 (Int.tdiv (wrap i64 (y41*(↑(length (y42.1.1)):Int))) 2)) 0 y43).2.2.1,PUnit.unit)else gd (p_30 a0 a1) (gd (inB 0 (length ((v_30 a0 a1).1))) (bif getD ((v_30 a0 a1).1) 0 (0:Int)==(0:Int)then B_66_0 (J_66_0 a1 6 a0 a2 (0,PUnit.unit) (replicate 32 (0:Int),PUnit.unit) [] [] (0,0,PUnit.unit)) (fun y44=>some ((([],[],0,PUnit.unit),replicate 32 (0:Int),PUnit.unit),(0,0,PUnit.unit),y44,PUnit.unit)) fun y45 y46 y47=>some (((v_103 (y46.1) (wrap i64 (Int.tdiv (wrap i64 (y45*(↑(length (y46.1.1)):Int))) 2)) 0 y47).1,y46.2.1,PUnit.unit),(v_103 (y46.1) (wrap i64 (Int.tdiv (wrap i64 (y45*(↑(length (y46.1.1)):Int))) 2)) 0 y47).2.1,(v_103 (y46.1) (wrap i64 (Int.tdiv (wrap i64 (y45*(↑(length (y46.1.1)):Int))) 2)) 0 y47).2.2.1,PUnit.unit)else gd (p_30 a0 a1) (gd (inB 1 (length ((v_30 a0 a1).1))) (gd (p_56 a0) (bif decide (wrap i64 (getD ((v_30 a0 a1).1) 1 0)<(v_56 a0).1)then B_66_0 (J_66_0 a1 20 a0 a2 (0,PUnit.unit) (replicate 32 (0:Int),PUnit.unit) [] [] (0,0,PUnit.unit)) (fun y48=>some ((([],[],0,PUnit.unit),replicate 32 (0:Int),PUnit.unit),(0,0,PUnit.unit),y48,PUnit.unit)) fun y49 y50 y51=>some (((v_103 (y50.1) (wrap i64 (Int.tdiv (wrap i64 (y49*(↑(length (y50.1.1)):Int))) 2)) 0 y51).1,y50.2.1,PUnit.unit),(v_103 (y50.1) (wrap i64 (Int.tdiv (wrap i64 (y49*(↑(length (y50.1.1)):Int))) 2)) 0 y51).2.1,(v_103 (y50.1) (wrap i64 (Int.tdiv (wrap i64 (y49*(↑(length (y50.1.1)):Int))) 2)) 0 y51).2.2.1,PUnit.unit)else B_66_0 (J_66_0 a1 0 a0 a2 (0,PUnit.unit) (replicate 32 (0:Int),PUnit.unit) [] [] (0,0,PUnit.unit)) (fun y52=>some ((([],[],0,PUnit.unit),replicate 32 (0:Int),PUnit.unit),(0,0,PUnit.unit),y52,PUnit.unit)) fun y53 y54 y55=>some (((v_103 (y54.1) (wrap i64 (Int.tdiv (wrap i64 (y53*(↑(length (y54.1.1)):Int))) 2)) 0 y55).1,y54.2.1,PUnit.unit),(v_103 (y54.1) (wrap i64 (Int.tdiv (wrap i64 (y53*(↑(length (y54.1.1)):Int))) 2)) 0 y55).2.1,(v_103 (y54.1) (wrap i64 (Int.tdiv (wrap i64 (y53*(↑(length (y54.1.1)):Int))) 2)) 0 y55).2.2.1,PUnit.unit))))))))))
noncomputable def Sp.p_66(a0:(((List Int)×((List Int)×(Int×Unit)))×((List Int)×Unit)))(a1:Int)(a2:(Int×(Int×Unit))):Bool:=(F_66 a0 a1 a2).isSome
noncomputable def Sp.v_66(a0:(((List Int)×((List Int)×(Int×Unit)))×((List Int)×Unit)))(a1:Int)(a2:(Int×(Int×Unit))):(((List Int)×((List Int)×(Int×Unit)))×((List Int)×Unit))×(Int×(Int×Unit))×Int×Unit:=(F_66 a0 a1 a2).getD (dfH R_66)
noncomputable def s_66:Summ:=shS A_66 R_66 (fun x=>p_66 x.1 x.2.1 x.2.2.1) (fun x=>v_66 x.1 x.2.1 x.2.2.1)
theorem pv_66(a0:(((List Int)×((List Int)×(Int×Unit)))×((List Int)×Unit)))(a1:Int)(a2:(Int×(Int×Unit))){y:(((List Int)×((List Int)×(Int×Unit)))×((List Int)×Unit))×(Int×(Int×Unit))×Int×Unit}(h:F_66 a0 a1 a2=some y):p_66 a0 a1 a2=true/\v_66 a0 a1 a2=y:=pvG h
theorem run_66(x:HDen A_66)(y:HDen R_66)(h:F_66 x.1 x.2.1 x.2.2.1=some y):rnF sm_66 1 66 A_66 R_66 x y:=runG noO_ok (os:=[O_66_0]) ⟨OK_66_0,trivial⟩ (Eq.trans (by kernel_rfl) h)
end
noncomputable section
abbrev A_22:List Ty:=[(.pair (.pair (.pair (.slice (.int .u32)) (.pair (.slice (.int .i64)) (.pair (.int .i64) .unit))) (.pair (.arr 32 (.int .u8)) .unit)) (.pair (.pair (.int .i64) (.pair (.int .u32) .unit)) (.pair (.int .i64) .unit))),(.int .i64)]
abbrev R_22:List Ty:=[(.pair (.pair (.pair (.slice (.int .u32)) (.pair (.slice (.int .i64)) (.pair (.int .i64) .unit))) (.pair (.arr 32 (.int .u8)) .unit)) (.pair (.pair (.int .i64) (.pair (.int .u32) .unit)) (.pair (.int .i64) .unit)))]
noncomputable def sm_22:Nat->Option Summ:=smL [(66,s_66)]
noncomputable def F_22(a0:((((List Int)×((List Int)×(Int×Unit)))×((List Int)×Unit))×((Int×(Int×Unit))×(Int×Unit))))(a1:Int):Option (((((List Int)×((List Int)×(Int×Unit)))×((List Int)×Unit))×((Int×(Int×Unit))×(Int×Unit)))×Unit) :=
 gd (p_66 (a0.1) a1 (a0.2.1)) (some (((v_66 (a0.1) a1 (a0.2.1)).1,(v_66 (a0.1) a1 (a0.2.1)).2.1,(v_66 (a0.1) a1 (a0.2.1)).2.2.1,PUnit.unit),PUnit.unit))
noncomputable def Sp.p_22(a0:((((List Int)×((List Int)×(Int×Unit)))×((List Int)×Unit))×((Int×(Int×Unit))×(Int×Unit))))(a1:Int):Bool:=(F_22 a0 a1).isSome
noncomputable def Sp.v_22(a0:((((List Int)×((List Int)×(Int×Unit)))×((List Int)×Unit))×((Int×(Int×Unit))×(Int×Unit))))(a1:Int):((((List Int)×((List Int)×(Int×Unit)))×((List Int)×Unit))×((Int×(Int×Unit))×(Int×Unit)))×Unit:=(F_22 a0 a1).getD (dfH R_22)
noncomputable def s_22:Summ:=shS A_22 R_22 (fun x=>p_22 x.1 x.2.1) (fun x=>v_22 x.1 x.2.1)
theorem pv_22(a0:((((List Int)×((List Int)×(Int×Unit)))×((List Int)×Unit))×((Int×(Int×Unit))×(Int×Unit))))(a1:Int){y:((((List Int)×((List Int)×(Int×Unit)))×((List Int)×Unit))×((Int×(Int×Unit))×(Int×Unit)))×Unit}(h:F_22 a0 a1=some y):p_22 a0 a1=true/\v_22 a0 a1=y:=pvG h
theorem run_22(x:HDen A_22)(y:HDen R_22)(h:F_22 x.1 x.2.1=some y):rnF sm_22 1 22 A_22 R_22 x y:=runG noO_ok (os:=[]) trivial (Eq.trans (by kernel_rfl) h)
end
noncomputable section
abbrev A_69:List Ty:=[(.pair (.pair (.pair (.slice (.int .u32)) (.pair (.slice (.int .i64)) (.pair (.int .i64) .unit))) (.pair (.arr 32 (.int .u8)) .unit)) (.pair (.pair (.int .i64) (.pair (.int .u32) .unit)) (.pair (.int .i64) .unit))),(.pair (.int .i64) (.pair (.int .i64) (.pair (.int .i64) (.pair (.pair (.int .i64) (.pair (.int .i64) (.pair (.arr 32 (.int .u8)) (.pair (.pair (.int .i64) (.pair (.slice (.arr 32 (.int .u8))) (.pair (.slice (.arr 32 (.int .u8))) .unit))) .unit)))) .unit)))),(.slice (.int .u32))]
abbrev R_69:List Ty:=[(.pair (.pair (.pair (.slice (.int .u32)) (.pair (.slice (.int .i64)) (.pair (.int .i64) .unit))) (.pair (.arr 32 (.int .u8)) .unit)) (.pair (.pair (.int .i64) (.pair (.int .u32) .unit)) (.pair (.int .i64) .unit)))]
noncomputable def sm_69:Nat->Option Summ:=smL [(61,s_61),(62,s_62)]
noncomputable def F_69(a0:((((List Int)×((List Int)×(Int×Unit)))×((List Int)×Unit))×((Int×(Int×Unit))×(Int×Unit))))(a1:(Int×(Int×(Int×((Int×(Int×((List Int)×((Int×((List (List Int))×((List (List Int))×Unit)))×Unit))))×Unit)))))(a2:(List Int)):Option (((((List Int)×((List Int)×(Int×Unit)))×((List Int)×Unit))×((Int×(Int×Unit))×(Int×Unit)))×Unit) :=
 gd (p_62 (a0.1) (a1.2.1)) (gd (p_61 a0 (wrap i64 (wrap i64 ((v_62 (a0.1) (a1.2.1)).1+564)+a1.2.2.1)) a2) (some ((v_61 a0 (wrap i64 (wrap i64 ((v_62 (a0.1) (a1.2.1)).1+564)+a1.2.2.1)) a2).1,PUnit.unit)))
noncomputable def Sp.p_69(a0:((((List Int)×((List Int)×(Int×Unit)))×((List Int)×Unit))×((Int×(Int×Unit))×(Int×Unit))))(a1:(Int×(Int×(Int×((Int×(Int×((List Int)×((Int×((List (List Int))×((List (List Int))×Unit)))×Unit))))×Unit)))))(a2:(List Int)):Bool:=(F_69 a0 a1 a2).isSome
noncomputable def Sp.v_69(a0:((((List Int)×((List Int)×(Int×Unit)))×((List Int)×Unit))×((Int×(Int×Unit))×(Int×Unit))))(a1:(Int×(Int×(Int×((Int×(Int×((List Int)×((Int×((List (List Int))×((List (List Int))×Unit)))×Unit))))×Unit)))))(a2:(List Int)):((((List Int)×((List Int)×(Int×Unit)))×((List Int)×Unit))×((Int×(Int×Unit))×(Int×Unit)))×Unit:=(F_69 a0 a1 a2).getD (dfH R_69)
noncomputable def s_69:Summ:=shS A_69 R_69 (fun x=>p_69 x.1 x.2.1 x.2.2.1) (fun x=>v_69 x.1 x.2.1 x.2.2.1)
theorem pv_69(a0:((((List Int)×((List Int)×(Int×Unit)))×((List Int)×Unit))×((Int×(Int×Unit))×(Int×Unit))))(a1:(Int×(Int×(Int×((Int×(Int×((List Int)×((Int×((List (List Int))×((List (List Int))×Unit)))×Unit))))×Unit)))))(a2:(List Int)){y:((((List Int)×((List Int)×(Int×Unit)))×((List Int)×Unit))×((Int×(Int×Unit))×(Int×Unit)))×Unit}(h:F_69 a0 a1 a2=some y):p_69 a0 a1 a2=true/\v_69 a0 a1 a2=y:=pvG h
theorem run_69(x:HDen A_69)(y:HDen R_69)(h:F_69 x.1 x.2.1 x.2.2.1=some y):rnF sm_69 1 69 A_69 R_69 x y:=runG noO_ok (os:=[]) trivial (Eq.trans (by kernel_rfl) h)
end
noncomputable section
abbrev A_70:List Ty:=[(.pair (.int .i64) (.pair (.int .i64) (.pair (.int .i64) (.pair (.pair (.int .i64) (.pair (.int .i64) (.pair (.arr 32 (.int .u8)) (.pair (.pair (.int .i64) (.pair (.slice (.arr 32 (.int .u8))) (.pair (.slice (.arr 32 (.int .u8))) .unit))) .unit)))) .unit))))]
abbrev R_70:List Ty:=[(.int .i64)]
noncomputable def sm_70:Nat->Option Summ:=smL []
noncomputable def F_70(a0:(Int×(Int×(Int×((Int×(Int×((List Int)×((Int×((List (List Int))×((List (List Int))×Unit)))×Unit))))×Unit))))):Option (Int×Unit) :=
 bif decide (wrap i64 (a0.2.2.2.1.2.1-a0.2.2.1)<32)then some (wrap i64 (a0.2.2.2.1.2.1-a0.2.2.1),PUnit.unit)else some (32,PUnit.unit)
noncomputable def Sp.p_70(a0:(Int×(Int×(Int×((Int×(Int×((List Int)×((Int×((List (List Int))×((List (List Int))×Unit)))×Unit))))×Unit))))):Bool:=(F_70 a0).isSome
noncomputable def Sp.v_70(a0:(Int×(Int×(Int×((Int×(Int×((List Int)×((Int×((List (List Int))×((List (List Int))×Unit)))×Unit))))×Unit))))):Int×Unit:=(F_70 a0).getD (dfH R_70)
noncomputable def s_70:Summ:=shN A_70 R_70 (fun x=>p_70 x.1) (fun x=>v_70 x.1)
theorem pv_70(a0:(Int×(Int×(Int×((Int×(Int×((List Int)×((Int×((List (List Int))×((List (List Int))×Unit)))×Unit))))×Unit))))){y:Int×Unit}(h:F_70 a0=some y):p_70 a0=true/\v_70 a0=y:=pvG h
theorem run_70(x:HDen A_70)(y:HDen R_70)(h:F_70 x.1=some y):rnF sm_70 1 70 A_70 R_70 x y:=runG noO_ok (os:=[]) trivial (Eq.trans (by kernel_rfl) h)
end
noncomputable section
abbrev A_71:List Ty:=[(.pair (.int .i64) (.pair (.int .i64) (.pair (.int .i64) (.pair (.pair (.int .i64) (.pair (.int .i64) (.pair (.arr 32 (.int .u8)) (.pair (.pair (.int .i64) (.pair (.slice (.arr 32 (.int .u8))) (.pair (.slice (.arr 32 (.int .u8))) .unit))) .unit)))) .unit))))]
abbrev R_71:List Ty:=[(.pair (.int .i64) (.pair (.int .i64) (.pair (.int .i64) (.pair (.pair (.int .i64) (.pair (.int .i64) (.pair (.arr 32 (.int .u8)) (.pair (.pair (.int .i64) (.pair (.slice (.arr 32 (.int .u8))) (.pair (.slice (.arr 32 (.int .u8))) .unit))) .unit)))) .unit))))]
noncomputable def sm_71:Nat->Option Summ:=smL [(70,s_70)]
noncomputable def F_71(a0:(Int×(Int×(Int×((Int×(Int×((List Int)×((Int×((List (List Int))×((List (List Int))×Unit)))×Unit))))×Unit))))):Option ((Int×(Int×(Int×((Int×(Int×((List Int)×((Int×((List (List Int))×((List (List Int))×Unit)))×Unit))))×Unit))))×Unit) :=
 gd (p_70 a0) (bif wrap i64 (a0.2.2.1+(v_70 a0).1)==a0.2.2.2.1.2.1 then some ((2,a0.2.1,wrap i64 (a0.2.2.1+(v_70 a0).1),a0.2.2.2),PUnit.unit)else some ((a0.1,a0.2.1,wrap i64 (a0.2.2.1+(v_70 a0).1),a0.2.2.2),PUnit.unit))
noncomputable def Sp.p_71(a0:(Int×(Int×(Int×((Int×(Int×((List Int)×((Int×((List (List Int))×((List (List Int))×Unit)))×Unit))))×Unit))))):Bool:=(F_71 a0).isSome
noncomputable def Sp.v_71(a0:(Int×(Int×(Int×((Int×(Int×((List Int)×((Int×((List (List Int))×((List (List Int))×Unit)))×Unit))))×Unit))))):(Int×(Int×(Int×((Int×(Int×((List Int)×((Int×((List (List Int))×((List (List Int))×Unit)))×Unit))))×Unit))))×Unit:=(F_71 a0).getD (dfH R_71)
noncomputable def s_71:Summ:=shS A_71 R_71 (fun x=>p_71 x.1) (fun x=>v_71 x.1)
theorem pv_71(a0:(Int×(Int×(Int×((Int×(Int×((List Int)×((Int×((List (List Int))×((List (List Int))×Unit)))×Unit))))×Unit))))){y:(Int×(Int×(Int×((Int×(Int×((List Int)×((Int×((List (List Int))×((List (List Int))×Unit)))×Unit))))×Unit))))×Unit}(h:F_71 a0=some y):p_71 a0=true/\v_71 a0=y:=pvG h
theorem run_71(x:HDen A_71)(y:HDen R_71)(h:F_71 x.1=some y):rnF sm_71 1 71 A_71 R_71 x y:=runG noO_ok (os:=[]) trivial (Eq.trans (by kernel_rfl) h)
end
noncomputable section
abbrev Zt26_0:Type:=((List Int×List Int×Int×Unit)×List Int×Unit)×(Int×Int×Unit)×Int×Unit
abbrev Zt26_1:Type:=Int×Int×Int×(Int×Int×List Int×(Int×List (List Int)×List (List Int)×Unit)×Unit)×Unit
abbrev Zy26_2:Ty:=(.pair (.int .i64) (.pair (.int .i64) (.pair (.int .i64) (.pair (.pair (.int .i64) (.pair (.int .i64) (.pair (.arr 32 (.int .u8)) (.pair (.pair (.int .i64) (.pair (.slice (.arr 32 (.int .u8))) (.pair (.slice (.arr 32 (.int .u8))) .unit))) .unit)))) .unit))))
abbrev Zy26_3:Ty:=(.pair (.pair (.pair (.slice (.int .u32)) (.pair (.slice (.int .i64)) (.pair (.int .i64) .unit))) (.pair (.arr 32 (.int .u8)) .unit)) (.pair (.pair (.int .i64) (.pair (.int .u32) .unit)) (.pair (.int .i64) .unit)))
abbrev Zy26_4:Ty:=(.pair (.pair (.int .i64) (.pair (.int .u32) .unit)) (.pair (.int .i64) .unit))
abbrev Zt26_5:Type:=(Int×Int×Unit)×Int×Unit
abbrev A_26:List Ty:=[(.pair (.pair (.pair (.slice (.int .u32)) (.pair (.slice (.int .i64)) (.pair (.int .i64) .unit))) (.pair (.arr 32 (.int .u8)) .unit)) (.pair (.pair (.int .i64) (.pair (.int .u32) .unit)) (.pair (.int .i64) .unit))),(.pair (.int .i64) (.pair (.int .i64) (.pair (.arr 32 (.int .u8)) (.pair (.pair (.int .i64) (.pair (.slice (.arr 32 (.int .u8))) (.pair (.slice (.arr 32 (.int .u8))) .unit))) .unit)))),(.slice (.int .u32))]
abbrev R_26:List Ty:=[(.pair (.pair (.pair (.slice (.int .u32)) (.pair (.slice (.int .i64)) (.pair (.int .i64) .unit))) (.pair (.arr 32 (.int .u8)) .unit)) (.pair (.pair (.int .i64) (.pair (.int .u32) .unit)) (.pair (.int .i64) .unit)))]
noncomputable def sm_26:Nat->Option Summ:=smL [(17,s_17),(18,s_18),(22,s_22),(69,s_69),(70,s_70),(71,s_71)]
noncomputable def T_26_0:PS:=⟨46,[(2,.hv (.slice (.int .u32))),(3,.kc (.ptr 0 [])),(6,.kc (.ptr 1 [])),(7,.kc (.ptr 4 []))],[.mem (.hv Zy26_3),.mem (.pr (.pr (.pr (.kc (.whole 2)) (.pr (.kc (.whole 3)) (.hv (.pair (.int .i64) .unit)))) (.hv (.pair (.arr 32 (.int .u8)) .unit))) (.hv Zy26_4)),.vec 37 (.int .u32),.vec 3 (.int .i64),.mem (.hv Zy26_2)],0⟩
inductive Sp.E_26_0 where
 |e0 (p1:Zt26_0) (p2:Int×Unit) (p3:List Int×Unit) (p4:Zt26_5) (p5 p6:List Int) (p7:Zt26_1)
noncomputable def Sp.B_26_0{R:Type}(r:Option E_26_0)(k0:Zt26_0->(Int×Unit)->(List Int×Unit)->Zt26_5->List Int->List Int->Zt26_1->Option R):Option R:=match r with
 |none=>none
 |some (.e0 p1 p2 p3 p4 p5 p6 p7)=>k0 p1 p2 p3 p4 p5 p6 p7
noncomputable def Y_26_0{R:Type}(k:Ex->St->Option R):E_26_0->Option R
 | .e0 p1 p2 p3 p4 p5 p6 p7=>k (Ex.exit 0) (sx 46 [(3,CV.ptr 0 []),(6,CV.ptr 1 []),(7,CV.ptr 4 [])] [Blk.mem (CV.pure (Ty.pair (Ty.pair (Ty.pair (Ty.slice (Ty.int u32)) (Ty.pair (Ty.slice (Ty.int i64)) (Ty.pair (Ty.int i64) Ty.unit))) (Ty.pair (Ty.arr 32 (Ty.int u8)) Ty.unit)) (Ty.pair (Ty.pair (Ty.int i64) (Ty.pair (Ty.int u32) Ty.unit)) (Ty.pair (Ty.int i64) Ty.unit))) p1),Blk.mem (CV.pair (CV.pair (CV.pair (CV.whole 2) (CV.pair (CV.whole 3) (CV.pure (Ty.pair (Ty.int i64) Ty.unit) p2))) (CV.pure (Ty.pair (Ty.arr 32 (Ty.int u8)) Ty.unit) p3)) (CV.pure (Ty.pair (Ty.pair (Ty.int i64) (Ty.pair (Ty.int u32) Ty.unit)) (Ty.pair (Ty.int i64) Ty.unit)) p4)),Blk.vec 37 (Ty.int u32) p5,Blk.vec 3 (Ty.int i64) p6,Blk.mem (CV.pure (Ty.pair (Ty.int i64) (Ty.pair (Ty.int i64) (Ty.pair (Ty.int i64) (Ty.pair (Ty.pair (Ty.int i64) (Ty.pair (Ty.int i64) (Ty.pair (Ty.arr 32 (Ty.int u8)) (Ty.pair (Ty.pair (Ty.int i64) (Ty.pair (Ty.slice (Ty.arr 32 (Ty.int u8))) (Ty.pair (Ty.slice (Ty.arr 32 (Ty.int u8))) Ty.unit))) Ty.unit)))) Ty.unit)))) p7)])
noncomputable def Sp.S_26_0{R:Type}(K:List Int->(((List Int×List Int×Int×Unit)×List Int×Unit)×(Int×Int×Unit)×Int×Unit)->(Int×Unit)->(List Int×Unit)->((Int×Int×Unit)×Int×Unit)->List Int->List Int->(Int×Int×Int×(Int×Int×List Int×(Int×List (List Int)×List (List Int)×Unit)×Unit)×Unit)->Option R)(k:E_26_0->Option R)(p0:List Int)(p1:((List Int×List Int×Int×Unit)×List Int×Unit)×(Int×Int×Unit)×Int×Unit)(p2:Int×Unit)(p3:List Int×Unit)(p4:(Int×Int×Unit)×Int×Unit)(p5 p6:List Int)(p7:Int×Int×Int×(Int×Int×List Int×(Int×List (List Int)×List (List Int)×Unit)×Unit)×Unit):Option R:=
 bif p7.1==1 then bif p1.2.2.1==0 then gd (p_70 p7) (gd (sl3 (p7.2.2.1) (wrap i64 (p7.2.2.1+(v_70 p7).1)) (↑(length p0):Int)) (gd (p_69 p1 p7 (take (toNat (wrap i64 (p7.2.2.1+(v_70 p7).1))-toNat (p7.2.2.1)) (drop (toNat (p7.2.2.1)) p0))) (gd (p_71 p7) (K p0 ((v_69 p1 p7 (take (toNat (wrap i64 (p7.2.2.1+(v_70 p7).1))-toNat (p7.2.2.1)) (drop (toNat (p7.2.2.1)) p0))).1) p2 p3 p4 p5 p6 ((v_71 p7).1)))))else k (E_26_0.e0 p1 p2 p3 p4 p5 p6 p7)else k (E_26_0.e0 p1 p2 p3 p4 p5 p6 p7)
noncomputable def Sp.L_26_0:Nat->List Int->(((List Int×List Int×Int×Unit)×List Int×Unit)×(Int×Int×Unit)×Int×Unit)->(Int×Unit)->(List Int×Unit)->((Int×Int×Unit)×Int×Unit)->List Int->List Int->(Int×Int×Int×(Int×Int×List Int×(Int×List (List Int)×List (List Int)×Unit)×Unit)×Unit)->Option E_26_0
 |0,_,_,_,_,_,_,_,_=>none
 |m+1,p0,p1,p2,p3,p4,p5,p6,p7=>S_26_0 (L_26_0 m) some p0 p1 p2 p3 p4 p5 p6 p7
noncomputable def l_26_0(m:Nat)(a:T_26_0.E):Option E_26_0:=L_26_0 m a.1 a.2.1 a.2.2.1 a.2.2.2.1 a.2.2.2.2.1 a.2.2.2.2.2.1 a.2.2.2.2.2.2.1 a.2.2.2.2.2.2.2.1
noncomputable def O_26_0{R:Type}:Orc R:=orL T_26_0 (l_26_0 FU) Y_26_0
theorem OK_26_0{R:Type}:okF (R:=R) sm_26 0 (nf 26 0) O_26_0:=lp0 T_26_0 l_26_0 (fun R K k a=>S_26_0 (fun p0 p1 p2 p3 p4 p5 p6 p7=>K (p0,p1,p2,p3,p4,p5,p6,p7,())) k a.1 a.2.1 a.2.2.1 a.2.2.2.1 a.2.2.2.2.1 a.2.2.2.2.2.1 a.2.2.2.2.2.2.1 a.2.2.2.2.2.2.2.1) Y_26_0 (fun _ _ _=>by kernel_rfl) (fun _ _ _=>by
 unfold S_26_0
 repeat' first|apply gdN|apply condN|rfl) (ok0 _)
noncomputable def T_26_1:PS:=⟨46,[(3,.kc (.ptr 0 [])),(6,.kc (.ptr 1 [])),(7,.kc (.ptr 4 []))],[.mem (.hv Zy26_3),.mem (.pr (.pr (.pr (.kc (.whole 2)) (.pr (.kc (.whole 3)) (.hv (.pair (.int .i64) .unit)))) (.hv (.pair (.arr 32 (.int .u8)) .unit))) (.hv Zy26_4)),.vec 37 (.int .u32),.vec 3 (.int .i64),.mem (.hv Zy26_2)],0⟩
inductive Sp.E_26_1 where
 |e0 (p0:Zt26_0)
 |e1 (p0:Zt26_0) (p6:Zt26_1)
noncomputable def Sp.B_26_1{R:Type}(r:Option E_26_1)(k0:Zt26_0->Option R)(k1:Zt26_0->Zt26_1->Option R):Option R:=match r with
 |none=>none
 |some (.e0 p0)=>k0 p0
 |some (.e1 p0 p6)=>k1 p0 p6
noncomputable def Y_26_1{R:Type}(k:Ex->St->Option R):E_26_1->Option R
 | .e0 p0=>k Ex.ret (sx 46 [(6,CV.ptr 0 [])] [Blk.mem (CV.pure (Ty.pair (Ty.pair (Ty.pair (Ty.slice (Ty.int u32)) (Ty.pair (Ty.slice (Ty.int i64)) (Ty.pair (Ty.int i64) Ty.unit))) (Ty.pair (Ty.arr 32 (Ty.int u8)) Ty.unit)) (Ty.pair (Ty.pair (Ty.int i64) (Ty.pair (Ty.int u32) Ty.unit)) (Ty.pair (Ty.int i64) Ty.unit))) p0)])
 | .e1 p0 p6=>k Ex.ret (sx 46 [(6,CV.ptr 0 [])] [Blk.mem (CV.pure (Ty.pair (Ty.pair (Ty.pair (Ty.slice (Ty.int u32)) (Ty.pair (Ty.slice (Ty.int i64)) (Ty.pair (Ty.int i64) Ty.unit))) (Ty.pair (Ty.arr 32 (Ty.int u8)) Ty.unit)) (Ty.pair (Ty.pair (Ty.int i64) (Ty.pair (Ty.int u32) Ty.unit)) (Ty.pair (Ty.int i64) Ty.unit))) (((v_22 p0 (p6.2.1)).1):((((List Int)×((List Int)×(Int×Unit)))×((List Int)×Unit))×((Int×(Int×Unit))×(Int×Unit)))))])
noncomputable def Sp.S_26_1{R:Type}(k:E_26_1->Option R)(p0:((List Int×List Int×Int×Unit)×List Int×Unit)×(Int×Int×Unit)×Int×Unit)(p1:Int×Unit)(p2:List Int×Unit)(p3:(Int×Int×Unit)×Int×Unit)(p4 p5:List Int)(p6:Int×Int×Int×(Int×Int×List Int×(Int×List (List Int)×List (List Int)×Unit)×Unit)×Unit):Option R:=
 bif p0.2.2.1 !=0 then k (E_26_1.e0 p0)else gd (p_22 p0 (p6.2.1)) (k (E_26_1.e1 p0 p6))
noncomputable def Sp.J_26_1(p0:((List Int×List Int×Int×Unit)×List Int×Unit)×(Int×Int×Unit)×Int×Unit)(p1:Int×Unit)(p2:List Int×Unit)(p3:(Int×Int×Unit)×Int×Unit)(p4 p5:List Int)(p6:Int×Int×Int×(Int×Int×List Int×(Int×List (List Int)×List (List Int)×Unit)×Unit)×Unit):Option E_26_1:=S_26_1 some p0 p1 p2 p3 p4 p5 p6
noncomputable def O_26_1{R:Type}:Orc R:=orL T_26_1 (fun a=>J_26_1 a.1 a.2.1 a.2.2.1 a.2.2.2.1 a.2.2.2.2.1 a.2.2.2.2.2.1 a.2.2.2.2.2.2.1) Y_26_1
theorem OK_26_1{R:Type}:okF (R:=R) sm_26 0 (nf 26 1) O_26_1:=jp noO_ok (os:=[]) trivial T_26_1 (fun R k a=>S_26_1 k a.1 a.2.1 a.2.2.1 a.2.2.2.1 a.2.2.2.2.1 a.2.2.2.2.2.1 a.2.2.2.2.2.2.1) Y_26_1 (fun k a=>by kernel_rfl) (fun Y a=>by
 unfold S_26_1
 repeat' first|apply gdN|apply condN|rfl) (ok0 _)
noncomputable def F_26(a0:((((List Int)×((List Int)×(Int×Unit)))×((List Int)×Unit))×((Int×(Int×Unit))×(Int×Unit))))(a1:(Int×(Int×((List Int)×((Int×((List (List Int))×((List (List Int))×Unit)))×Unit)))))(a2:(List Int)):Option (((((List Int)×((List Int)×(Int×Unit)))×((List Int)×Unit))×((Int×(Int×Unit))×(Int×Unit)))×Unit) :=
 gd (p_18 (a0.1)) (gd (p_17 a0 a1) (B_26_0 (L_26_0 4611686018427387904 a2 ((v_17 a0 a1).1) (0,PUnit.unit) (replicate 32 (0:Int),PUnit.unit) ((0,0,PUnit.unit),0,PUnit.unit) [] [] (1,(v_18 (a0.1)).1,0,a1,PUnit.unit)) fun y10 y11 y12 y13 y14 y15 y16=>B_26_1 (J_26_1 y10 y11 y12 y13 y14 y15 y16) (fun y17=>some (y17,PUnit.unit)) fun y18 y19=>some ((v_22 y18 (y19.2.1)).1,PUnit.unit)))
noncomputable def Sp.p_26(a0:((((List Int)×((List Int)×(Int×Unit)))×((List Int)×Unit))×((Int×(Int×Unit))×(Int×Unit))))(a1:(Int×(Int×((List Int)×((Int×((List (List Int))×((List (List Int))×Unit)))×Unit)))))(a2:(List Int)):Bool:=(F_26 a0 a1 a2).isSome
noncomputable def Sp.v_26(a0:((((List Int)×((List Int)×(Int×Unit)))×((List Int)×Unit))×((Int×(Int×Unit))×(Int×Unit))))(a1:(Int×(Int×((List Int)×((Int×((List (List Int))×((List (List Int))×Unit)))×Unit)))))(a2:(List Int)):((((List Int)×((List Int)×(Int×Unit)))×((List Int)×Unit))×((Int×(Int×Unit))×(Int×Unit)))×Unit:=(F_26 a0 a1 a2).getD (dfH R_26)
noncomputable def s_26:Summ:=shS A_26 R_26 (fun x=>p_26 x.1 x.2.1 x.2.2.1) (fun x=>v_26 x.1 x.2.1 x.2.2.1)
theorem pv_26(a0:((((List Int)×((List Int)×(Int×Unit)))×((List Int)×Unit))×((Int×(Int×Unit))×(Int×Unit))))(a1:(Int×(Int×((List Int)×((Int×((List (List Int))×((List (List Int))×Unit)))×Unit)))))(a2:(List Int)){y:((((List Int)×((List Int)×(Int×Unit)))×((List Int)×Unit))×((Int×(Int×Unit))×(Int×Unit)))×Unit}(h:F_26 a0 a1 a2=some y):p_26 a0 a1 a2=true/\v_26 a0 a1 a2=y:=pvG h
theorem run_26(x:HDen A_26)(y:HDen R_26)(h:F_26 x.1 x.2.1 x.2.2.1=some y):rnF sm_26 1 26 A_26 R_26 x y:=runG noO_ok (os:=[O_26_0,O_26_1]) ⟨OK_26_0,OK_26_1,trivial⟩ (Eq.trans (by kernel_rfl) h)
end
noncomputable section
abbrev A_59:List Ty:=[(.pair (.int .i64) (.pair (.int .i64) (.pair (.int .i64) (.pair (.pair (.int .i64) (.pair (.int .i64) (.pair (.arr 32 (.int .u8)) (.pair (.pair (.int .i64) (.pair (.slice (.arr 32 (.int .u8))) (.pair (.slice (.arr 32 (.int .u8))) .unit))) .unit)))) .unit)))),(.pair (.int .i64) (.pair (.int .i64) (.pair (.int .i64) (.pair (.pair (.int .i64) (.pair (.int .i64) (.pair (.arr 32 (.int .u8)) (.pair (.pair (.int .i64) (.pair (.slice (.arr 32 (.int .u8))) (.pair (.slice (.arr 32 (.int .u8))) .unit))) .unit)))) .unit))))]
abbrev R_59:List Ty:=[.bool]
noncomputable def sm_59:Nat->Option Summ:=smL [(80,s_80)]
noncomputable def F_59(a0:(Int×(Int×(Int×((Int×(Int×((List Int)×((Int×((List (List Int))×((List (List Int))×Unit)))×Unit))))×Unit)))))(a1:(Int×(Int×(Int×((Int×(Int×((List Int)×((Int×((List (List Int))×((List (List Int))×Unit)))×Unit))))×Unit))))):Option (Bool×Unit) :=
 bif a0.1==a1.1 then bif a0.2.1==a1.2.1 then bif a0.2.2.1==a1.2.2.1 then gd (p_80 (a0.2.2.2.1) (a1.2.2.2.1)) (some ((v_80 (a0.2.2.2.1) (a1.2.2.2.1)).1,PUnit.unit))else some (false,PUnit.unit)else some (false,PUnit.unit)else some (false,PUnit.unit)
noncomputable def Sp.p_59(a0:(Int×(Int×(Int×((Int×(Int×((List Int)×((Int×((List (List Int))×((List (List Int))×Unit)))×Unit))))×Unit)))))(a1:(Int×(Int×(Int×((Int×(Int×((List Int)×((Int×((List (List Int))×((List (List Int))×Unit)))×Unit))))×Unit))))):Bool:=(F_59 a0 a1).isSome
noncomputable def Sp.v_59(a0:(Int×(Int×(Int×((Int×(Int×((List Int)×((Int×((List (List Int))×((List (List Int))×Unit)))×Unit))))×Unit)))))(a1:(Int×(Int×(Int×((Int×(Int×((List Int)×((Int×((List (List Int))×((List (List Int))×Unit)))×Unit))))×Unit))))):Bool×Unit:=(F_59 a0 a1).getD (dfH R_59)
noncomputable def s_59:Summ:=shN A_59 R_59 (fun x=>p_59 x.1 x.2.1) (fun x=>v_59 x.1 x.2.1)
theorem pv_59(a0:(Int×(Int×(Int×((Int×(Int×((List Int)×((Int×((List (List Int))×((List (List Int))×Unit)))×Unit))))×Unit)))))(a1:(Int×(Int×(Int×((Int×(Int×((List Int)×((Int×((List (List Int))×((List (List Int))×Unit)))×Unit))))×Unit))))){y:Bool×Unit}(h:F_59 a0 a1=some y):p_59 a0 a1=true/\v_59 a0 a1=y:=pvG h
theorem run_59(x:HDen A_59)(y:HDen R_59)(h:F_59 x.1 x.2.1=some y):rnF sm_59 1 59 A_59 R_59 x y:=runG noO_ok (os:=[]) trivial (Eq.trans (by kernel_rfl) h)
end
end Go.Ev
