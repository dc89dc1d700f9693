/- Helpers: functions of the program as Lean functions, and what they compute. No condition. -/
import Derived.Test.YtabdddcgjocmnaaProg
import Derived.WalkKit
import Derived.Test.YtabdddcgjocmnaaE3P3
import Derived.Test.YtabdddcgjocmnaaE3P2
set_option maxRecDepth 10000
set_option linter.unusedVariables false
set_option linter.unusedSimpArgs false
open Go.IntKind (wrap i64 i32 i16 i8 u64 u32 u16 u8)
open List (getD length take drop replicate)
open Int (toNat)
open Go.Ev.Sp
namespace Go.Ev
open Go Go.Proofs Go.RowKit
abbrev Zd0:=(Ty.dflt (.pair (.int .i64) (.pair (.int .i64) (.pair (.int .i64) (.pair (.int .i64) (.pair (.int .i64) (.pair (.int .i64) (.pair .bool (.pair (.int .i64) .unit)))))))))
abbrev Zd1:=(Ty.dflt (.pair (.int .i64) (.pair (.int .i64) (.pair (.int .i64) (.pair (.int .i64) (.pair (.int .i64) (.pair (.slice (.int .i64)) (.pair (.int .i64) .unit))))))))
set_option maxRecDepth 100000
noncomputable section
noncomputable def smB:Nat->Bool:=fun f=>[4,5,6,7,8,9,10,11,12,13,14,16,17,18,19,20,22,23,24,25,26,27,28,29,30,31,32,34,35,36,37,38,39,40,42,48,49,50,51,52,54,55,56,57,58,59,60,61,62,64,65,66,67,70,71].contains f
noncomputable def wF:Nat->Nat:=fun f=>bif Nat.beq f 21 then 14 else bif Nat.beq f 45 then 10 else bif Nat.beq f 46 then 8 else bif Nat.beq f 47 then 8 else bif Nat.beq f 8 then 14 else 0
noncomputable def cF:Nat->Bool:=fun f=>false
noncomputable def dF:Nat->Bool:=fun f=>[].contains f
noncomputable def fns:Nat->Option IFn:=fnsP Try.prog smB wF cF dF
theorem hm0:Try.prog.follows .mixedOrders=true:=by kernel_rfl
abbrev s_17:Summ:=codesS
abbrev s_24:Summ:=vecS (.int .u8) 5 1
abbrev okF{R:Type}(sm:Nat->Option Summ)(d:Nat)(c:IC)(o:Orc R):Prop:=okN sm FU (evFn sm fns FU d) c o
abbrev nf(f i:Nat):IC:=nd (fB fns f) i
abbrev nr(f i:Nat):IC:=nd (fR fns f).2.2 i
abbrev ni(c:IC)(i:Nat):IC:=nd (inner c) i
abbrev rnF(sm:Nat->Option Summ)(n f:Nat)(A R:List Ty)(x:HDen A)(y:HDen R):Prop:=evFn sm fns FU n f (ofH A x) [] (pureK R)=some y
end
set_option maxHeartbeats 4000000
set_option linter.unusedVariables false
noncomputable section
abbrev A_22:List Ty:=[(.slice (.int .u8))]
abbrev R_22:List Ty:=[.bool]
noncomputable def sm_22:Nat->Option Summ:=smL []
noncomputable def F_22(a0:(List Int)):Option (Bool×Unit) :=
 bif decide ((↑(length a0):Int)>=1)then some (decide ((↑(length a0):Int)<=1023),PUnit.unit)else some (false,PUnit.unit)
noncomputable def Sp.p_22(a0:(List Int)):Bool:=(F_22 a0).isSome
noncomputable def Sp.v_22(a0:(List Int)):Bool×Unit:=(F_22 a0).getD (dfH R_22)
noncomputable def s_22:Summ:=shN A_22 R_22 (fun x=>p_22 x.1) (fun x=>v_22 x.1)
theorem pv_22(a0:(List Int)){y:Bool×Unit}(h:F_22 a0=some y):p_22 a0=true/\v_22 a0=y:=pvG h
theorem run_22(x:HDen A_22)(y:HDen R_22)(h:F_22 x.1=some y):rnF sm_22 1 22 A_22 R_22 x y:=runG noO_ok (os:=[]) trivial (Eq.trans (by kernel_rfl) h)
end
noncomputable section
abbrev A_23:List Ty:=[(.int .i64)]
abbrev R_23:List Ty:=[.bool]
noncomputable def sm_23:Nat->Option Summ:=smL []
noncomputable def F_23(a0:Int):Option (Bool×Unit) :=
 bif decide (a0>=0)then some (decide (a0<=1099511627776),PUnit.unit)else some (false,PUnit.unit)
noncomputable def Sp.p_23(a0:Int):Bool:=(F_23 a0).isSome
noncomputable def Sp.v_23(a0:Int):Bool×Unit:=(F_23 a0).getD (dfH R_23)
noncomputable def s_23:Summ:=shN A_23 R_23 (fun x=>p_23 x.1) (fun x=>v_23 x.1)
theorem pv_23(a0:Int){y:Bool×Unit}(h:F_23 a0=some y):p_23 a0=true/\v_23 a0=y:=pvG h
theorem run_23(x:HDen A_23)(y:HDen R_23)(h:F_23 x.1=some y):rnF sm_23 1 23 A_23 R_23 x y:=runG noO_ok (os:=[]) trivial (Eq.trans (by kernel_rfl) h)
end
noncomputable section
abbrev A_25:List Ty:=[(.slice (.int .u8))]
abbrev R_25:List Ty:=[(.slice (.int .u8))]
noncomputable def sm_25:Nat->Option Summ:=smL []
noncomputable def F_25(a0:(List Int)):Option ((List Int)×Unit) :=
 some (over (replicate 8 (0:Int)) 0 (take 8 a0),PUnit.unit)
noncomputable def Sp.p_25(a0:(List Int)):Bool:=(F_25 a0).isSome
noncomputable def Sp.v_25(a0:(List Int)):(List Int)×Unit:=(F_25 a0).getD (dfH R_25)
noncomputable def s_25:Summ:=shS A_25 R_25 (fun x=>p_25 x.1) (fun x=>v_25 x.1)
theorem pv_25(a0:(List Int)){y:(List Int)×Unit}(h:F_25 a0=some y):p_25 a0=true/\v_25 a0=y:=pvG h
theorem run_25(x:HDen A_25)(y:HDen R_25)(h:F_25 x.1=some y):rnF sm_25 1 25 A_25 R_25 x y:=runG noO_ok (os:=[]) trivial (Eq.trans (by kernel_rfl) h)
end
noncomputable section
abbrev A_9:List Ty:=[(.slice (.int .u8)),(.int .i64)]
abbrev R_9:List Ty:=[(.pair (.slice (.int .u8)) (.pair (.int .i64) (.pair (.int .i64) (.pair (.int .i64) (.pair (.int .i64) (.pair .bool (.pair (.int .i64) (.pair (.int .i64) (.pair .bool .unit))))))))),(.slice (.int .u8)),(.int .i64)]
noncomputable def sm_9:Nat->Option Summ:=smL [(22,s_22),(23,s_23),(24,s_24),(25,s_25)]
noncomputable def F_9(a0:(List Int))(a1:Int):Option (((List Int)×(Int×(Int×(Int×(Int×(Bool×(Int×(Int×(Bool×Unit)))))))))×(List Int)×Int×Unit) :=
 gd (p_22 a0) (bif !(v_22 a0).1 then some (([],0,0,0,0,false,0,0,false,PUnit.unit),[],1,PUnit.unit)else gd (p_23 a1) (bif !(v_23 a1).1 then some (([],0,0,0,0,false,0,0,false,PUnit.unit),[],2,PUnit.unit)else gd (room (length a0) 1) (bif decide ((↑(length a0):Int)<=7)then gd (room (1+length a0) 1) (gd (p_25 ([wrap u8 (↑(length a0):Int)]++a0)) (some ((a0,(↑(length a0):Int),0,0,0,false,0,0,false,PUnit.unit),(v_25 ([wrap u8 (↑(length a0):Int)]++a0)).1,0,PUnit.unit)))else gd (sl3 0 6 (↑(length a0):Int)) (gd (room (2+length (take 6 (drop 0 a0))) 1) (gd (p_25 ([wrap u8 (Sp.orI i64 16 (Int.fdiv (↑(length a0):Int) 256)),wrap u8 (↑(length a0):Int)]++take 6 (drop 0 a0))) (some ((a0,6,1,0,0,true,0,wrap i64 (a1+1000000),false,PUnit.unit),(v_25 ([wrap u8 (Sp.orI i64 16 (Int.fdiv (↑(length a0):Int) 256)),wrap u8 (↑(length a0):Int)]++take 6 (drop 0 a0))).1,0,PUnit.unit)))))))
noncomputable def Sp.p_9(a0:(List Int))(a1:Int):Bool:=(F_9 a0 a1).isSome
noncomputable def Sp.v_9(a0:(List Int))(a1:Int):((List Int)×(Int×(Int×(Int×(Int×(Bool×(Int×(Int×(Bool×Unit)))))))))×(List Int)×Int×Unit:=(F_9 a0 a1).getD (dfH R_9)
noncomputable def s_9:Summ:=shS A_9 R_9 (fun x=>p_9 x.1 x.2.1) (fun x=>v_9 x.1 x.2.1)
theorem pv_9(a0:(List Int))(a1:Int){y:((List Int)×(Int×(Int×(Int×(Int×(Bool×(Int×(Int×(Bool×Unit)))))))))×(List Int)×Int×Unit}(h:F_9 a0 a1=some y):p_9 a0 a1=true/\v_9 a0 a1=y:=pvG h
theorem run_9(x:HDen A_9)(y:HDen R_9)(h:F_9 x.1 x.2.1=some y):rnF sm_9 1 9 A_9 R_9 x y:=runG noO_ok (os:=[]) trivial (Eq.trans (by kernel_rfl) h)
end
noncomputable section
abbrev A_5:List Ty:=[(.slice (.int .u8)),(.slice (.int .u8))]
abbrev R_5:List Ty:=[.bool]
noncomputable def sm_5:Nat->Option Summ:=smL []
noncomputable def F_5(a0 a1:(List Int)):Option (Bool×Unit) :=
 some (a0==a1,PUnit.unit)
noncomputable def Sp.p_5(a0 a1:(List Int)):Bool:=(F_5 a0 a1).isSome
noncomputable def Sp.v_5(a0 a1:(List Int)):Bool×Unit:=(F_5 a0 a1).getD (dfH R_5)
noncomputable def s_5:Summ:=shN A_5 R_5 (fun x=>p_5 x.1 x.2.1) (fun x=>v_5 x.1 x.2.1)
theorem pv_5(a0 a1:(List Int)){y:Bool×Unit}(h:F_5 a0 a1=some y):p_5 a0 a1=true/\v_5 a0 a1=y:=pvG h
theorem run_5(x:HDen A_5)(y:HDen R_5)(h:F_5 x.1 x.2.1=some y):rnF sm_5 1 5 A_5 R_5 x y:=runG noO_ok (os:=[]) trivial (Eq.trans (by kernel_rfl) h)
end
noncomputable section
abbrev A_66:List Ty:=[(.int .i64),(.int .i64),(.int .i64)]
abbrev R_66:List Ty:=[.bool]
noncomputable def sm_66:Nat->Option Summ:=smL []
noncomputable def F_66(a0 a1 a2:Int):Option (Bool×Unit) :=
 bif decide (a0>=a1)then some (decide (a0<=a2),PUnit.unit)else some (false,PUnit.unit)
noncomputable def Sp.p_66(a0 a1 a2:Int):Bool:=(F_66 a0 a1 a2).isSome
noncomputable def Sp.v_66(a0 a1 a2:Int):Bool×Unit:=(F_66 a0 a1 a2).getD (dfH R_66)
noncomputable def s_66:Summ:=shN A_66 R_66 (fun x=>p_66 x.1 x.2.1 x.2.2.1) (fun x=>v_66 x.1 x.2.1 x.2.2.1)
theorem run_66(x:HDen A_66)(y:HDen R_66)(h:F_66 x.1 x.2.1 x.2.2.1=some y):rnF sm_66 1 66 A_66 R_66 x y:=runG noO_ok (os:=[]) trivial (Eq.trans (by kernel_rfl) h)
end
noncomputable section
abbrev A_71:List Ty:=[(.int .u8)]
abbrev R_71:List Ty:=[.bool]
noncomputable def sm_71:Nat->Option Summ:=smL []
noncomputable def F_71(a0:Int):Option (Bool×Unit) :=
 bif decide (a0>=65)then bif decide (a0<=90)then some (true,PUnit.unit)else bif decide (a0>=97)then some (decide (a0<=122),PUnit.unit)else some (false,PUnit.unit)else bif decide (a0>=97)then some (decide (a0<=122),PUnit.unit)else some (false,PUnit.unit)
noncomputable def Sp.p_71(a0:Int):Bool:=(F_71 a0).isSome
noncomputable def Sp.v_71(a0:Int):Bool×Unit:=(F_71 a0).getD (dfH R_71)
noncomputable def s_71:Summ:=shN A_71 R_71 (fun x=>p_71 x.1) (fun x=>v_71 x.1)
theorem run_71(x:HDen A_71)(y:HDen R_71)(h:F_71 x.1=some y):rnF sm_71 1 71 A_71 R_71 x y:=runG noO_ok (os:=[]) trivial (Eq.trans (by kernel_rfl) h)
end
noncomputable section
abbrev A_65:List Ty:=[.str]
abbrev R_65:List Ty:=[.bool]
noncomputable def sm_65:Nat->Option Summ:=smL [(66,s_66),(71,s_71)]
noncomputable def T_65_0:PS:=⟨39,[(0,.hv .str),(16,.hv (.int .i64)),(17,.hv (.int .i64))],[],0⟩
inductive Sp.E_65_0 where
 |e0
 |e1
noncomputable def Sp.B_65_0{R:Type}(r:Option E_65_0)(k0 k1:Option R):Option R:=match r with
 |none=>none
 |some (.e0)=>k0
 |some (.e1)=>k1
noncomputable def Y_65_0{R:Type}(k:Ex->St->Option R):E_65_0->Option R
 | .e0=>k Ex.ret (sx 39 [(2,CV.bool false)] [])
 | .e1=>k (Ex.exit 0) (sx 39 [] [])
noncomputable def Sp.S_65_0{R:Type}(K:List Int->Int->Int->Option R)(k:E_65_0->Option R)(p0:List Int)(p1 p2:Int):Option R:=
 bif decide (p2<p1)then gd (inB p2 (length p0)) (gd (p_71 (getD p0 (toNat p2) 0)) (bif !(v_71 (getD p0 (toNat p2) 0)).1 then bif decide (getD p0 (toNat p2) (0:Int)<(48:Int))then bif getD p0 (toNat p2) (0:Int)!=(95:Int)then k (E_65_0.e0)else K p0 p1 (wrap i64 (p2+1))else bif decide (getD p0 (toNat p2) (0:Int)>(57:Int))then bif getD p0 (toNat p2) (0:Int)!=(95:Int)then k (E_65_0.e0)else K p0 p1 (wrap i64 (p2+1))else K p0 p1 (wrap i64 (p2+1))else K p0 p1 (wrap i64 (p2+1))))else k (E_65_0.e1)
noncomputable def Sp.L_65_0:Nat->List Int->Int->Int->Option E_65_0
 |0,_,_,_=>none
 |m+1,p0,p1,p2=>S_65_0 (L_65_0 m) some p0 p1 p2
noncomputable def l_65_0(m:Nat)(a:T_65_0.E):Option E_65_0:=L_65_0 m a.1 a.2.1 a.2.2.1
noncomputable def O_65_0{R:Type}:Orc R:=orL T_65_0 (l_65_0 FU) Y_65_0
theorem OK_65_0{R:Type}:okF (R:=R) sm_65 0 (nf 65 0) O_65_0:=lp0 T_65_0 l_65_0 (fun R K k a=>S_65_0 (fun p0 p1 p2=>K (p0,p1,p2,())) k a.1 a.2.1 a.2.2.1) Y_65_0 (fun _ _ _=>by kernel_rfl) (fun _ _ _=>by
 unfold S_65_0
 repeat' first|apply gdN|apply condN|rfl) (ok0 _)
noncomputable def F_65(a0:(List Int)):Option (Bool×Unit) :=
 gd (p_66 (↑(length a0):Int) 1 24) (bif !(v_66 (↑(length a0):Int) 1 24).1 then some (false,PUnit.unit)else gd (inB 0 (length a0)) (gd (p_71 (getD a0 0 0)) (bif !(v_71 (getD a0 0 0)).1 then some (false,PUnit.unit)else B_65_0 (L_65_0 4611686018427387904 a0 (↑(length a0):Int) 0) (some (false,PUnit.unit)) (some (true,PUnit.unit)))))
noncomputable def Sp.p_65(a0:(List Int)):Bool:=(F_65 a0).isSome
noncomputable def Sp.v_65(a0:(List Int)):Bool×Unit:=(F_65 a0).getD (dfH R_65)
noncomputable def s_65:Summ:=shN A_65 R_65 (fun x=>p_65 x.1) (fun x=>v_65 x.1)
theorem run_65(x:HDen A_65)(y:HDen R_65)(h:F_65 x.1=some y):rnF sm_65 1 65 A_65 R_65 x y:=runG noO_ok (os:=[O_65_0]) ⟨OK_65_0,trivial⟩ (Eq.trans (by kernel_rfl) h)
end
noncomputable section
abbrev A_67:List Ty:=[(.pair .str (.pair (.int .i64) (.pair (.int .i64) (.pair .bool (.pair .bool (.pair (.int .i64) (.pair (.int .i64) (.pair (.int .i64) (.pair (.int .i64) (.pair (.int .i64) .unit))))))))))]
abbrev R_67:List Ty:=[(.int .i64),(.int .i64)]
noncomputable def sm_67:Nat->Option Summ:=smL []
noncomputable def F_67(a0:((List Int)×(Int×(Int×(Bool×(Bool×(Int×(Int×(Int×(Int×(Int×Unit))))))))))):Option (Int×Int×Unit) :=
 bif a0.2.2.2.2.1 then gd (decide (0<=wrap i64 (a0.2.2.1-1))) (gd (decide (0<=wrap i64 (a0.2.2.1-1))) (some (wrap i64 (0-wrap i64 ((1:Int)*(2:Int)^Nat.min (toNat (wrap i64 (a0.2.2.1-1))) 64)),wrap i64 (wrap i64 ((1:Int)*(2:Int)^Nat.min (toNat (wrap i64 (a0.2.2.1-1))) 64)-1),PUnit.unit)))else gd (decide (0<=a0.2.2.1)) (some (0,wrap i64 (wrap i64 ((1:Int)*(2:Int)^Nat.min (toNat (a0.2.2.1)) 64)-1),PUnit.unit))
noncomputable def Sp.p_67(a0:((List Int)×(Int×(Int×(Bool×(Bool×(Int×(Int×(Int×(Int×(Int×Unit))))))))))):Bool:=(F_67 a0).isSome
noncomputable def Sp.v_67(a0:((List Int)×(Int×(Int×(Bool×(Bool×(Int×(Int×(Int×(Int×(Int×Unit))))))))))):Int×Int×Unit:=(F_67 a0).getD (dfH R_67)
noncomputable def s_67:Summ:=shN A_67 R_67 (fun x=>p_67 x.1) (fun x=>v_67 x.1)
theorem run_67(x:HDen A_67)(y:HDen R_67)(h:F_67 x.1=some y):rnF sm_67 1 67 A_67 R_67 x y:=runG noO_ok (os:=[]) trivial (Eq.trans (by kernel_rfl) h)
end
noncomputable section
abbrev A_60:List Ty:=[(.pair .str (.pair (.int .i64) (.pair (.int .i64) (.pair .bool (.pair .bool (.pair (.int .i64) (.pair (.int .i64) (.pair (.int .i64) (.pair (.int .i64) (.pair (.int .i64) .unit))))))))))]
abbrev R_60:List Ty:=[.bool]
noncomputable def sm_60:Nat->Option Summ:=smL [(65,s_65),(66,s_66),(67,s_67)]
noncomputable def F_60(a0:((List Int)×(Int×(Int×(Bool×(Bool×(Int×(Int×(Int×(Int×(Int×Unit))))))))))):Option (Bool×Unit) :=
 gd (p_65 (a0.1)) (bif !(v_65 (a0.1)).1 then some (false,PUnit.unit)else gd (p_66 (a0.2.2.1) 1 32) (bif !(v_66 (a0.2.2.1) 1 32).1 then some (false,PUnit.unit)else gd (p_66 (a0.2.1) 0 63) (bif !(v_66 (a0.2.1) 0 63).1 then some (false,PUnit.unit)else gd (p_66 (a0.2.2.2.2.2.1) 1 1048576) (bif !(v_66 (a0.2.2.2.2.2.1) 1 1048576).1 then some (false,PUnit.unit)else gd (p_66 (a0.2.2.2.2.2.2.2.1) 1 1048576) (bif !(v_66 (a0.2.2.2.2.2.2.2.1) 1 1048576).1 then some (false,PUnit.unit)else gd (p_66 (a0.2.2.2.2.2.2.1) (-1073741824:Int) 1073741824) (bif !(v_66 (a0.2.2.2.2.2.2.1) (-1073741824:Int) 1073741824).1 then some (false,PUnit.unit)else gd (p_67 a0) (bif decide ((v_67 a0).1<=a0.2.2.2.2.2.2.2.2.1)then bif decide (a0.2.2.2.2.2.2.2.2.1<=a0.2.2.2.2.2.2.2.2.2.1)then some (decide (a0.2.2.2.2.2.2.2.2.2.1<=(v_67 a0).2.1),PUnit.unit)else some (false,PUnit.unit)else some (false,PUnit.unit))))))))
noncomputable def Sp.p_60(a0:((List Int)×(Int×(Int×(Bool×(Bool×(Int×(Int×(Int×(Int×(Int×Unit))))))))))):Bool:=(F_60 a0).isSome
noncomputable def Sp.v_60(a0:((List Int)×(Int×(Int×(Bool×(Bool×(Int×(Int×(Int×(Int×(Int×Unit))))))))))):Bool×Unit:=(F_60 a0).getD (dfH R_60)
noncomputable def s_60:Summ:=shN A_60 R_60 (fun x=>p_60 x.1) (fun x=>v_60 x.1)
theorem run_60(x:HDen A_60)(y:HDen R_60)(h:F_60 x.1=some y):rnF sm_60 1 60 A_60 R_60 x y:=runG noO_ok (os:=[]) trivial (Eq.trans (by kernel_rfl) h)
end
noncomputable section
abbrev A_61:List Ty:=[(.slice (.int .i64))]
abbrev R_61:List Ty:=[]
noncomputable def sm_61:Nat->Option Summ:=smL []
noncomputable def T_61_0:PS:=⟨28,[(0,.hv (.slice (.int .i64))),(2,.hv (.int .i64)),(3,.hv (.int .i64))],[],0⟩
inductive Sp.E_61_0 where
 |e0
noncomputable def Sp.B_61_0{R:Type}(r:Option E_61_0)(k0:Option R):Option R:=match r with
 |none=>none
 |some (.e0)=>k0
noncomputable def Y_61_0{R:Type}(k:Ex->St->Option R):E_61_0->Option R
 | .e0=>k (Ex.exit 0) (sx 28 [] [])
noncomputable def Sp.S_61_0{R:Type}(K:List Int->Int->Int->Option R)(k:E_61_0->Option R)(p0:List Int)(p1 p2:Int):Option R:=
 bif decide (p1<p2)then gd (inB p2 (length p0)) (gd (inB p1 (length p0)) (gd (inB p1 (length p0)) none))else k (E_61_0.e0)
noncomputable def Sp.L_61_0:Nat->List Int->Int->Int->Option E_61_0
 |0,_,_,_=>none
 |m+1,p0,p1,p2=>S_61_0 (L_61_0 m) some p0 p1 p2
noncomputable def l_61_0(m:Nat)(a:T_61_0.E):Option E_61_0:=L_61_0 m a.1 a.2.1 a.2.2.1
noncomputable def O_61_0{R:Type}:Orc R:=orL T_61_0 (l_61_0 FU) Y_61_0
theorem OK_61_0{R:Type}:okF (R:=R) sm_61 0 (nf 61 0) O_61_0:=lp0 T_61_0 l_61_0 (fun R K k a=>S_61_0 (fun p0 p1 p2=>K (p0,p1,p2,())) k a.1 a.2.1 a.2.2.1) Y_61_0 (fun _ _ _=>by kernel_rfl) (fun _ _ _=>by
 unfold S_61_0
 repeat' first|apply gdN|apply condN|rfl) (ok0 _)
noncomputable def F_61(a0:(List Int)):Option (Unit) :=
 B_61_0 (L_61_0 4611686018427387904 a0 0 (wrap i64 ((↑(length a0):Int)-1))) (some PUnit.unit)
noncomputable def Sp.p_61(a0:(List Int)):Bool:=(F_61 a0).isSome
noncomputable def Sp.v_61(a0:(List Int)):Unit:=(F_61 a0).getD (dfH R_61)
noncomputable def s_61:Summ:=shN A_61 R_61 (fun x=>p_61 x.1) (fun x=>v_61 x.1)
theorem run_61(x:HDen A_61)(y:HDen R_61)(h:F_61 x.1=some y):rnF sm_61 1 61 A_61 R_61 x y:=runG noO_ok (os:=[O_61_0]) ⟨OK_61_0,trivial⟩ (Eq.trans (by kernel_rfl) h)
end
noncomputable section
abbrev A_49:List Ty:=[(.pair .str (.pair (.int .i64) (.pair (.int .i64) (.pair .bool (.pair .bool (.pair (.int .i64) (.pair (.int .i64) (.pair (.int .i64) (.pair (.int .i64) (.pair (.int .i64) .unit))))))))))]
abbrev R_49:List Ty:=[(.slice (.int .i64))]
noncomputable def sm_49:Nat->Option Summ:=smL [(60,s_60),(61,s_61)]
noncomputable def T_49_0:PS:=⟨38,[(1,.kc (.ptr 0 [])),(3,.kc (.whole 1)),(4,.hv (.int .i64)),(11,.hv (.int .i64)),(12,.hv (.int .i64))],[.mem (.hv (.pair .str (.pair (.int .i64) (.pair (.int .i64) (.pair .bool (.pair .bool (.pair (.int .i64) (.pair (.int .i64) (.pair (.int .i64) (.pair (.int .i64) (.pair (.int .i64) .unit))))))))))),.vec 3 (.int .i64)],0⟩
inductive Sp.E_49_0 where
 |e0 (p3:List Int×Int×Int×Bool×Bool×Int×Int×Int×Int×Int×Unit) (p4:List Int)
noncomputable def Sp.B_49_0{R:Type}(r:Option E_49_0)(k0:(List Int×Int×Int×Bool×Bool×Int×Int×Int×Int×Int×Unit)->List Int->Option R):Option R:=match r with
 |none=>none
 |some (.e0 p3 p4)=>k0 p3 p4
noncomputable def Y_49_0{R:Type}(k:Ex->St->Option R):E_49_0->Option R
 | .e0 p3 p4=>k (Ex.exit 0) (sx 38 [(1,CV.ptr 0 []),(3,CV.whole 1)] [Blk.mem (CV.pure (Ty.pair Ty.str (Ty.pair (Ty.int i64) (Ty.pair (Ty.int i64) (Ty.pair Ty.bool (Ty.pair Ty.bool (Ty.pair (Ty.int i64) (Ty.pair (Ty.int i64) (Ty.pair (Ty.int i64) (Ty.pair (Ty.int i64) (Ty.pair (Ty.int i64) Ty.unit)))))))))) p3),Blk.vec 3 (Ty.int i64) p4])
noncomputable def Sp.S_49_0{R:Type}(K:Int->Int->Int->(List Int×Int×Int×Bool×Bool×Int×Int×Int×Int×Int×Unit)->List Int->Option R)(k:E_49_0->Option R)(p0 p1 p2:Int)(p3:List Int×Int×Int×Bool×Bool×Int×Int×Int×Int×Int×Unit)(p4:List Int):Option R:=
 bif decide (p2<p1)then gd (room (length p4+1) 8) (bif !p3.2.2.2.1 then K (wrap i64 (p0+1)) p1 (wrap i64 (p2+1)) p3 (p4++[p0])else bif Int.tmod p0 (8:Int)==(0:Int)then K (wrap i64 (p0+15)) p1 (wrap i64 (p2+1)) p3 (p4++[p0])else K (wrap i64 (p0-1)) p1 (wrap i64 (p2+1)) p3 (p4++[p0]))else k (E_49_0.e0 p3 p4)
noncomputable def Sp.L_49_0:Nat->Int->Int->Int->(List Int×Int×Int×Bool×Bool×Int×Int×Int×Int×Int×Unit)->List Int->Option E_49_0
 |0,_,_,_,_,_=>none
 |m+1,p0,p1,p2,p3,p4=>S_49_0 (L_49_0 m) some p0 p1 p2 p3 p4
noncomputable def l_49_0(m:Nat)(a:T_49_0.E):Option E_49_0:=L_49_0 m a.1 a.2.1 a.2.2.1 a.2.2.2.1 a.2.2.2.2.1
noncomputable def O_49_0{R:Type}:Orc R:=orL T_49_0 (l_49_0 FU) Y_49_0
theorem OK_49_0{R:Type}:okF (R:=R) sm_49 0 (nf 49 0) O_49_0:=lp0 T_49_0 l_49_0 (fun R K k a=>S_49_0 (fun p0 p1 p2 p3 p4=>K (p0,p1,p2,p3,p4,())) k a.1 a.2.1 a.2.2.1 a.2.2.2.1 a.2.2.2.2.1) Y_49_0 (fun _ _ _=>by kernel_rfl) (fun _ _ _=>by
 unfold S_49_0
 repeat' first|apply gdN|apply condN|rfl) (ok0 _)
noncomputable def F_49(a0:((List Int)×(Int×(Int×(Bool×(Bool×(Int×(Int×(Int×(Int×(Int×Unit))))))))))):Option ((List Int)×Unit) :=
 gd (p_60 a0) (bif !(v_60 a0).1 then some ([],PUnit.unit)else B_49_0 (L_49_0 4611686018427387904 (a0.2.1) (a0.2.2.1) 0 a0 []) fun y2 y3=>bif y2.2.2.2.1 then gd (p_61 y3) (some (y3,PUnit.unit))else some (y3,PUnit.unit))
noncomputable def Sp.p_49(a0:((List Int)×(Int×(Int×(Bool×(Bool×(Int×(Int×(Int×(Int×(Int×Unit))))))))))):Bool:=(F_49 a0).isSome
noncomputable def Sp.v_49(a0:((List Int)×(Int×(Int×(Bool×(Bool×(Int×(Int×(Int×(Int×(Int×Unit))))))))))):(List Int)×Unit:=(F_49 a0).getD (dfH R_49)
noncomputable def s_49:Summ:=shS A_49 R_49 (fun x=>p_49 x.1) (fun x=>v_49 x.1)
theorem pv_49(a0:((List Int)×(Int×(Int×(Bool×(Bool×(Int×(Int×(Int×(Int×(Int×Unit))))))))))){y:(List Int)×Unit}(h:F_49 a0=some y):p_49 a0=true/\v_49 a0=y:=pvG h
theorem run_49(x:HDen A_49)(y:HDen R_49)(h:F_49 x.1=some y):rnF sm_49 1 49 A_49 R_49 x y:=runG noO_ok (os:=[O_49_0]) ⟨OK_49_0,trivial⟩ (Eq.trans (by kernel_rfl) h)
end
noncomputable section
abbrev Zt70_0:Type:=List Int×Int×Int×Bool×Bool×Int×Int×Int×Int×Int×Unit
abbrev Zy70_1:Ty:=(.pair (.int .i64) (.pair (.int .i64) (.pair .bool (.pair .bool (.pair (.int .i64) (.pair (.int .i64) (.pair (.int .i64) (.pair (.int .i64) (.pair (.int .i64) .unit)))))))))
abbrev Zt70_2:Type:=List Int×Int×Int×Bool×List (List Int×Int×Int×Bool×Bool×Int×Int×Int×Int×Int×Unit)×Unit
abbrev Zt70_3:Type:=List (List Int×Int×Int×Bool×Bool×Int×Int×Int×Int×Int×Unit)
abbrev A_70:List Ty:=[(.pair .str (.pair (.int .i64) (.pair (.int .i64) (.pair .bool (.pair (.slice (.pair .str (.pair (.int .i64) (.pair (.int .i64) (.pair .bool (.pair .bool (.pair (.int .i64) (.pair (.int .i64) (.pair (.int .i64) (.pair (.int .i64) (.pair (.int .i64) .unit))))))))))) .unit)))))]
abbrev R_70:List Ty:=[.str,(.int .i64)]
noncomputable def sm_70:Nat->Option Summ:=smL [(49,s_49),(60,s_60)]
noncomputable def T_70_75_0_0:PS:=⟨19,[(0,.hv (.slice (.pair .str Zy70_1))),(1,.kc (.clo 74 (.pair (.ptr 1 []) (.pure .unit PUnit.unit)))),(7,.hv (.int .i64)),(8,.hv (.int .i64))],[.mem (.hv (.pair .str (.pair (.int .i64) (.pair (.int .i64) (.pair .bool (.pair (.slice (.pair .str Zy70_1)) .unit)))))),.mem (.hv (.pair .str Zy70_1))],2⟩
inductive Sp.E_70_75_0_0 where
 |e0 (p2:Int) (p3:Zt70_2) (p4:Zt70_0)
 |e1 (p3:Zt70_2) (p4:Zt70_0)
noncomputable def Sp.B_70_75_0_0{R:Type}(r:Option E_70_75_0_0)(k0:Int->Zt70_2->Zt70_0->Option R)(k1:Zt70_2->Zt70_0->Option R):Option R:=match r with
 |none=>none
 |some (.e0 p2 p3 p4)=>k0 p2 p3 p4
 |some (.e1 p3 p4)=>k1 p3 p4
theorem Bn_70_75_0_0{A R:Type}{r:Option E_70_75_0_0}{f:A->Option R}{k0:Int->Zt70_2->Zt70_0->Option A}{k1:Zt70_2->Zt70_0->Option A}{l0:Int->Zt70_2->Zt70_0->Option R}{l1:Zt70_2->Zt70_0->Option R}(h0:∀p2 p3 p4,(k0 p2 p3 p4).bind f=l0 p2 p3 p4)(h1:∀p3 p4,(k1 p3 p4).bind f=l1 p3 p4):(B_70_75_0_0 r k0 k1).bind f=B_70_75_0_0 r l0 l1:=by
 cases r with
 |none=>rfl
 |some e=>cases e<;>first|apply h0|apply h1
noncomputable def Y_70_75_0_0{R:Type}(k:Ex->St->Option R):E_70_75_0_0->Option R
 | .e0 p2 p3 p4=>k Ex.ret (sx 19 [(4,CV.int i64 p2)] [Blk.mem (CV.pure (Ty.pair Ty.str (Ty.pair (Ty.int i64) (Ty.pair (Ty.int i64) (Ty.pair Ty.bool (Ty.pair (Ty.slice (Ty.pair Ty.str (Ty.pair (Ty.int i64) (Ty.pair (Ty.int i64) (Ty.pair Ty.bool (Ty.pair Ty.bool (Ty.pair (Ty.int i64) (Ty.pair (Ty.int i64) (Ty.pair (Ty.int i64) (Ty.pair (Ty.int i64) (Ty.pair (Ty.int i64) Ty.unit))))))))))) Ty.unit))))) p3),Blk.mem (CV.pure (Ty.pair Ty.str (Ty.pair (Ty.int i64) (Ty.pair (Ty.int i64) (Ty.pair Ty.bool (Ty.pair Ty.bool (Ty.pair (Ty.int i64) (Ty.pair (Ty.int i64) (Ty.pair (Ty.int i64) (Ty.pair (Ty.int i64) (Ty.pair (Ty.int i64) Ty.unit)))))))))) p4)] 2)
 | .e1 p3 p4=>k (Ex.exit 0) (sx 19 [] [Blk.mem (CV.pure (Ty.pair Ty.str (Ty.pair (Ty.int i64) (Ty.pair (Ty.int i64) (Ty.pair Ty.bool (Ty.pair (Ty.slice (Ty.pair Ty.str (Ty.pair (Ty.int i64) (Ty.pair (Ty.int i64) (Ty.pair Ty.bool (Ty.pair Ty.bool (Ty.pair (Ty.int i64) (Ty.pair (Ty.int i64) (Ty.pair (Ty.int i64) (Ty.pair (Ty.int i64) (Ty.pair (Ty.int i64) Ty.unit))))))))))) Ty.unit))))) p3),Blk.mem (CV.pure (Ty.pair Ty.str (Ty.pair (Ty.int i64) (Ty.pair (Ty.int i64) (Ty.pair Ty.bool (Ty.pair Ty.bool (Ty.pair (Ty.int i64) (Ty.pair (Ty.int i64) (Ty.pair (Ty.int i64) (Ty.pair (Ty.int i64) (Ty.pair (Ty.int i64) Ty.unit)))))))))) p4)] 2)
noncomputable def Sp.S_70_75_0_0{R:Type}(K:(List (List Int×Int×Int×Bool×Bool×Int×Int×Int×Int×Int×Unit))->Int->Int->(List Int×Int×Int×Bool×List (List Int×Int×Int×Bool×Bool×Int×Int×Int×Int×Int×Unit)×Unit)->(List Int×Int×Int×Bool×Bool×Int×Int×Int×Int×Int×Unit)->Option R)(k:E_70_75_0_0->Option R)(p0:List (List Int×Int×Int×Bool×Bool×Int×Int×Int×Int×Int×Unit))(p1 p2:Int)(p3:List Int×Int×Int×Bool×List (List Int×Int×Int×Bool×Bool×Int×Int×Int×Int×Int×Unit)×Unit)(p4:List Int×Int×Int×Bool×Bool×Int×Int×Int×Int×Int×Unit):Option R:=
 bif decide (p2<p1)then gd (inB p2 (length p0)) (bif(getD p0 (toNat p2) (Ty.dflt (Ty.pair Ty.str (Ty.pair (Ty.int i64) (Ty.pair (Ty.int i64) (Ty.pair Ty.bool (Ty.pair Ty.bool (Ty.pair (Ty.int i64) (Ty.pair (Ty.int i64) (Ty.pair (Ty.int i64) (Ty.pair (Ty.int i64) (Ty.pair (Ty.int i64) Ty.unit)))))))))))).1==p4.1 then k (E_70_75_0_0.e0 p2 p3 p4)else K p0 p1 (wrap i64 (p2+1)) p3 p4)else k (E_70_75_0_0.e1 p3 p4)
noncomputable def Sp.L_70_75_0_0:Nat->(List (List Int×Int×Int×Bool×Bool×Int×Int×Int×Int×Int×Unit))->Int->Int->(List Int×Int×Int×Bool×List (List Int×Int×Int×Bool×Bool×Int×Int×Int×Int×Int×Unit)×Unit)->(List Int×Int×Int×Bool×Bool×Int×Int×Int×Int×Int×Unit)->Option E_70_75_0_0
 |0,_,_,_,_,_=>none
 |m+1,p0,p1,p2,p3,p4=>S_70_75_0_0 (L_70_75_0_0 m) some p0 p1 p2 p3 p4
noncomputable def l_70_75_0_0(m:Nat)(a:T_70_75_0_0.E):Option E_70_75_0_0:=L_70_75_0_0 m a.1 a.2.1 a.2.2.1 a.2.2.2.1 a.2.2.2.2.1
noncomputable def O_70_75_0_0{R:Type}:Orc R:=orL T_70_75_0_0 (l_70_75_0_0 FU) Y_70_75_0_0
theorem OK_70_75_0_0{R:Type}:okF (R:=R) sm_70 1 (nf 75 0) O_70_75_0_0:=lp0 T_70_75_0_0 l_70_75_0_0 (fun R K k a=>S_70_75_0_0 (fun p0 p1 p2 p3 p4=>K (p0,p1,p2,p3,p4,())) k a.1 a.2.1 a.2.2.1 a.2.2.2.1 a.2.2.2.2.1) Y_70_75_0_0 (fun _ _ _=>by kernel_rfl) (fun _ _ _=>by
 unfold S_70_75_0_0
 repeat' first|apply gdN|apply condN|rfl) (ok0 _)
noncomputable def g_70_75{R:Type}:List CV->List Blk->(CV->List Blk->Option R)->Option R:=evFnL sm_70 FU (ovr noO (evFn sm_70 fns FU 1)) (mkT (fB fns 75) [O_70_75_0_0]) (fO fns 75)
theorem g_70_75_ok{R:Type}(args:List CV)(hp:List Blk)(k:CV->List Blk->Option R)(r:R)(h:g_70_75 args hp k=some r):evFn sm_70 fns FU 2 75 args hp k=some r:=runG noO_ok (os:=[O_70_75_0_0]) ⟨OK_70_75_0_0,trivial⟩ h
noncomputable def ov_70_73{R:Type}:Nat->Option (List CV->List Blk->(CV->List Blk->Option R)->Option R):=fun f'=>bif Nat.beq f' 75 then some g_70_75 else none
theorem ov_70_73_ok{R:Type}:OvrOK (R:=R) ov_70_73 (evFn sm_70 fns FU 2):=by
 intro f' g h args hp k r hg
 dsimp only[ov_70_73]at h
 by_cases h75:f'=75
 ·subst h75
  injection h with h
  subst h
  exact evFn_le 0 (g_70_75_ok _ _ _ _ hg)
 rw[nbeq_ne h75,cond_false]at h
 cases h
noncomputable def g_70_73{R:Type}:List CV->List Blk->(CV->List Blk->Option R)->Option R:=evFnL sm_70 FU (ovr ov_70_73 (evFn sm_70 fns FU 2)) (mkT (fB fns 73) []) (fO fns 73)
theorem g_70_73_ok{R:Type}(args:List CV)(hp:List Blk)(k:CV->List Blk->Option R)(r:R)(h:g_70_73 args hp k=some r):evFn sm_70 fns FU 3 73 args hp k=some r:=runG ov_70_73_ok (os:=[]) trivial h
noncomputable def ov_70_70{R:Type}:Nat->Option (List CV->List Blk->(CV->List Blk->Option R)->Option R):=fun f'=>bif Nat.beq f' 73 then some g_70_73 else none
theorem ov_70_70_ok{R:Type}:OvrOK (R:=R) ov_70_70 (evFn sm_70 fns FU 3):=by
 intro f' g h args hp k r hg
 dsimp only[ov_70_70]at h
 by_cases h73:f'=73
 ·subst h73
  injection h with h
  subst h
  exact evFn_le 0 (g_70_73_ok _ _ _ _ hg)
 rw[nbeq_ne h73,cond_false]at h
 cases h
noncomputable def T_70_2:PS:=⟨71,[(1,.kc (.ptr 0 [])),(4,.hv (.int .u64)),(5,.hv (.int .u64)),(6,.hv (.int .i64)),(7,.kc (.ptr 1 [])),(8,.hv (.int .u64)),(15,.hv (.slice (.pair .str Zy70_1))),(16,.hv (.int .i64)),(17,.hv (.int .i64)),(28,.hv (.slice (.int .i64))),(29,.hv (.int .i64)),(30,.hv (.int .i64))],[.mem (.hv (.pair .str (.pair (.int .i64) (.pair (.int .i64) (.pair .bool (.pair (.slice (.pair .str Zy70_1)) .unit)))))),.mem (.hv (.pair .str Zy70_1))],0⟩
inductive Sp.E_70_2 where
 |e0 (p11:Zt70_0)
 |e1 (p0 p1 p2 p3:Int) (p4:Zt70_3) (p5 p6:Int) (p10:Zt70_2) (p11:Zt70_0)
noncomputable def Sp.B_70_2{R:Type}(r:Option E_70_2)(k0:Zt70_0->Option R)(k1:Int->Int->Int->Int->Zt70_3->Int->Int->Zt70_2->Zt70_0->Option R):Option R:=match r with
 |none=>none
 |some (.e0 p11)=>k0 p11
 |some (.e1 p0 p1 p2 p3 p4 p5 p6 p10 p11)=>k1 p0 p1 p2 p3 p4 p5 p6 p10 p11
theorem Bn_70_2{A R:Type}{r:Option E_70_2}{f:A->Option R}{k0:Zt70_0->Option A}{k1:Int->Int->Int->Int->Zt70_3->Int->Int->Zt70_2->Zt70_0->Option A}{l0:Zt70_0->Option R}{l1:Int->Int->Int->Int->Zt70_3->Int->Int->Zt70_2->Zt70_0->Option R}(h0:∀p11,(k0 p11).bind f=l0 p11)(h1:∀p0 p1 p2 p3 p4 p5 p6 p10 p11,(k1 p0 p1 p2 p3 p4 p5 p6 p10 p11).bind f=l1 p0 p1 p2 p3 p4 p5 p6 p10 p11):(B_70_2 r k0 k1).bind f=B_70_2 r l0 l1:=by
 cases r with
 |none=>rfl
 |some e=>cases e<;>first|apply h0|apply h1
noncomputable def Y_70_2{R:Type}(k:Ex->St->Option R):E_70_2->Option R
 | .e0 p11=>k Ex.ret (sx 71 [(2,CV.pure Ty.str (p11.1)),(3,CV.int i64 2)] [])
 | .e1 p0 p1 p2 p3 p4 p5 p6 p10 p11=>k (Ex.exit 2) (sx 71 [(1,CV.ptr 0 []),(4,CV.int u64 p0),(5,CV.int u64 p1),(6,CV.int i64 p2),(7,CV.ptr 1 []),(8,CV.int u64 p3),(15,CV.pure (Ty.slice (Ty.pair Ty.str (Ty.pair (Ty.int i64) (Ty.pair (Ty.int i64) (Ty.pair Ty.bool (Ty.pair Ty.bool (Ty.pair (Ty.int i64) (Ty.pair (Ty.int i64) (Ty.pair (Ty.int i64) (Ty.pair (Ty.int i64) (Ty.pair (Ty.int i64) Ty.unit))))))))))) p4),(16,CV.int i64 p5),(17,CV.int i64 p6)] [Blk.mem (CV.pure (Ty.pair Ty.str (Ty.pair (Ty.int i64) (Ty.pair (Ty.int i64) (Ty.pair Ty.bool (Ty.pair (Ty.slice (Ty.pair Ty.str (Ty.pair (Ty.int i64) (Ty.pair (Ty.int i64) (Ty.pair Ty.bool (Ty.pair Ty.bool (Ty.pair (Ty.int i64) (Ty.pair (Ty.int i64) (Ty.pair (Ty.int i64) (Ty.pair (Ty.int i64) (Ty.pair (Ty.int i64) Ty.unit))))))))))) Ty.unit))))) p10),Blk.mem (CV.pure (Ty.pair Ty.str (Ty.pair (Ty.int i64) (Ty.pair (Ty.int i64) (Ty.pair Ty.bool (Ty.pair Ty.bool (Ty.pair (Ty.int i64) (Ty.pair (Ty.int i64) (Ty.pair (Ty.int i64) (Ty.pair (Ty.int i64) (Ty.pair (Ty.int i64) Ty.unit)))))))))) p11)])
noncomputable def Sp.S_70_2{R:Type}(K:Int->Int->Int->Int->(List (List Int×Int×Int×Bool×Bool×Int×Int×Int×Int×Int×Unit))->Int->Int->List Int->Int->Int->(List Int×Int×Int×Bool×List (List Int×Int×Int×Bool×Bool×Int×Int×Int×Int×Int×Unit)×Unit)->(List Int×Int×Int×Bool×Bool×Int×Int×Int×Int×Int×Unit)->Option R)(k:E_70_2->Option R)(p0 p1 p2 p3:Int)(p4:List (List Int×Int×Int×Bool×Bool×Int×Int×Int×Int×Int×Unit))(p5 p6:Int)(p7:List Int)(p8 p9:Int)(p10:List Int×Int×Int×Bool×List (List Int×Int×Int×Bool×Bool×Int×Int×Int×Int×Int×Unit)×Unit)(p11:List Int×Int×Int×Bool×Bool×Int×Int×Int×Int×Int×Unit):Option R:=
 bif decide (p9<p8)then gd (inB p9 (length p7)) (bif decide (getD p7 (toNat p9) 0>=wrap i64 (8*p10.2.2.1))then k (E_70_2.e0 p11)else gd (decide (0<=getD p7 (toNat p9) 0)) (bif Sp.andI u64 (Int.fdiv p1 (2^Nat.min (toNat (getD p7 (toNat p9) 0)) 64)) (1:Int)==(1:Int)then k (E_70_2.e0 p11)else gd (decide (0<=getD p7 (toNat p9) 0)) (K p0 p1 p2 (Sp.orI u64 p3 (wrap u64 ((1:Int)*(2:Int)^Nat.min (toNat (getD p7 (toNat p9) 0)) 64))) p4 p5 p6 p7 p8 (wrap i64 (p9+1)) p10 p11)))else k (E_70_2.e1 p0 p1 p2 p3 p4 p5 p6 p10 p11)
noncomputable def Sp.L_70_2:Nat->Int->Int->Int->Int->(List (List Int×Int×Int×Bool×Bool×Int×Int×Int×Int×Int×Unit))->Int->Int->List Int->Int->Int->(List Int×Int×Int×Bool×List (List Int×Int×Int×Bool×Bool×Int×Int×Int×Int×Int×Unit)×Unit)->(List Int×Int×Int×Bool×Bool×Int×Int×Int×Int×Int×Unit)->Option E_70_2
 |0,_,_,_,_,_,_,_,_,_,_,_,_=>none
 |m+1,p0,p1,p2,p3,p4,p5,p6,p7,p8,p9,p10,p11=>S_70_2 (L_70_2 m) some p0 p1 p2 p3 p4 p5 p6 p7 p8 p9 p10 p11
noncomputable def l_70_2(m:Nat)(a:T_70_2.E):Option E_70_2:=L_70_2 m a.1 a.2.1 a.2.2.1 a.2.2.2.1 a.2.2.2.2.1 a.2.2.2.2.2.1 a.2.2.2.2.2.2.1 a.2.2.2.2.2.2.2.1 a.2.2.2.2.2.2.2.2.1 a.2.2.2.2.2.2.2.2.2.1 a.2.2.2.2.2.2.2.2.2.2.1 a.2.2.2.2.2.2.2.2.2.2.2.1
noncomputable def O_70_2{R:Type}:Orc R:=orL T_70_2 (l_70_2 FU) Y_70_2
theorem OK_70_2{R:Type}:okF (R:=R) sm_70 3 (ni (ni (nf 70 0) 0) 0) O_70_2:=lp ov_70_70_ok (os:=[]) trivial T_70_2 l_70_2 (fun R K k a=>S_70_2 (fun p0 p1 p2 p3 p4 p5 p6 p7 p8 p9 p10 p11=>K (p0,p1,p2,p3,p4,p5,p6,p7,p8,p9,p10,p11,())) k a.1 a.2.1 a.2.2.1 a.2.2.2.1 a.2.2.2.2.1 a.2.2.2.2.2.1 a.2.2.2.2.2.2.1 a.2.2.2.2.2.2.2.1 a.2.2.2.2.2.2.2.2.1 a.2.2.2.2.2.2.2.2.2.1 a.2.2.2.2.2.2.2.2.2.2.1 a.2.2.2.2.2.2.2.2.2.2.2.1) Y_70_2 (fun _=>rfl) (fun _ _=>rfl) (fun k K a=>by kernel_rfl) (fun Y K a=>by
 unfold S_70_2
 repeat' first|apply gdN|apply condN|rfl) (ok0 _)
noncomputable def T_70_1:PS:=⟨71,[(1,.kc (.ptr 0 [])),(4,.hv (.int .u64)),(5,.hv (.int .u64)),(15,.hv (.slice (.pair .str Zy70_1))),(16,.hv (.int .i64)),(17,.hv (.int .i64))],[.mem (.hv (.pair .str (.pair (.int .i64) (.pair (.int .i64) (.pair .bool (.pair (.slice (.pair .str Zy70_1)) .unit))))))],0⟩
inductive Sp.E_70_1 where
 |e0 (p2:Zt70_3) (p4:Int)
 |e1 (y15:Zt70_0)
 |e2 (y24:Zt70_0)
 |e3
noncomputable def Sp.B_70_1{R:Type}(r:Option E_70_1)(k0:Zt70_3->Int->Option R)(k1 k2:Zt70_0->Option R)(k3:Option R):Option R:=match r with
 |none=>none
 |some (.e0 p2 p4)=>k0 p2 p4
 |some (.e1 y15)=>k1 y15
 |some (.e2 y24)=>k2 y24
 |some (.e3)=>k3
theorem Bn_70_1{A R:Type}{r:Option E_70_1}{f:A->Option R}{k0:Zt70_3->Int->Option A}{k1:Zt70_0->Option A}{k2:Zt70_0->Option A}{k3:Option A}{l0:Zt70_3->Int->Option R}{l1:Zt70_0->Option R}{l2:Zt70_0->Option R}{l3:Option R}(h0:∀p2 p4,(k0 p2 p4).bind f=l0 p2 p4)(h1:∀y15,(k1 y15).bind f=l1 y15)(h2:∀y24,(k2 y24).bind f=l2 y24)(h3:(k3).bind f=l3):(B_70_1 r k0 k1 k2 k3).bind f=B_70_1 r l0 l1 l2 l3:=by
 cases r with
 |none=>rfl
 |some e=>cases e<;>first|apply h0|apply h1|apply h2|apply h3
noncomputable def Y_70_1{R:Type}(k:Ex->St->Option R):E_70_1->Option R
 | .e0 p2 p4=>k Ex.ret (sx 71 [(2,CV.pure Ty.str ((getD p2 (toNat p4) (Ty.dflt (Ty.pair Ty.str (Ty.pair (Ty.int i64) (Ty.pair (Ty.int i64) (Ty.pair Ty.bool (Ty.pair Ty.bool (Ty.pair (Ty.int i64) (Ty.pair (Ty.int i64) (Ty.pair (Ty.int i64) (Ty.pair (Ty.int i64) (Ty.pair (Ty.int i64) Ty.unit)))))))))))).1)),(3,CV.int i64 1)] [])
 | .e1 y15=>k Ex.ret (sx 71 [(2,CV.pure Ty.str (y15.1)),(3,CV.int i64 2)] [])
 | .e2 y24=>k Ex.ret (sx 71 [(2,CV.pure Ty.str (y24.1)),(3,CV.int i64 8)] [])
 | .e3=>k (Ex.exit 0) (sx 71 [] [])
noncomputable def Sp.S_70_1{R:Type}(K:Int->Int->(List (List Int×Int×Int×Bool×Bool×Int×Int×Int×Int×Int×Unit))->Int->Int->(List Int×Int×Int×Bool×List (List Int×Int×Int×Bool×Bool×Int×Int×Int×Int×Int×Unit)×Unit)->Option R)(k:E_70_1->Option R)(p0 p1:Int)(p2:List (List Int×Int×Int×Bool×Bool×Int×Int×Int×Int×Int×Unit))(p3 p4:Int)(p5:List Int×Int×Int×Bool×List (List Int×Int×Int×Bool×Bool×Int×Int×Int×Int×Int×Unit)×Unit):Option R:=
 bif decide (p4<p3)then gd (inB p4 (length p2)) (gd (p_60 (getD p2 (toNat p4) (Ty.dflt (Ty.pair Ty.str (Ty.pair (Ty.int i64) (Ty.pair (Ty.int i64) (Ty.pair Ty.bool (Ty.pair Ty.bool (Ty.pair (Ty.int i64) (Ty.pair (Ty.int i64) (Ty.pair (Ty.int i64) (Ty.pair (Ty.int i64) (Ty.pair (Ty.int i64) Ty.unit))))))))))))) (bif !(v_60 (getD p2 (toNat p4) (Ty.dflt (Ty.pair Ty.str (Ty.pair (Ty.int i64) (Ty.pair (Ty.int i64) (Ty.pair Ty.bool (Ty.pair Ty.bool (Ty.pair (Ty.int i64) (Ty.pair (Ty.int i64) (Ty.pair (Ty.int i64) (Ty.pair (Ty.int i64) (Ty.pair (Ty.int i64) Ty.unit))))))))))))).1 then k (E_70_1.e0 p2 p4)else gd (p_49 (getD p2 (toNat p4) (Ty.dflt (Ty.pair Ty.str (Ty.pair (Ty.int i64) (Ty.pair (Ty.int i64) (Ty.pair Ty.bool (Ty.pair Ty.bool (Ty.pair (Ty.int i64) (Ty.pair (Ty.int i64) (Ty.pair (Ty.int i64) (Ty.pair (Ty.int i64) (Ty.pair (Ty.int i64) Ty.unit))))))))))))) (B_70_2 (L_70_2 4611686018427387904 p0 p1 p4 0 p2 p3 p4 ((v_49 (getD p2 (toNat p4) (Ty.dflt (Ty.pair Ty.str (Ty.pair (Ty.int i64) (Ty.pair (Ty.int i64) (Ty.pair Ty.bool (Ty.pair Ty.bool (Ty.pair (Ty.int i64) (Ty.pair (Ty.int i64) (Ty.pair (Ty.int i64) (Ty.pair (Ty.int i64) (Ty.pair (Ty.int i64) Ty.unit))))))))))))).1) (↑(length ((v_49 (getD p2 (toNat p4) (Ty.dflt (Ty.pair Ty.str (Ty.pair (Ty.int i64) (Ty.pair (Ty.int i64) (Ty.pair Ty.bool (Ty.pair Ty.bool (Ty.pair (Ty.int i64) (Ty.pair (Ty.int i64) (Ty.pair (Ty.int i64) (Ty.pair (Ty.int i64) (Ty.pair (Ty.int i64) Ty.unit))))))))))))).1)):Int) 0 p5 (getD p2 (toNat p4) (Ty.dflt (Ty.pair Ty.str (Ty.pair (Ty.int i64) (Ty.pair (Ty.int i64) (Ty.pair Ty.bool (Ty.pair Ty.bool (Ty.pair (Ty.int i64) (Ty.pair (Ty.int i64) (Ty.pair (Ty.int i64) (Ty.pair (Ty.int i64) (Ty.pair (Ty.int i64) Ty.unit))))))))))))) (fun y15=>k (E_70_1.e1 y15)) fun y16 y17 y18 y19 y20 y21 y22 y23 y24=>bif Sp.andI u64 y19 y16 !=0 then k (E_70_1.e2 y24)else gd (sl3 0 y18 (↑(length (y23.2.2.2.2.1)):Int)) (B_70_75_0_0 (L_70_75_0_0 4611686018427387904 (take (toNat y18-0) (drop 0 (y23.2.2.2.2.1))) (↑(length (take (toNat y18-0) (drop 0 (y23.2.2.2.2.1)))):Int) 0 y23 y24) (fun y25 y26 y27=>bif decide (y25>=0)then k (E_70_1.e2 y27)else K (Sp.orI u64 y16 y19) y17 y20 y21 (wrap i64 (y22+1)) y26) fun y28 y29=>K (Sp.orI u64 y16 y19) y17 y20 y21 (wrap i64 (y22+1)) y28))))else k (E_70_1.e3)
noncomputable def Sp.L_70_1:Nat->Int->Int->(List (List Int×Int×Int×Bool×Bool×Int×Int×Int×Int×Int×Unit))->Int->Int->(List Int×Int×Int×Bool×List (List Int×Int×Int×Bool×Bool×Int×Int×Int×Int×Int×Unit)×Unit)->Option E_70_1
 |0,_,_,_,_,_,_=>none
 |m+1,p0,p1,p2,p3,p4,p5=>S_70_1 (L_70_1 m) some p0 p1 p2 p3 p4 p5
noncomputable def l_70_1(m:Nat)(a:T_70_1.E):Option E_70_1:=L_70_1 m a.1 a.2.1 a.2.2.1 a.2.2.2.1 a.2.2.2.2.1 a.2.2.2.2.2.1
noncomputable def O_70_1{R:Type}:Orc R:=orL T_70_1 (l_70_1 FU) Y_70_1
theorem OK_70_1{R:Type}:okF (R:=R) sm_70 3 (ni (nf 70 0) 0) O_70_1:=lp ov_70_70_ok (os:=[O_70_2]) ⟨OK_70_2,trivial⟩ T_70_1 l_70_1 (fun R K k a=>S_70_1 (fun p0 p1 p2 p3 p4 p5=>K (p0,p1,p2,p3,p4,p5,())) k a.1 a.2.1 a.2.2.1 a.2.2.2.1 a.2.2.2.2.1 a.2.2.2.2.2.1) Y_70_1 (fun _=>rfl) (fun _ _=>rfl) (fun k K a=>by kernel_rfl) (fun Y K a=>by
 unfold S_70_1
 repeat' first|apply gdN|apply condN|(apply Bn_70_2<;>intros)|(apply Bn_70_75_0_0<;>intros)|rfl) (ok0 _)
noncomputable def T_70_0:PS:=⟨71,[(1,.kc (.ptr 0 [])),(4,.hv (.int .u64))],[.mem (.hv (.pair .str (.pair (.int .i64) (.pair (.int .i64) (.pair .bool (.pair (.slice (.pair .str Zy70_1)) .unit))))))],0⟩
inductive Sp.E_70_0 where
 |e0 (y4:Zt70_3) (y5:Int)
 |e1 (y6:Zt70_0)
 |e2 (y7:Zt70_0)
 |e3
noncomputable def Sp.B_70_0{R:Type}(r:Option E_70_0)(k0:Zt70_3->Int->Option R)(k1 k2:Zt70_0->Option R)(k3:Option R):Option R:=match r with
 |none=>none
 |some (.e0 y4 y5)=>k0 y4 y5
 |some (.e1 y6)=>k1 y6
 |some (.e2 y7)=>k2 y7
 |some (.e3)=>k3
noncomputable def Y_70_0{R:Type}(k:Ex->St->Option R):E_70_0->Option R
 | .e0 y4 y5=>k Ex.ret (sx 71 [(2,CV.pure Ty.str ((getD y4 (toNat y5) (Ty.dflt (Ty.pair Ty.str (Ty.pair (Ty.int i64) (Ty.pair (Ty.int i64) (Ty.pair Ty.bool (Ty.pair Ty.bool (Ty.pair (Ty.int i64) (Ty.pair (Ty.int i64) (Ty.pair (Ty.int i64) (Ty.pair (Ty.int i64) (Ty.pair (Ty.int i64) Ty.unit)))))))))))).1)),(3,CV.int i64 1)] [])
 | .e1 y6=>k Ex.ret (sx 71 [(2,CV.pure Ty.str (y6.1)),(3,CV.int i64 2)] [])
 | .e2 y7=>k Ex.ret (sx 71 [(2,CV.pure Ty.str (y7.1)),(3,CV.int i64 8)] [])
 | .e3=>k Ex.ret (sx 71 [(2,CV.pure Ty.str []),(3,CV.int i64 0)] [])
noncomputable def Sp.S_70_0{R:Type}(k:E_70_0->Option R)(p0:Int)(p1:List Int×Int×Int×Bool×List (List Int×Int×Int×Bool×Bool×Int×Int×Int×Int×Int×Unit)×Unit):Option R:=
 B_70_1 (L_70_1 4611686018427387904 p0 p0 (p1.2.2.2.2.1) (↑(length (p1.2.2.2.2.1)):Int) 0 p1) (fun y4 y5=>k (E_70_0.e0 y4 y5)) (fun y6=>k (E_70_0.e1 y6)) (fun y7=>k (E_70_0.e2 y7)) (k (E_70_0.e3))
noncomputable def Sp.J_70_0(p0:Int)(p1:List Int×Int×Int×Bool×List (List Int×Int×Int×Bool×Bool×Int×Int×Int×Int×Int×Unit)×Unit):Option E_70_0:=S_70_0 some p0 p1
noncomputable def O_70_0{R:Type}:Orc R:=orL T_70_0 (fun a=>J_70_0 a.1 a.2.1) Y_70_0
theorem OK_70_0{R:Type}:okF (R:=R) sm_70 3 (nf 70 0) O_70_0:=jp ov_70_70_ok (os:=[O_70_1]) ⟨OK_70_1,trivial⟩ T_70_0 (fun R k a=>S_70_0 k a.1 a.2.1) Y_70_0 (fun k a=>by kernel_rfl) (fun Y a=>by
 unfold S_70_0
 repeat' first|apply gdN|apply condN|(apply Bn_70_1<;>intros)|rfl) (ok0 _)
noncomputable def F_70(a0:((List Int)×(Int×(Int×(Bool×((List ((List Int)×(Int×(Int×(Bool×(Bool×(Int×(Int×(Int×(Int×(Int×Unit)))))))))))×Unit)))))):Option ((List Int)×Int×Unit) :=
 bif a0.2.2.2.1 then B_70_0 (J_70_0 4095 a0) (fun y8 y9=>some ((getD y8 (toNat y9) (Ty.dflt (Ty.pair Ty.str (Ty.pair (Ty.int i64) (Ty.pair (Ty.int i64) (Ty.pair Ty.bool (Ty.pair Ty.bool (Ty.pair (Ty.int i64) (Ty.pair (Ty.int i64) (Ty.pair (Ty.int i64) (Ty.pair (Ty.int i64) (Ty.pair (Ty.int i64) Ty.unit)))))))))))).1,1,PUnit.unit)) (fun y10=>some (y10.1,2,PUnit.unit)) (fun y11=>some (y11.1,8,PUnit.unit)) (some ([],0,PUnit.unit))else B_70_0 (J_70_0 0 a0) (fun y12 y13=>some ((getD y12 (toNat y13) (Ty.dflt (Ty.pair Ty.str (Ty.pair (Ty.int i64) (Ty.pair (Ty.int i64) (Ty.pair Ty.bool (Ty.pair Ty.bool (Ty.pair (Ty.int i64) (Ty.pair (Ty.int i64) (Ty.pair (Ty.int i64) (Ty.pair (Ty.int i64) (Ty.pair (Ty.int i64) Ty.unit)))))))))))).1,1,PUnit.unit)) (fun y14=>some (y14.1,2,PUnit.unit)) (fun y15=>some (y15.1,8,PUnit.unit)) (some ([],0,PUnit.unit))
noncomputable def Sp.p_70(a0:((List Int)×(Int×(Int×(Bool×((List ((List Int)×(Int×(Int×(Bool×(Bool×(Int×(Int×(Int×(Int×(Int×Unit)))))))))))×Unit)))))):Bool:=(F_70 a0).isSome
noncomputable def Sp.v_70(a0:((List Int)×(Int×(Int×(Bool×((List ((List Int)×(Int×(Int×(Bool×(Bool×(Int×(Int×(Int×(Int×(Int×Unit)))))))))))×Unit)))))):(List Int)×Int×Unit:=(F_70 a0).getD (dfH R_70)
noncomputable def s_70:Summ:=shN A_70 R_70 (fun x=>p_70 x.1) (fun x=>v_70 x.1)
theorem run_70(x:HDen A_70)(y:HDen R_70)(h:F_70 x.1=some y):rnF sm_70 4 70 A_70 R_70 x y:=runG ov_70_70_ok (os:=[O_70_0]) ⟨OK_70_0,trivial⟩ (Eq.trans (by kernel_rfl) h)
end
noncomputable section
abbrev Zt64_0:Type:=List Int×Int×Int×Bool×List (List Int×Int×Int×Bool×Bool×Int×Int×Int×Int×Int×Unit)×Unit
abbrev Zt64_1:Type:=List (List Int×Int×Int×Bool×List (List Int×Int×Int×Bool×Bool×Int×Int×Int×Int×Int×Unit)×Unit)×Unit
abbrev Zt64_2:Type:=List (List Int×Int×Int×Bool×List (List Int×Int×Int×Bool×Bool×Int×Int×Int×Int×Int×Unit)×Unit)
abbrev Zy64_3:Ty:=(.pair (.int .i64) (.pair (.int .i64) (.pair .bool (.pair .bool (.pair (.int .i64) (.pair (.int .i64) (.pair (.int .i64) (.pair (.int .i64) (.pair (.int .i64) .unit)))))))))
abbrev Zt64_4:Type:=(List ((List Int)×(Int×(Int×(Bool×((List ((List Int)×(Int×(Int×(Bool×(Bool×(Int×(Int×(Int×(Int×(Int×Unit)))))))))))×Unit))))))
abbrev Zt64_5:Type:=List ((List Int)×(Int×(Int×(Bool×((List ((List Int)×(Int×(Int×(Bool×(Bool×(Int×(Int×(Int×(Int×(Int×Unit)))))))))))×Unit)))))
abbrev Zt64_6:Type:=(List ((List Int)×(Int×(Int×(Bool×(Bool×(Int×(Int×(Int×(Int×(Int×Unit)))))))))))
abbrev A_64:List Ty:=[(.pair (.slice (.pair .str (.pair (.int .i64) (.pair (.int .i64) (.pair .bool (.pair (.slice (.pair .str (.pair (.int .i64) (.pair (.int .i64) (.pair .bool (.pair .bool (.pair (.int .i64) (.pair (.int .i64) (.pair (.int .i64) (.pair (.int .i64) (.pair (.int .i64) .unit))))))))))) .unit)))))) .unit)]
abbrev R_64:List Ty:=[.str,(.int .i64)]
noncomputable def sm_64:Nat->Option Summ:=smL [(65,s_65),(66,s_66),(70,s_70)]
noncomputable def T_64_72_0_0:PS:=⟨19,[(0,.hv (.slice (.pair .str (.pair (.int .i64) (.pair (.int .i64) (.pair .bool (.pair (.slice (.pair .str Zy64_3)) .unit))))))),(1,.kc (.clo 69 (.pair (.ptr 1 []) (.pure .unit PUnit.unit)))),(7,.hv (.int .i64)),(8,.hv (.int .i64))],[.mem (.hv (.pair (.slice (.pair .str (.pair (.int .i64) (.pair (.int .i64) (.pair .bool (.pair (.slice (.pair .str Zy64_3)) .unit)))))) .unit)),.mem (.hv (.pair .str (.pair (.int .i64) (.pair (.int .i64) (.pair .bool (.pair (.slice (.pair .str Zy64_3)) .unit))))))],2⟩
inductive Sp.E_64_72_0_0 where
 |e0 (p2:Int) (p3:Zt64_1) (p4:Zt64_0)
 |e1 (p3:Zt64_1) (p4:Zt64_0)
noncomputable def Sp.B_64_72_0_0{R:Type}(r:Option E_64_72_0_0)(k0:Int->Zt64_1->Zt64_0->Option R)(k1:Zt64_1->Zt64_0->Option R):Option R:=match r with
 |none=>none
 |some (.e0 p2 p3 p4)=>k0 p2 p3 p4
 |some (.e1 p3 p4)=>k1 p3 p4
theorem Bn_64_72_0_0{A R:Type}{r:Option E_64_72_0_0}{f:A->Option R}{k0:Int->Zt64_1->Zt64_0->Option A}{k1:Zt64_1->Zt64_0->Option A}{l0:Int->Zt64_1->Zt64_0->Option R}{l1:Zt64_1->Zt64_0->Option R}(h0:∀p2 p3 p4,(k0 p2 p3 p4).bind f=l0 p2 p3 p4)(h1:∀p3 p4,(k1 p3 p4).bind f=l1 p3 p4):(B_64_72_0_0 r k0 k1).bind f=B_64_72_0_0 r l0 l1:=by
 cases r with
 |none=>rfl
 |some e=>cases e<;>first|apply h0|apply h1
noncomputable def Y_64_72_0_0{R:Type}(k:Ex->St->Option R):E_64_72_0_0->Option R
 | .e0 p2 p3 p4=>k Ex.ret (sx 19 [(4,CV.int i64 p2)] [Blk.mem (CV.pure (Ty.pair (Ty.slice (Ty.pair Ty.str (Ty.pair (Ty.int i64) (Ty.pair (Ty.int i64) (Ty.pair Ty.bool (Ty.pair (Ty.slice (Ty.pair Ty.str (Ty.pair (Ty.int i64) (Ty.pair (Ty.int i64) (Ty.pair Ty.bool (Ty.pair Ty.bool (Ty.pair (Ty.int i64) (Ty.pair (Ty.int i64) (Ty.pair (Ty.int i64) (Ty.pair (Ty.int i64) (Ty.pair (Ty.int i64) Ty.unit))))))))))) Ty.unit)))))) Ty.unit) p3),Blk.mem (CV.pure (Ty.pair Ty.str (Ty.pair (Ty.int i64) (Ty.pair (Ty.int i64) (Ty.pair Ty.bool (Ty.pair (Ty.slice (Ty.pair Ty.str (Ty.pair (Ty.int i64) (Ty.pair (Ty.int i64) (Ty.pair Ty.bool (Ty.pair Ty.bool (Ty.pair (Ty.int i64) (Ty.pair (Ty.int i64) (Ty.pair (Ty.int i64) (Ty.pair (Ty.int i64) (Ty.pair (Ty.int i64) Ty.unit))))))))))) Ty.unit))))) p4)] 2)
 | .e1 p3 p4=>k (Ex.exit 0) (sx 19 [] [Blk.mem (CV.pure (Ty.pair (Ty.slice (Ty.pair Ty.str (Ty.pair (Ty.int i64) (Ty.pair (Ty.int i64) (Ty.pair Ty.bool (Ty.pair (Ty.slice (Ty.pair Ty.str (Ty.pair (Ty.int i64) (Ty.pair (Ty.int i64) (Ty.pair Ty.bool (Ty.pair Ty.bool (Ty.pair (Ty.int i64) (Ty.pair (Ty.int i64) (Ty.pair (Ty.int i64) (Ty.pair (Ty.int i64) (Ty.pair (Ty.int i64) Ty.unit))))))))))) Ty.unit)))))) Ty.unit) p3),Blk.mem (CV.pure (Ty.pair Ty.str (Ty.pair (Ty.int i64) (Ty.pair (Ty.int i64) (Ty.pair Ty.bool (Ty.pair (Ty.slice (Ty.pair Ty.str (Ty.pair (Ty.int i64) (Ty.pair (Ty.int i64) (Ty.pair Ty.bool (Ty.pair Ty.bool (Ty.pair (Ty.int i64) (Ty.pair (Ty.int i64) (Ty.pair (Ty.int i64) (Ty.pair (Ty.int i64) (Ty.pair (Ty.int i64) Ty.unit))))))))))) Ty.unit))))) p4)] 2)
noncomputable def Sp.S_64_72_0_0{R:Type}(K:(List (List Int×Int×Int×Bool×List (List Int×Int×Int×Bool×Bool×Int×Int×Int×Int×Int×Unit)×Unit))->Int->Int->(List (List Int×Int×Int×Bool×List (List Int×Int×Int×Bool×Bool×Int×Int×Int×Int×Int×Unit)×Unit)×Unit)->(List Int×Int×Int×Bool×List (List Int×Int×Int×Bool×Bool×Int×Int×Int×Int×Int×Unit)×Unit)->Option R)(k:E_64_72_0_0->Option R)(p0:List (List Int×Int×Int×Bool×List (List Int×Int×Int×Bool×Bool×Int×Int×Int×Int×Int×Unit)×Unit))(p1 p2:Int)(p3:List (List Int×Int×Int×Bool×List (List Int×Int×Int×Bool×Bool×Int×Int×Int×Int×Int×Unit)×Unit)×Unit)(p4:List Int×Int×Int×Bool×List (List Int×Int×Int×Bool×Bool×Int×Int×Int×Int×Int×Unit)×Unit):Option R:=
 bif decide (p2<p1)then gd (inB p2 (length p0)) (bif(getD p0 (toNat p2) (Ty.dflt (Ty.pair Ty.str (Ty.pair (Ty.int i64) (Ty.pair (Ty.int i64) (Ty.pair Ty.bool (Ty.pair (Ty.slice (Ty.pair Ty.str (Ty.pair (Ty.int i64) (Ty.pair (Ty.int i64) (Ty.pair Ty.bool (Ty.pair Ty.bool (Ty.pair (Ty.int i64) (Ty.pair (Ty.int i64) (Ty.pair (Ty.int i64) (Ty.pair (Ty.int i64) (Ty.pair (Ty.int i64) Ty.unit))))))))))) Ty.unit))))))).1==p4.1 then k (E_64_72_0_0.e0 p2 p3 p4)else bif(getD p0 (toNat p2) (Ty.dflt (Ty.pair Ty.str (Ty.pair (Ty.int i64) (Ty.pair (Ty.int i64) (Ty.pair Ty.bool (Ty.pair (Ty.slice (Ty.pair Ty.str (Ty.pair (Ty.int i64) (Ty.pair (Ty.int i64) (Ty.pair Ty.bool (Ty.pair Ty.bool (Ty.pair (Ty.int i64) (Ty.pair (Ty.int i64) (Ty.pair (Ty.int i64) (Ty.pair (Ty.int i64) (Ty.pair (Ty.int i64) Ty.unit))))))))))) Ty.unit))))))).2.1==p4.2.1 then k (E_64_72_0_0.e0 p2 p3 p4)else K p0 p1 (wrap i64 (p2+1)) p3 p4)else k (E_64_72_0_0.e1 p3 p4)
noncomputable def Sp.L_64_72_0_0:Nat->(List (List Int×Int×Int×Bool×List (List Int×Int×Int×Bool×Bool×Int×Int×Int×Int×Int×Unit)×Unit))->Int->Int->(List (List Int×Int×Int×Bool×List (List Int×Int×Int×Bool×Bool×Int×Int×Int×Int×Int×Unit)×Unit)×Unit)->(List Int×Int×Int×Bool×List (List Int×Int×Int×Bool×Bool×Int×Int×Int×Int×Int×Unit)×Unit)->Option E_64_72_0_0
 |0,_,_,_,_,_=>none
 |m+1,p0,p1,p2,p3,p4=>S_64_72_0_0 (L_64_72_0_0 m) some p0 p1 p2 p3 p4
noncomputable def l_64_72_0_0(m:Nat)(a:T_64_72_0_0.E):Option E_64_72_0_0:=L_64_72_0_0 m a.1 a.2.1 a.2.2.1 a.2.2.2.1 a.2.2.2.2.1
noncomputable def O_64_72_0_0{R:Type}:Orc R:=orL T_64_72_0_0 (l_64_72_0_0 FU) Y_64_72_0_0
theorem OK_64_72_0_0{R:Type}:okF (R:=R) sm_64 1 (nf 72 0) O_64_72_0_0:=lp0 T_64_72_0_0 l_64_72_0_0 (fun R K k a=>S_64_72_0_0 (fun p0 p1 p2 p3 p4=>K (p0,p1,p2,p3,p4,())) k a.1 a.2.1 a.2.2.1 a.2.2.2.1 a.2.2.2.2.1) Y_64_72_0_0 (fun _ _ _=>by kernel_rfl) (fun _ _ _=>by
 unfold S_64_72_0_0
 repeat' first|apply gdN|apply condN|rfl) (ok0 _)
noncomputable def g_64_72{R:Type}:List CV->List Blk->(CV->List Blk->Option R)->Option R:=evFnL sm_64 FU (ovr noO (evFn sm_64 fns FU 1)) (mkT (fB fns 72) [O_64_72_0_0]) (fO fns 72)
theorem g_64_72_ok{R:Type}(args:List CV)(hp:List Blk)(k:CV->List Blk->Option R)(r:R)(h:g_64_72 args hp k=some r):evFn sm_64 fns FU 2 72 args hp k=some r:=runG noO_ok (os:=[O_64_72_0_0]) ⟨OK_64_72_0_0,trivial⟩ h
noncomputable def ov_64_68{R:Type}:Nat->Option (List CV->List Blk->(CV->List Blk->Option R)->Option R):=fun f'=>bif Nat.beq f' 72 then some g_64_72 else none
theorem ov_64_68_ok{R:Type}:OvrOK (R:=R) ov_64_68 (evFn sm_64 fns FU 2):=by
 intro f' g h args hp k r hg
 dsimp only[ov_64_68]at h
 by_cases h72:f'=72
 ·subst h72
  injection h with h
  subst h
  exact evFn_le 0 (g_64_72_ok _ _ _ _ hg)
 rw[nbeq_ne h72,cond_false]at h
 cases h
noncomputable def g_64_68{R:Type}:List CV->List Blk->(CV->List Blk->Option R)->Option R:=evFnL sm_64 FU (ovr ov_64_68 (evFn sm_64 fns FU 2)) (mkT (fB fns 68) []) (fO fns 68)
theorem g_64_68_ok{R:Type}(args:List CV)(hp:List Blk)(k:CV->List Blk->Option R)(r:R)(h:g_64_68 args hp k=some r):evFn sm_64 fns FU 3 68 args hp k=some r:=runG ov_64_68_ok (os:=[]) trivial h
noncomputable def ov_64_64{R:Type}:Nat->Option (List CV->List Blk->(CV->List Blk->Option R)->Option R):=fun f'=>bif Nat.beq f' 68 then some g_64_68 else none
theorem ov_64_64_ok{R:Type}:OvrOK (R:=R) ov_64_64 (evFn sm_64 fns FU 3):=by
 intro f' g h args hp k r hg
 dsimp only[ov_64_64]at h
 by_cases h68:f'=68
 ·subst h68
  injection h with h
  subst h
  exact evFn_le 0 (g_64_68_ok _ _ _ _ hg)
 rw[nbeq_ne h68,cond_false]at h
 cases h
noncomputable def T_64_1:PS:=⟨75,[(1,.kc (.ptr 0 [])),(4,.hv (.int .i64)),(5,.kc (.ptr 1 [])),(13,.hv (.slice (.pair .str (.pair (.int .i64) (.pair (.int .i64) (.pair .bool (.pair (.slice (.pair .str Zy64_3)) .unit))))))),(14,.hv (.int .i64)),(15,.hv (.int .i64))],[.mem (.hv (.pair (.slice (.pair .str (.pair (.int .i64) (.pair (.int .i64) (.pair .bool (.pair (.slice (.pair .str Zy64_3)) .unit)))))) .unit)),.mem (.hv (.pair .str (.pair (.int .i64) (.pair (.int .i64) (.pair .bool (.pair (.slice (.pair .str Zy64_3)) .unit))))))],0⟩
inductive Sp.E_64_1 where
 |e0 (p5:Zt64_0)
 |e1 (y15:Zt64_0)
 |e2 (p0:Int) (p1:Zt64_2) (p2 p3:Int) (p4:Zt64_1) (p5:Zt64_0) (y13:Int) (y14:Zt64_1) (y15:Zt64_0)
 |e3 (p0:Int) (p1:Zt64_2) (p2 p3:Int) (p4:Zt64_1) (p5:Zt64_0) (y16:Zt64_1) (y17:Zt64_0)
noncomputable def Sp.B_64_1{R:Type}(r:Option E_64_1)(k0 k1:Zt64_0->Option R)(k2:Int->Zt64_2->Int->Int->Zt64_1->Zt64_0->Int->Zt64_1->Zt64_0->Option R)(k3:Int->Zt64_2->Int->Int->Zt64_1->Zt64_0->Zt64_1->Zt64_0->Option R):Option R:=match r with
 |none=>none
 |some (.e0 p5)=>k0 p5
 |some (.e1 y15)=>k1 y15
 |some (.e2 p0 p1 p2 p3 p4 p5 y13 y14 y15)=>k2 p0 p1 p2 p3 p4 p5 y13 y14 y15
 |some (.e3 p0 p1 p2 p3 p4 p5 y16 y17)=>k3 p0 p1 p2 p3 p4 p5 y16 y17
theorem Bn_64_1{A R:Type}{r:Option E_64_1}{f:A->Option R}{k0:Zt64_0->Option A}{k1:Zt64_0->Option A}{k2:Int->Zt64_2->Int->Int->Zt64_1->Zt64_0->Int->Zt64_1->Zt64_0->Option A}{k3:Int->Zt64_2->Int->Int->Zt64_1->Zt64_0->Zt64_1->Zt64_0->Option A}{l0:Zt64_0->Option R}{l1:Zt64_0->Option R}{l2:Int->Zt64_2->Int->Int->Zt64_1->Zt64_0->Int->Zt64_1->Zt64_0->Option R}{l3:Int->Zt64_2->Int->Int->Zt64_1->Zt64_0->Zt64_1->Zt64_0->Option R}(h0:∀p5,(k0 p5).bind f=l0 p5)(h1:∀y15,(k1 y15).bind f=l1 y15)(h2:∀p0 p1 p2 p3 p4 p5 y13 y14 y15,(k2 p0 p1 p2 p3 p4 p5 y13 y14 y15).bind f=l2 p0 p1 p2 p3 p4 p5 y13 y14 y15)(h3:∀p0 p1 p2 p3 p4 p5 y16 y17,(k3 p0 p1 p2 p3 p4 p5 y16 y17).bind f=l3 p0 p1 p2 p3 p4 p5 y16 y17):(B_64_1 r k0 k1 k2 k3).bind f=B_64_1 r l0 l1 l2 l3:=by
 cases r with
 |none=>rfl
 |some e=>cases e<;>first|apply h0|apply h1|apply h2|apply h3
noncomputable def Y_64_1{R:Type}(k:Ex->St->Option R):E_64_1->Option R
 | .e0 p5=>k Ex.ret (sx 75 [(2,CV.pure Ty.str (p5.1)),(3,CV.int i64 5)] [])
 | .e1 y15=>k Ex.ret (sx 75 [(2,CV.pure Ty.str (y15.1)),(3,CV.int i64 8)] [])
 | .e2 p0 p1 p2 p3 p4 p5 y13 y14 y15=>k Ex.normal (sx 75 [(1,CV.ptr 0 []),(4,CV.int i64 p0),(5,CV.ptr 1 []),(13,CV.pure (Ty.slice (Ty.pair Ty.str (Ty.pair (Ty.int i64) (Ty.pair (Ty.int i64) (Ty.pair Ty.bool (Ty.pair (Ty.slice (Ty.pair Ty.str (Ty.pair (Ty.int i64) (Ty.pair (Ty.int i64) (Ty.pair Ty.bool (Ty.pair Ty.bool (Ty.pair (Ty.int i64) (Ty.pair (Ty.int i64) (Ty.pair (Ty.int i64) (Ty.pair (Ty.int i64) (Ty.pair (Ty.int i64) Ty.unit))))))))))) Ty.unit)))))) p1),(14,CV.int i64 p2),(15,CV.int i64 p3),(49,CV.bool false),(50,CV.ptr 1 [Step.f 4 4]),(51,CV.pure (Ty.slice (Ty.pair Ty.str (Ty.pair (Ty.int i64) (Ty.pair (Ty.int i64) (Ty.pair Ty.bool (Ty.pair Ty.bool (Ty.pair (Ty.int i64) (Ty.pair (Ty.int i64) (Ty.pair (Ty.int i64) (Ty.pair (Ty.int i64) (Ty.pair (Ty.int i64) Ty.unit))))))))))) ((p5.2.2.2.2.1):Zt64_6)),(52,CV.int i64 (↑(length (p5.2.2.2.2.1)):Int)),(53,CV.bool (decide ((↑(length (p5.2.2.2.2.1)):Int)>16))),(56,CV.bool false),(57,CV.ptr 0 [Step.f 0 0]),(58,CV.pure (Ty.slice (Ty.pair Ty.str (Ty.pair (Ty.int i64) (Ty.pair (Ty.int i64) (Ty.pair Ty.bool (Ty.pair (Ty.slice (Ty.pair Ty.str (Ty.pair (Ty.int i64) (Ty.pair (Ty.int i64) (Ty.pair Ty.bool (Ty.pair Ty.bool (Ty.pair (Ty.int i64) (Ty.pair (Ty.int i64) (Ty.pair (Ty.int i64) (Ty.pair (Ty.int i64) (Ty.pair (Ty.int i64) Ty.unit))))))))))) Ty.unit)))))) ((p4.1):Zt64_4)),(59,CV.int i64 p0),(60,CV.pure (Ty.slice (Ty.pair Ty.str (Ty.pair (Ty.int i64) (Ty.pair (Ty.int i64) (Ty.pair Ty.bool (Ty.pair (Ty.slice (Ty.pair Ty.str (Ty.pair (Ty.int i64) (Ty.pair (Ty.int i64) (Ty.pair Ty.bool (Ty.pair Ty.bool (Ty.pair (Ty.int i64) (Ty.pair (Ty.int i64) (Ty.pair (Ty.int i64) (Ty.pair (Ty.int i64) (Ty.pair (Ty.int i64) Ty.unit))))))))))) Ty.unit)))))) ((take (toNat p0-0) (drop 0 (p4.1))):(Zt64_5))),(61,CV.clo 69 (CV.pair (CV.ptr 1 []) (CV.pure Ty.unit PUnit.unit))),(62,CV.bool (decide (y13>=0)))] [Blk.mem (CV.pure (Ty.pair (Ty.slice (Ty.pair Ty.str (Ty.pair (Ty.int i64) (Ty.pair (Ty.int i64) (Ty.pair Ty.bool (Ty.pair (Ty.slice (Ty.pair Ty.str (Ty.pair (Ty.int i64) (Ty.pair (Ty.int i64) (Ty.pair Ty.bool (Ty.pair Ty.bool (Ty.pair (Ty.int i64) (Ty.pair (Ty.int i64) (Ty.pair (Ty.int i64) (Ty.pair (Ty.int i64) (Ty.pair (Ty.int i64) Ty.unit))))))))))) Ty.unit)))))) Ty.unit) y14),Blk.mem (CV.pure (Ty.pair Ty.str (Ty.pair (Ty.int i64) (Ty.pair (Ty.int i64) (Ty.pair Ty.bool (Ty.pair (Ty.slice (Ty.pair Ty.str (Ty.pair (Ty.int i64) (Ty.pair (Ty.int i64) (Ty.pair Ty.bool (Ty.pair Ty.bool (Ty.pair (Ty.int i64) (Ty.pair (Ty.int i64) (Ty.pair (Ty.int i64) (Ty.pair (Ty.int i64) (Ty.pair (Ty.int i64) Ty.unit))))))))))) Ty.unit))))) y15)])
 | .e3 p0 p1 p2 p3 p4 p5 y16 y17=>k Ex.normal (sx 75 [(1,CV.ptr 0 []),(4,CV.int i64 p0),(5,CV.ptr 1 []),(13,CV.pure (Ty.slice (Ty.pair Ty.str (Ty.pair (Ty.int i64) (Ty.pair (Ty.int i64) (Ty.pair Ty.bool (Ty.pair (Ty.slice (Ty.pair Ty.str (Ty.pair (Ty.int i64) (Ty.pair (Ty.int i64) (Ty.pair Ty.bool (Ty.pair Ty.bool (Ty.pair (Ty.int i64) (Ty.pair (Ty.int i64) (Ty.pair (Ty.int i64) (Ty.pair (Ty.int i64) (Ty.pair (Ty.int i64) Ty.unit))))))))))) Ty.unit)))))) p1),(14,CV.int i64 p2),(15,CV.int i64 p3),(49,CV.bool false),(50,CV.ptr 1 [Step.f 4 4]),(51,CV.pure (Ty.slice (Ty.pair Ty.str (Ty.pair (Ty.int i64) (Ty.pair (Ty.int i64) (Ty.pair Ty.bool (Ty.pair Ty.bool (Ty.pair (Ty.int i64) (Ty.pair (Ty.int i64) (Ty.pair (Ty.int i64) (Ty.pair (Ty.int i64) (Ty.pair (Ty.int i64) Ty.unit))))))))))) ((p5.2.2.2.2.1):Zt64_6)),(52,CV.int i64 (↑(length (p5.2.2.2.2.1)):Int)),(53,CV.bool (decide ((↑(length (p5.2.2.2.2.1)):Int)>16))),(56,CV.bool false),(57,CV.ptr 0 [Step.f 0 0]),(58,CV.pure (Ty.slice (Ty.pair Ty.str (Ty.pair (Ty.int i64) (Ty.pair (Ty.int i64) (Ty.pair Ty.bool (Ty.pair (Ty.slice (Ty.pair Ty.str (Ty.pair (Ty.int i64) (Ty.pair (Ty.int i64) (Ty.pair Ty.bool (Ty.pair Ty.bool (Ty.pair (Ty.int i64) (Ty.pair (Ty.int i64) (Ty.pair (Ty.int i64) (Ty.pair (Ty.int i64) (Ty.pair (Ty.int i64) Ty.unit))))))))))) Ty.unit)))))) ((p4.1):Zt64_4)),(59,CV.int i64 p0),(60,CV.pure (Ty.slice (Ty.pair Ty.str (Ty.pair (Ty.int i64) (Ty.pair (Ty.int i64) (Ty.pair Ty.bool (Ty.pair (Ty.slice (Ty.pair Ty.str (Ty.pair (Ty.int i64) (Ty.pair (Ty.int i64) (Ty.pair Ty.bool (Ty.pair Ty.bool (Ty.pair (Ty.int i64) (Ty.pair (Ty.int i64) (Ty.pair (Ty.int i64) (Ty.pair (Ty.int i64) (Ty.pair (Ty.int i64) Ty.unit))))))))))) Ty.unit)))))) ((take (toNat p0-0) (drop 0 (p4.1))):(Zt64_5))),(61,CV.clo 69 (CV.pair (CV.ptr 1 []) (CV.pure Ty.unit PUnit.unit))),(62,CV.bool false)] [Blk.mem (CV.pure (Ty.pair (Ty.slice (Ty.pair Ty.str (Ty.pair (Ty.int i64) (Ty.pair (Ty.int i64) (Ty.pair Ty.bool (Ty.pair (Ty.slice (Ty.pair Ty.str (Ty.pair (Ty.int i64) (Ty.pair (Ty.int i64) (Ty.pair Ty.bool (Ty.pair Ty.bool (Ty.pair (Ty.int i64) (Ty.pair (Ty.int i64) (Ty.pair (Ty.int i64) (Ty.pair (Ty.int i64) (Ty.pair (Ty.int i64) Ty.unit))))))))))) Ty.unit)))))) Ty.unit) y16),Blk.mem (CV.pure (Ty.pair Ty.str (Ty.pair (Ty.int i64) (Ty.pair (Ty.int i64) (Ty.pair Ty.bool (Ty.pair (Ty.slice (Ty.pair Ty.str (Ty.pair (Ty.int i64) (Ty.pair (Ty.int i64) (Ty.pair Ty.bool (Ty.pair Ty.bool (Ty.pair (Ty.int i64) (Ty.pair (Ty.int i64) (Ty.pair (Ty.int i64) (Ty.pair (Ty.int i64) (Ty.pair (Ty.int i64) Ty.unit))))))))))) Ty.unit))))) y17)])
noncomputable def Sp.S_64_1{R:Type}(k:E_64_1->Option R)(p0:Int)(p1:List (List Int×Int×Int×Bool×List (List Int×Int×Int×Bool×Bool×Int×Int×Int×Int×Int×Unit)×Unit))(p2 p3:Int)(p4:List (List Int×Int×Int×Bool×List (List Int×Int×Int×Bool×Bool×Int×Int×Int×Int×Int×Unit)×Unit)×Unit)(p5:List Int×Int×Int×Bool×List (List Int×Int×Int×Bool×Bool×Int×Int×Int×Int×Int×Unit)×Unit):Option R:=
 bif decide ((↑(length (p5.2.2.2.2.1)):Int)>16)then k (E_64_1.e0 p5)else gd (sl3 0 p0 (↑(length (p4.1)):Int)) (B_64_72_0_0 (L_64_72_0_0 4611686018427387904 (take (toNat p0-0) (drop 0 (p4.1))) (↑(length (take (toNat p0-0) (drop 0 (p4.1)))):Int) 0 p4 p5) (fun y13 y14 y15=>bif decide (y13>=0)then k (E_64_1.e1 y15)else k (E_64_1.e2 p0 p1 p2 p3 p4 p5 y13 y14 y15)) fun y16 y17=>k (E_64_1.e3 p0 p1 p2 p3 p4 p5 y16 y17))
noncomputable def Sp.J_64_1(p0:Int)(p1:List (List Int×Int×Int×Bool×List (List Int×Int×Int×Bool×Bool×Int×Int×Int×Int×Int×Unit)×Unit))(p2 p3:Int)(p4:List (List Int×Int×Int×Bool×List (List Int×Int×Int×Bool×Bool×Int×Int×Int×Int×Int×Unit)×Unit)×Unit)(p5:List Int×Int×Int×Bool×List (List Int×Int×Int×Bool×Bool×Int×Int×Int×Int×Int×Unit)×Unit):Option E_64_1:=S_64_1 some p0 p1 p2 p3 p4 p5
noncomputable def O_64_1{R:Type}:Orc R:=orL T_64_1 (fun a=>J_64_1 a.1 a.2.1 a.2.2.1 a.2.2.2.1 a.2.2.2.2.1 a.2.2.2.2.2.1) Y_64_1
theorem OK_64_1{R:Type}:okF (R:=R) sm_64 3 (ni (nf 64 0) 0) O_64_1:=jp ov_64_64_ok (os:=[]) trivial T_64_1 (fun R k a=>S_64_1 k a.1 a.2.1 a.2.2.1 a.2.2.2.1 a.2.2.2.2.1 a.2.2.2.2.2.1) Y_64_1 (fun k a=>by kernel_rfl) (fun Y a=>by
 unfold S_64_1
 repeat' first|apply gdN|apply condN|(apply Bn_64_72_0_0<;>intros)|rfl) (ok0 _)
noncomputable def T_64_0:PS:=⟨75,[(1,.kc (.ptr 0 [])),(13,.hv (.slice (.pair .str (.pair (.int .i64) (.pair (.int .i64) (.pair .bool (.pair (.slice (.pair .str Zy64_3)) .unit))))))),(14,.hv (.int .i64)),(15,.hv (.int .i64))],[.mem (.hv (.pair (.slice (.pair .str (.pair (.int .i64) (.pair (.int .i64) (.pair .bool (.pair (.slice (.pair .str Zy64_3)) .unit)))))) .unit))],0⟩
inductive Sp.E_64_0 where
 |e0 (p0:Zt64_2) (p2:Int)
 |e1 (p0:Zt64_2) (p2:Int)
 |e2 (y40:Zt64_0)
 |e3 (y41:Zt64_0)
 |e4 (y50:Zt64_0)
 |e5
noncomputable def Sp.B_64_0{R:Type}(r:Option E_64_0)(k0 k1:Zt64_2->Int->Option R)(k2 k3 k4:Zt64_0->Option R)(k5:Option R):Option R:=match r with
 |none=>none
 |some (.e0 p0 p2)=>k0 p0 p2
 |some (.e1 p0 p2)=>k1 p0 p2
 |some (.e2 y40)=>k2 y40
 |some (.e3 y41)=>k3 y41
 |some (.e4 y50)=>k4 y50
 |some (.e5)=>k5
noncomputable def Y_64_0{R:Type}(k:Ex->St->Option R):E_64_0->Option R
 | .e0 p0 p2=>k Ex.ret (sx 75 [(2,CV.pure Ty.str ((getD p0 (toNat p2) (Ty.dflt (Ty.pair Ty.str (Ty.pair (Ty.int i64) (Ty.pair (Ty.int i64) (Ty.pair Ty.bool (Ty.pair (Ty.slice (Ty.pair Ty.str (Ty.pair (Ty.int i64) (Ty.pair (Ty.int i64) (Ty.pair Ty.bool (Ty.pair Ty.bool (Ty.pair (Ty.int i64) (Ty.pair (Ty.int i64) (Ty.pair (Ty.int i64) (Ty.pair (Ty.int i64) (Ty.pair (Ty.int i64) Ty.unit))))))))))) Ty.unit))))))).1)),(3,CV.int i64 1)] [])
 | .e1 p0 p2=>k Ex.ret (sx 75 [(2,CV.pure Ty.str ((getD p0 (toNat p2) (Ty.dflt (Ty.pair Ty.str (Ty.pair (Ty.int i64) (Ty.pair (Ty.int i64) (Ty.pair Ty.bool (Ty.pair (Ty.slice (Ty.pair Ty.str (Ty.pair (Ty.int i64) (Ty.pair (Ty.int i64) (Ty.pair Ty.bool (Ty.pair Ty.bool (Ty.pair (Ty.int i64) (Ty.pair (Ty.int i64) (Ty.pair (Ty.int i64) (Ty.pair (Ty.int i64) (Ty.pair (Ty.int i64) Ty.unit))))))))))) Ty.unit))))))).1)),(3,CV.int i64 2)] [])
 | .e2 y40=>k Ex.ret (sx 75 [(2,CV.pure Ty.str (y40.1)),(3,CV.int i64 5)] [])
 | .e3 y41=>k Ex.ret (sx 75 [(2,CV.pure Ty.str (y41.1)),(3,CV.int i64 8)] [])
 | .e4 y50=>k Ex.ret (sx 75 [(2,CV.pure Ty.str ((v_70 y50).1)),(3,CV.int i64 ((v_70 y50).2.1))] [])
 | .e5=>k (Ex.exit 0) (sx 75 [] [])
noncomputable def Sp.S_64_0{R:Type}(K:(List (List Int×Int×Int×Bool×List (List Int×Int×Int×Bool×Bool×Int×Int×Int×Int×Int×Unit)×Unit))->Int->Int->(List (List Int×Int×Int×Bool×List (List Int×Int×Int×Bool×Bool×Int×Int×Int×Int×Int×Unit)×Unit)×Unit)->Option R)(k:E_64_0->Option R)(p0:List (List Int×Int×Int×Bool×List (List Int×Int×Int×Bool×Bool×Int×Int×Int×Int×Int×Unit)×Unit))(p1 p2:Int)(p3:List (List Int×Int×Int×Bool×List (List Int×Int×Int×Bool×Bool×Int×Int×Int×Int×Int×Unit)×Unit)×Unit):Option R:=
 bif decide (p2<p1)then gd (inB p2 (length p0)) (gd (p_65 ((getD p0 (toNat p2) (Ty.dflt (Ty.pair Ty.str (Ty.pair (Ty.int i64) (Ty.pair (Ty.int i64) (Ty.pair Ty.bool (Ty.pair (Ty.slice (Ty.pair Ty.str (Ty.pair (Ty.int i64) (Ty.pair (Ty.int i64) (Ty.pair Ty.bool (Ty.pair Ty.bool (Ty.pair (Ty.int i64) (Ty.pair (Ty.int i64) (Ty.pair (Ty.int i64) (Ty.pair (Ty.int i64) (Ty.pair (Ty.int i64) Ty.unit))))))))))) Ty.unit))))))).1)) (bif !(v_65 ((getD p0 (toNat p2) (Ty.dflt (Ty.pair Ty.str (Ty.pair (Ty.int i64) (Ty.pair (Ty.int i64) (Ty.pair Ty.bool (Ty.pair (Ty.slice (Ty.pair Ty.str (Ty.pair (Ty.int i64) (Ty.pair (Ty.int i64) (Ty.pair Ty.bool (Ty.pair Ty.bool (Ty.pair (Ty.int i64) (Ty.pair (Ty.int i64) (Ty.pair (Ty.int i64) (Ty.pair (Ty.int i64) (Ty.pair (Ty.int i64) Ty.unit))))))))))) Ty.unit))))))).1)).1 then k (E_64_0.e0 p0 p2)else gd (p_66 ((getD p0 (toNat p2) (Ty.dflt (Ty.pair Ty.str (Ty.pair (Ty.int i64) (Ty.pair (Ty.int i64) (Ty.pair Ty.bool (Ty.pair (Ty.slice (Ty.pair Ty.str (Ty.pair (Ty.int i64) (Ty.pair (Ty.int i64) (Ty.pair Ty.bool (Ty.pair Ty.bool (Ty.pair (Ty.int i64) (Ty.pair (Ty.int i64) (Ty.pair (Ty.int i64) (Ty.pair (Ty.int i64) (Ty.pair (Ty.int i64) Ty.unit))))))))))) Ty.unit))))))).2.1) 0 2047) (bif !(v_66 ((getD p0 (toNat p2) (Ty.dflt (Ty.pair Ty.str (Ty.pair (Ty.int i64) (Ty.pair (Ty.int i64) (Ty.pair Ty.bool (Ty.pair (Ty.slice (Ty.pair Ty.str (Ty.pair (Ty.int i64) (Ty.pair (Ty.int i64) (Ty.pair Ty.bool (Ty.pair Ty.bool (Ty.pair (Ty.int i64) (Ty.pair (Ty.int i64) (Ty.pair (Ty.int i64) (Ty.pair (Ty.int i64) (Ty.pair (Ty.int i64) Ty.unit))))))))))) Ty.unit))))))).2.1) 0 2047).1 then k (E_64_0.e1 p0 p2)else gd (p_66 ((getD p0 (toNat p2) (Ty.dflt (Ty.pair Ty.str (Ty.pair (Ty.int i64) (Ty.pair (Ty.int i64) (Ty.pair Ty.bool (Ty.pair (Ty.slice (Ty.pair Ty.str (Ty.pair (Ty.int i64) (Ty.pair (Ty.int i64) (Ty.pair Ty.bool (Ty.pair Ty.bool (Ty.pair (Ty.int i64) (Ty.pair (Ty.int i64) (Ty.pair (Ty.int i64) (Ty.pair (Ty.int i64) (Ty.pair (Ty.int i64) Ty.unit))))))))))) Ty.unit))))))).2.2.1) 1 8) (bif !(v_66 ((getD p0 (toNat p2) (Ty.dflt (Ty.pair Ty.str (Ty.pair (Ty.int i64) (Ty.pair (Ty.int i64) (Ty.pair Ty.bool (Ty.pair (Ty.slice (Ty.pair Ty.str (Ty.pair (Ty.int i64) (Ty.pair (Ty.int i64) (Ty.pair Ty.bool (Ty.pair Ty.bool (Ty.pair (Ty.int i64) (Ty.pair (Ty.int i64) (Ty.pair (Ty.int i64) (Ty.pair (Ty.int i64) (Ty.pair (Ty.int i64) Ty.unit))))))))))) Ty.unit))))))).2.2.1) 1 8).1 then k (E_64_0.e1 p0 p2)else bif(getD p0 (toNat p2) (Ty.dflt (Ty.pair Ty.str (Ty.pair (Ty.int i64) (Ty.pair (Ty.int i64) (Ty.pair Ty.bool (Ty.pair (Ty.slice (Ty.pair Ty.str (Ty.pair (Ty.int i64) (Ty.pair (Ty.int i64) (Ty.pair Ty.bool (Ty.pair Ty.bool (Ty.pair (Ty.int i64) (Ty.pair (Ty.int i64) (Ty.pair (Ty.int i64) (Ty.pair (Ty.int i64) (Ty.pair (Ty.int i64) Ty.unit))))))))))) Ty.unit))))))).2.2.2.1 then bif decide ((getD p0 (toNat p2) (Ty.dflt (Ty.pair Ty.str (Ty.pair (Ty.int i64) (Ty.pair (Ty.int i64) (Ty.pair Ty.bool (Ty.pair (Ty.slice (Ty.pair Ty.str (Ty.pair (Ty.int i64) (Ty.pair (Ty.int i64) (Ty.pair Ty.bool (Ty.pair Ty.bool (Ty.pair (Ty.int i64) (Ty.pair (Ty.int i64) (Ty.pair (Ty.int i64) (Ty.pair (Ty.int i64) (Ty.pair (Ty.int i64) Ty.unit))))))))))) Ty.unit))))))).2.2.1<2)then k (E_64_0.e1 p0 p2)else B_64_1 (J_64_1 p2 p0 p1 p2 p3 (getD p0 (toNat p2) (Ty.dflt (Ty.pair Ty.str (Ty.pair (Ty.int i64) (Ty.pair (Ty.int i64) (Ty.pair Ty.bool (Ty.pair (Ty.slice (Ty.pair Ty.str (Ty.pair (Ty.int i64) (Ty.pair (Ty.int i64) (Ty.pair Ty.bool (Ty.pair Ty.bool (Ty.pair (Ty.int i64) (Ty.pair (Ty.int i64) (Ty.pair (Ty.int i64) (Ty.pair (Ty.int i64) (Ty.pair (Ty.int i64) Ty.unit))))))))))) Ty.unit)))))))) (fun y40=>k (E_64_0.e2 y40)) (fun y41=>k (E_64_0.e3 y41)) (fun y42 y43 y44 y45 y46 y47 y48 y49 y50=>gd (p_70 y50) (bif(v_70 y50).2.1 !=0 then k (E_64_0.e4 y50)else K y43 y44 (wrap i64 (y45+1)) y49)) fun y51 y52 y53 y54 y55 y56 y57 y58=>gd (p_70 y58) (bif(v_70 y58).2.1 !=0 then k (E_64_0.e4 y58)else K y52 y53 (wrap i64 (y54+1)) y57)else B_64_1 (J_64_1 p2 p0 p1 p2 p3 (getD p0 (toNat p2) (Ty.dflt (Ty.pair Ty.str (Ty.pair (Ty.int i64) (Ty.pair (Ty.int i64) (Ty.pair Ty.bool (Ty.pair (Ty.slice (Ty.pair Ty.str (Ty.pair (Ty.int i64) (Ty.pair (Ty.int i64) (Ty.pair Ty.bool (Ty.pair Ty.bool (Ty.pair (Ty.int i64) (Ty.pair (Ty.int i64) (Ty.pair (Ty.int i64) (Ty.pair (Ty.int i64) (Ty.pair (Ty.int i64) Ty.unit))))))))))) Ty.unit)))))))) (fun y59=>k (E_64_0.e2 y59)) (fun y60=>k (E_64_0.e3 y60)) (fun y61 y62 y63 y64 y65 y66 y67 y68 y69=>gd (p_70 y69) (bif(v_70 y69).2.1 !=0 then k (E_64_0.e4 y69)else K y62 y63 (wrap i64 (y64+1)) y68)) fun y70 y71 y72 y73 y74 y75 y76 y77=>gd (p_70 y77) (bif(v_70 y77).2.1 !=0 then k (E_64_0.e4 y77)else K y71 y72 (wrap i64 (y73+1)) y76)))))else k (E_64_0.e5)
noncomputable def Sp.L_64_0:Nat->(List (List Int×Int×Int×Bool×List (List Int×Int×Int×Bool×Bool×Int×Int×Int×Int×Int×Unit)×Unit))->Int->Int->(List (List Int×Int×Int×Bool×List (List Int×Int×Int×Bool×Bool×Int×Int×Int×Int×Int×Unit)×Unit)×Unit)->Option E_64_0
 |0,_,_,_,_=>none
 |m+1,p0,p1,p2,p3=>S_64_0 (L_64_0 m) some p0 p1 p2 p3
noncomputable def l_64_0(m:Nat)(a:T_64_0.E):Option E_64_0:=L_64_0 m a.1 a.2.1 a.2.2.1 a.2.2.2.1
noncomputable def O_64_0{R:Type}:Orc R:=orL T_64_0 (l_64_0 FU) Y_64_0
theorem OK_64_0{R:Type}:okF (R:=R) sm_64 3 (nf 64 0) O_64_0:=lp ov_64_64_ok (os:=[O_64_1]) ⟨OK_64_1,trivial⟩ T_64_0 l_64_0 (fun R K k a=>S_64_0 (fun p0 p1 p2 p3=>K (p0,p1,p2,p3,())) k a.1 a.2.1 a.2.2.1 a.2.2.2.1) Y_64_0 (fun _=>rfl) (fun _ _=>rfl) (fun k K a=>by kernel_rfl) (fun Y K a=>by
 unfold S_64_0
 repeat' first|apply gdN|apply condN|(apply Bn_64_1<;>intros)|rfl) (ok0 _)
noncomputable def F_64(a0:((List ((List Int)×(Int×(Int×(Bool×((List ((List Int)×(Int×(Int×(Bool×(Bool×(Int×(Int×(Int×(Int×(Int×Unit)))))))))))×Unit))))))×Unit)):Option ((List Int)×Int×Unit) :=
 bif decide ((↑(length (a0.1)):Int)>64)then some ([],5,PUnit.unit)else B_64_0 (L_64_0 4611686018427387904 (a0.1) (↑(length (a0.1)):Int) 0 a0) (fun y15 y16=>some ((getD y15 (toNat y16) (Ty.dflt (Ty.pair Ty.str (Ty.pair (Ty.int i64) (Ty.pair (Ty.int i64) (Ty.pair Ty.bool (Ty.pair (Ty.slice (Ty.pair Ty.str (Ty.pair (Ty.int i64) (Ty.pair (Ty.int i64) (Ty.pair Ty.bool (Ty.pair Ty.bool (Ty.pair (Ty.int i64) (Ty.pair (Ty.int i64) (Ty.pair (Ty.int i64) (Ty.pair (Ty.int i64) (Ty.pair (Ty.int i64) Ty.unit))))))))))) Ty.unit))))))).1,1,PUnit.unit)) (fun y17 y18=>some ((getD y17 (toNat y18) (Ty.dflt (Ty.pair Ty.str (Ty.pair (Ty.int i64) (Ty.pair (Ty.int i64) (Ty.pair Ty.bool (Ty.pair (Ty.slice (Ty.pair Ty.str (Ty.pair (Ty.int i64) (Ty.pair (Ty.int i64) (Ty.pair Ty.bool (Ty.pair Ty.bool (Ty.pair (Ty.int i64) (Ty.pair (Ty.int i64) (Ty.pair (Ty.int i64) (Ty.pair (Ty.int i64) (Ty.pair (Ty.int i64) Ty.unit))))))))))) Ty.unit))))))).1,2,PUnit.unit)) (fun y19=>some (y19.1,5,PUnit.unit)) (fun y20=>some (y20.1,8,PUnit.unit)) (fun y21=>some ((v_70 y21).1,(v_70 y21).2.1,PUnit.unit)) (some ([],0,PUnit.unit))
noncomputable def Sp.p_64(a0:((List ((List Int)×(Int×(Int×(Bool×((List ((List Int)×(Int×(Int×(Bool×(Bool×(Int×(Int×(Int×(Int×(Int×Unit)))))))))))×Unit))))))×Unit)):Bool:=(F_64 a0).isSome
noncomputable def Sp.v_64(a0:((List ((List Int)×(Int×(Int×(Bool×((List ((List Int)×(Int×(Int×(Bool×(Bool×(Int×(Int×(Int×(Int×(Int×Unit)))))))))))×Unit))))))×Unit)):(List Int)×Int×Unit:=(F_64 a0).getD (dfH R_64)
noncomputable def s_64:Summ:=shN A_64 R_64 (fun x=>p_64 x.1) (fun x=>v_64 x.1)
theorem run_64(x:HDen A_64)(y:HDen R_64)(h:F_64 x.1=some y):rnF sm_64 4 64 A_64 R_64 x y:=runG ov_64_64_ok (os:=[O_64_0]) ⟨OK_64_0,trivial⟩ (Eq.trans (by kernel_rfl) h)
end
noncomputable section
abbrev A_59:List Ty:=[(.pair (.slice (.pair .str (.pair (.int .i64) (.pair (.int .i64) (.pair .bool (.pair (.slice (.pair .str (.pair (.int .i64) (.pair (.int .i64) (.pair .bool (.pair .bool (.pair (.int .i64) (.pair (.int .i64) (.pair (.int .i64) (.pair (.int .i64) (.pair (.int .i64) .unit))))))))))) .unit)))))) .unit)]
abbrev R_59:List Ty:=[.bool]
noncomputable def sm_59:Nat->Option Summ:=smL [(64,s_64)]
noncomputable def F_59(a0:((List ((List Int)×(Int×(Int×(Bool×((List ((List Int)×(Int×(Int×(Bool×(Bool×(Int×(Int×(Int×(Int×(Int×Unit)))))))))))×Unit))))))×Unit)):Option (Bool×Unit) :=
 gd (p_64 a0) (some ((v_64 a0).2.1==0,PUnit.unit))
noncomputable def Sp.p_59(a0:((List ((List Int)×(Int×(Int×(Bool×((List ((List Int)×(Int×(Int×(Bool×(Bool×(Int×(Int×(Int×(Int×(Int×Unit)))))))))))×Unit))))))×Unit)):Bool:=(F_59 a0).isSome
noncomputable def Sp.v_59(a0:((List ((List Int)×(Int×(Int×(Bool×((List ((List Int)×(Int×(Int×(Bool×(Bool×(Int×(Int×(Int×(Int×(Int×Unit)))))))))))×Unit))))))×Unit)):Bool×Unit:=(F_59 a0).getD (dfH R_59)
noncomputable def s_59:Summ:=shN A_59 R_59 (fun x=>p_59 x.1) (fun x=>v_59 x.1)
theorem run_59(x:HDen A_59)(y:HDen R_59)(h:F_59 x.1=some y):rnF sm_59 1 59 A_59 R_59 x y:=runG noO_ok (os:=[]) trivial (Eq.trans (by kernel_rfl) h)
end
noncomputable section
abbrev A_48:List Ty:=[(.pair .str (.pair (.int .i64) (.pair (.int .i64) (.pair .bool (.pair (.slice (.pair .str (.pair (.int .i64) (.pair (.int .i64) (.pair .bool (.pair .bool (.pair (.int .i64) (.pair (.int .i64) (.pair (.int .i64) (.pair (.int .i64) (.pair (.int .i64) .unit))))))))))) .unit)))))]
abbrev R_48:List Ty:=[.bool]
noncomputable def sm_48:Nat->Option Summ:=smL [(59,s_59)]
noncomputable def F_48(a0:((List Int)×(Int×(Int×(Bool×((List ((List Int)×(Int×(Int×(Bool×(Bool×(Int×(Int×(Int×(Int×(Int×Unit)))))))))))×Unit)))))):Option (Bool×Unit) :=
 gd (p_59 ([a0],PUnit.unit)) (some ((v_59 ([a0],PUnit.unit)).1,PUnit.unit))
noncomputable def Sp.p_48(a0:((List Int)×(Int×(Int×(Bool×((List ((List Int)×(Int×(Int×(Bool×(Bool×(Int×(Int×(Int×(Int×(Int×Unit)))))))))))×Unit)))))):Bool:=(F_48 a0).isSome
noncomputable def Sp.v_48(a0:((List Int)×(Int×(Int×(Bool×((List ((List Int)×(Int×(Int×(Bool×(Bool×(Int×(Int×(Int×(Int×(Int×Unit)))))))))))×Unit)))))):Bool×Unit:=(F_48 a0).getD (dfH R_48)
noncomputable def s_48:Summ:=shN A_48 R_48 (fun x=>p_48 x.1) (fun x=>v_48 x.1)
theorem pv_48(a0:((List Int)×(Int×(Int×(Bool×((List ((List Int)×(Int×(Int×(Bool×(Bool×(Int×(Int×(Int×(Int×(Int×Unit)))))))))))×Unit)))))){y:Bool×Unit}(h:F_48 a0=some y):p_48 a0=true/\v_48 a0=y:=pvG h
theorem run_48(x:HDen A_48)(y:HDen R_48)(h:F_48 x.1=some y):rnF sm_48 1 48 A_48 R_48 x y:=runG noO_ok (os:=[]) trivial (Eq.trans (by kernel_rfl) h)
end
noncomputable section
abbrev A_62:List Ty:=[(.int .i64),(.int .i64),(.int .i64)]
abbrev R_62:List Ty:=[.bool]
noncomputable def sm_62:Nat->Option Summ:=smL []
noncomputable def F_62(a0 a1 a2:Int):Option (Bool×Unit) :=
 bif decide (a0>=a1)then some (decide (a0<=a2),PUnit.unit)else some (false,PUnit.unit)
noncomputable def Sp.p_62(a0 a1 a2:Int):Bool:=(F_62 a0 a1 a2).isSome
noncomputable def Sp.v_62(a0 a1 a2:Int):Bool×Unit:=(F_62 a0 a1 a2).getD (dfH R_62)
noncomputable def s_62:Summ:=shN A_62 R_62 (fun x=>p_62 x.1 x.2.1 x.2.2.1) (fun x=>v_62 x.1 x.2.1 x.2.2.1)
theorem pv_62(a0 a1 a2:Int){y:Bool×Unit}(h:F_62 a0 a1 a2=some y):p_62 a0 a1 a2=true/\v_62 a0 a1 a2=y:=pvG h
theorem run_62(x:HDen A_62)(y:HDen R_62)(h:F_62 x.1 x.2.1 x.2.2.1=some y):rnF sm_62 1 62 A_62 R_62 x y:=runG noO_ok (os:=[]) trivial (Eq.trans (by kernel_rfl) h)
end
noncomputable section
abbrev A_50:List Ty:=[(.pair .str (.pair (.int .i64) (.pair (.int .i64) (.pair .bool (.pair .bool (.pair (.int .i64) (.pair (.int .i64) (.pair (.int .i64) (.pair (.int .i64) (.pair (.int .i64) .unit)))))))))),(.int .i64)]
abbrev R_50:List Ty:=[.bool]
noncomputable def sm_50:Nat->Option Summ:=smL [(62,s_62)]
noncomputable def F_50(a0:((List Int)×(Int×(Int×(Bool×(Bool×(Int×(Int×(Int×(Int×(Int×Unit)))))))))))(a1:Int):Option (Bool×Unit) :=
 gd (p_62 a1 (a0.2.2.2.2.2.2.2.2.1) (a0.2.2.2.2.2.2.2.2.2.1)) (some ((v_62 a1 (a0.2.2.2.2.2.2.2.2.1) (a0.2.2.2.2.2.2.2.2.2.1)).1,PUnit.unit))
noncomputable def Sp.p_50(a0:((List Int)×(Int×(Int×(Bool×(Bool×(Int×(Int×(Int×(Int×(Int×Unit)))))))))))(a1:Int):Bool:=(F_50 a0 a1).isSome
noncomputable def Sp.v_50(a0:((List Int)×(Int×(Int×(Bool×(Bool×(Int×(Int×(Int×(Int×(Int×Unit)))))))))))(a1:Int):Bool×Unit:=(F_50 a0 a1).getD (dfH R_50)
noncomputable def s_50:Summ:=shN A_50 R_50 (fun x=>p_50 x.1 x.2.1) (fun x=>v_50 x.1 x.2.1)
theorem pv_50(a0:((List Int)×(Int×(Int×(Bool×(Bool×(Int×(Int×(Int×(Int×(Int×Unit)))))))))))(a1:Int){y:Bool×Unit}(h:F_50 a0 a1=some y):p_50 a0 a1=true/\v_50 a0 a1=y:=pvG h
theorem run_50(x:HDen A_50)(y:HDen R_50)(h:F_50 x.1 x.2.1=some y):rnF sm_50 1 50 A_50 R_50 x y:=runG noO_ok (os:=[]) trivial (Eq.trans (by kernel_rfl) h)
end
noncomputable section
abbrev Zy26_0:Ty:=(.pair (.int .i64) (.pair (.int .i64) (.pair .bool (.pair .bool (.pair (.int .i64) (.pair (.int .i64) (.pair (.int .i64) (.pair (.int .i64) (.pair (.int .i64) .unit)))))))))
abbrev Zt26_1:Type:=List Int×Int×Int×Bool×List (List Int×Int×Int×Bool×Bool×Int×Int×Int×Int×Int×Unit)×Unit
abbrev Zt26_2:Type:=List (List Int×Int×Int×Bool×Bool×Int×Int×Int×Int×Int×Unit)
abbrev Zt26_3:Type:=List Int×Int×Int×Bool×Bool×Int×Int×Int×Int×Int×Unit
abbrev A_26:List Ty:=[(.pair .str (.pair (.int .i64) (.pair (.int .i64) (.pair .bool (.pair (.slice (.pair .str (.pair (.int .i64) (.pair (.int .i64) (.pair .bool (.pair .bool (.pair (.int .i64) (.pair (.int .i64) (.pair (.int .i64) (.pair (.int .i64) (.pair (.int .i64) .unit))))))))))) .unit))))),(.slice (.int .u8))]
abbrev R_26:List Ty:=[(.slice (.int .i64)),(.int .i64)]
noncomputable def sm_26:Nat->Option Summ:=smL [(48,s_48),(49,s_49),(50,s_50)]
noncomputable def T_26_0:PS:=⟨91,[(2,.kc (.ptr 0 [])),(6,.hv (.int .u64)),(25,.hv (.slice (.int .u8))),(26,.hv (.int .i64)),(27,.hv (.int .i64))],[.mem (.hv (.pair .str (.pair (.int .i64) (.pair (.int .i64) (.pair .bool (.pair (.slice (.pair .str Zy26_0)) .unit))))))],0⟩
inductive Sp.E_26_0 where
 |e0 (p0:Int) (p4:Zt26_1)
noncomputable def Sp.B_26_0{R:Type}(r:Option E_26_0)(k0:Int->Zt26_1->Option R):Option R:=match r with
 |none=>none
 |some (.e0 p0 p4)=>k0 p0 p4
noncomputable def Y_26_0{R:Type}(k:Ex->St->Option R):E_26_0->Option R
 | .e0 p0 p4=>k (Ex.exit 1) (sx 91 [(2,CV.ptr 0 []),(6,CV.int u64 p0)] [Blk.mem (CV.pure (Ty.pair Ty.str (Ty.pair (Ty.int i64) (Ty.pair (Ty.int i64) (Ty.pair Ty.bool (Ty.pair (Ty.slice (Ty.pair Ty.str (Ty.pair (Ty.int i64) (Ty.pair (Ty.int i64) (Ty.pair Ty.bool (Ty.pair Ty.bool (Ty.pair (Ty.int i64) (Ty.pair (Ty.int i64) (Ty.pair (Ty.int i64) (Ty.pair (Ty.int i64) (Ty.pair (Ty.int i64) Ty.unit))))))))))) Ty.unit))))) p4)])
noncomputable def Sp.S_26_0{R:Type}(K:Int->List Int->Int->Int->(List Int×Int×Int×Bool×List (List Int×Int×Int×Bool×Bool×Int×Int×Int×Int×Int×Unit)×Unit)->Option R)(k:E_26_0->Option R)(p0:Int)(p1:List Int)(p2 p3:Int)(p4:List Int×Int×Int×Bool×List (List Int×Int×Int×Bool×Bool×Int×Int×Int×Int×Int×Unit)×Unit):Option R:=
 bif decide (p3<p2)then gd (inB p3 (length p1)) (gd (decide (0<=wrap i64 (8*p3))) (K (Sp.orI u64 p0 (wrap u64 (wrap u64 (getD p1 (toNat p3) 0)*2^Nat.min (toNat (wrap i64 (8*p3))) 64))) p1 p2 (wrap i64 (p3+1)) p4))else k (E_26_0.e0 p0 p4)
noncomputable def Sp.L_26_0:Nat->Int->List Int->Int->Int->(List Int×Int×Int×Bool×List (List Int×Int×Int×Bool×Bool×Int×Int×Int×Int×Int×Unit)×Unit)->Option E_26_0
 |0,_,_,_,_,_=>none
 |m+1,p0,p1,p2,p3,p4=>S_26_0 (L_26_0 m) some p0 p1 p2 p3 p4
noncomputable def l_26_0(m:Nat)(a:T_26_0.E):Option E_26_0:=L_26_0 m a.1 a.2.1 a.2.2.1 a.2.2.2.1 a.2.2.2.2.1
noncomputable def O_26_0{R:Type}:Orc R:=orL T_26_0 (l_26_0 FU) Y_26_0
theorem OK_26_0{R:Type}:okF (R:=R) sm_26 0 (nf 26 0) O_26_0:=lp0 T_26_0 l_26_0 (fun R K k a=>S_26_0 (fun p0 p1 p2 p3 p4=>K (p0,p1,p2,p3,p4,())) k a.1 a.2.1 a.2.2.1 a.2.2.2.1 a.2.2.2.2.1) Y_26_0 (fun _ _ _=>by kernel_rfl) (fun _ _ _=>by
 unfold S_26_0
 repeat' first|apply gdN|apply condN|rfl) (ok0 _)
noncomputable def T_26_2:PS:=⟨91,[(6,.hv (.int .u64)),(9,.kc (.whole 0)),(11,.kc (.ptr 1 [])),(12,.hv (.int .i64)),(41,.hv (.slice (.pair .str Zy26_0))),(42,.hv (.int .i64)),(43,.hv (.int .i64)),(48,.hv (.slice (.int .i64))),(49,.hv (.int .i64)),(50,.hv (.int .i64))],[.vec 3 (.int .i64),.mem (.hv (.pair .str Zy26_0))],0⟩
inductive Sp.E_26_2 where
 |e0 (p0 p1:Int) (p2:Zt26_2) (p3 p4:Int) (p8:List Int) (p9:Zt26_3)
noncomputable def Sp.B_26_2{R:Type}(r:Option E_26_2)(k0:Int->Int->Zt26_2->Int->Int->List Int->Zt26_3->Option R):Option R:=match r with
 |none=>none
 |some (.e0 p0 p1 p2 p3 p4 p8 p9)=>k0 p0 p1 p2 p3 p4 p8 p9
theorem Bn_26_2{A R:Type}{r:Option E_26_2}{f:A->Option R}{k0:Int->Int->Zt26_2->Int->Int->List Int->Zt26_3->Option A}{l0:Int->Int->Zt26_2->Int->Int->List Int->Zt26_3->Option R}(h0:∀p0 p1 p2 p3 p4 p8 p9,(k0 p0 p1 p2 p3 p4 p8 p9).bind f=l0 p0 p1 p2 p3 p4 p8 p9):(B_26_2 r k0).bind f=B_26_2 r l0:=by
 cases r with
 |none=>rfl
 |some e=>cases e<;>first|apply h0
noncomputable def Y_26_2{R:Type}(k:Ex->St->Option R):E_26_2->Option R
 | .e0 p0 p1 p2 p3 p4 p8 p9=>k (Ex.exit 5) (sx 91 [(6,CV.int u64 p0),(9,CV.whole 0),(11,CV.ptr 1 []),(12,CV.int i64 p1),(41,CV.pure (Ty.slice (Ty.pair Ty.str (Ty.pair (Ty.int i64) (Ty.pair (Ty.int i64) (Ty.pair Ty.bool (Ty.pair Ty.bool (Ty.pair (Ty.int i64) (Ty.pair (Ty.int i64) (Ty.pair (Ty.int i64) (Ty.pair (Ty.int i64) (Ty.pair (Ty.int i64) Ty.unit))))))))))) p2),(42,CV.int i64 p3),(43,CV.int i64 p4)] [Blk.vec 3 (Ty.int i64) p8,Blk.mem (CV.pure (Ty.pair Ty.str (Ty.pair (Ty.int i64) (Ty.pair (Ty.int i64) (Ty.pair Ty.bool (Ty.pair Ty.bool (Ty.pair (Ty.int i64) (Ty.pair (Ty.int i64) (Ty.pair (Ty.int i64) (Ty.pair (Ty.int i64) (Ty.pair (Ty.int i64) Ty.unit)))))))))) p9)])
noncomputable def Sp.S_26_2{R:Type}(K:Int->Int->(List (List Int×Int×Int×Bool×Bool×Int×Int×Int×Int×Int×Unit))->Int->Int->List Int->Int->Int->List Int->(List Int×Int×Int×Bool×Bool×Int×Int×Int×Int×Int×Unit)->Option R)(k:E_26_2->Option R)(p0 p1:Int)(p2:List (List Int×Int×Int×Bool×Bool×Int×Int×Int×Int×Int×Unit))(p3 p4:Int)(p5:List Int)(p6 p7:Int)(p8:List Int)(p9:List Int×Int×Int×Bool×Bool×Int×Int×Int×Int×Int×Unit):Option R:=
 bif decide (p7<p6)then gd (inB p7 (length p5)) (gd (decide (0<=getD p5 (toNat p7) 0)) (gd (decide (0<=p7)) (K p0 (Sp.orI i64 p1 (wrap i64 (wrap i64 (Sp.andI u64 (Int.fdiv p0 (2^Nat.min (toNat (getD p5 (toNat p7) 0)) 64)) 1)*2^Nat.min (toNat p7) 64))) p2 p3 p4 p5 p6 (wrap i64 (p7+1)) p8 p9)))else k (E_26_2.e0 p0 p1 p2 p3 p4 p8 p9)
noncomputable def Sp.L_26_2:Nat->Int->Int->(List (List Int×Int×Int×Bool×Bool×Int×Int×Int×Int×Int×Unit))->Int->Int->List Int->Int->Int->List Int->(List Int×Int×Int×Bool×Bool×Int×Int×Int×Int×Int×Unit)->Option E_26_2
 |0,_,_,_,_,_,_,_,_,_,_=>none
 |m+1,p0,p1,p2,p3,p4,p5,p6,p7,p8,p9=>S_26_2 (L_26_2 m) some p0 p1 p2 p3 p4 p5 p6 p7 p8 p9
noncomputable def l_26_2(m:Nat)(a:T_26_2.E):Option E_26_2:=L_26_2 m a.1 a.2.1 a.2.2.1 a.2.2.2.1 a.2.2.2.2.1 a.2.2.2.2.2.1 a.2.2.2.2.2.2.1 a.2.2.2.2.2.2.2.1 a.2.2.2.2.2.2.2.2.1 a.2.2.2.2.2.2.2.2.2.1
noncomputable def O_26_2{R:Type}:Orc R:=orL T_26_2 (l_26_2 FU) Y_26_2
theorem OK_26_2{R:Type}:okF (R:=R) sm_26 0 (ni (nf 26 1) 0) O_26_2:=lp0 T_26_2 l_26_2 (fun R K k a=>S_26_2 (fun p0 p1 p2 p3 p4 p5 p6 p7 p8 p9=>K (p0,p1,p2,p3,p4,p5,p6,p7,p8,p9,())) k a.1 a.2.1 a.2.2.1 a.2.2.2.1 a.2.2.2.2.1 a.2.2.2.2.2.1 a.2.2.2.2.2.2.1 a.2.2.2.2.2.2.2.1 a.2.2.2.2.2.2.2.2.1 a.2.2.2.2.2.2.2.2.2.1) Y_26_2 (fun _ _ _=>by kernel_rfl) (fun _ _ _=>by
 unfold S_26_2
 repeat' first|apply gdN|apply condN|rfl) (ok0 _)
noncomputable def T_26_1:PS:=⟨91,[(6,.hv (.int .u64)),(9,.kc (.whole 0)),(41,.hv (.slice (.pair .str Zy26_0))),(42,.hv (.int .i64)),(43,.hv (.int .i64))],[.vec 3 (.int .i64)],0⟩
inductive Sp.E_26_1 where
 |e0
 |e1 (p4:List Int)
noncomputable def Sp.B_26_1{R:Type}(r:Option E_26_1)(k0:Option R)(k1:List Int->Option R):Option R:=match r with
 |none=>none
 |some (.e0)=>k0
 |some (.e1 p4)=>k1 p4
noncomputable def Y_26_1{R:Type}(k:Ex->St->Option R):E_26_1->Option R
 | .e0=>k Ex.ret (sx 91 [(4,CV.whole 0),(5,CV.int i64 2)] [Blk.vec 3 (Ty.int i64) []])
 | .e1 p4=>k (Ex.exit 3) (sx 91 [(9,CV.whole 0)] [Blk.vec 3 (Ty.int i64) p4])
noncomputable def Sp.S_26_1{R:Type}(K:Int->(List (List Int×Int×Int×Bool×Bool×Int×Int×Int×Int×Int×Unit))->Int->Int->List Int->Option R)(k:E_26_1->Option R)(p0:Int)(p1:List (List Int×Int×Int×Bool×Bool×Int×Int×Int×Int×Int×Unit))(p2 p3:Int)(p4:List Int):Option R:=
 bif decide (p3<p2)then gd (inB p3 (length p1)) (gd (p_49 (getD p1 (toNat p3) (Ty.dflt (Ty.pair Ty.str (Ty.pair (Ty.int i64) (Ty.pair (Ty.int i64) (Ty.pair Ty.bool (Ty.pair Ty.bool (Ty.pair (Ty.int i64) (Ty.pair (Ty.int i64) (Ty.pair (Ty.int i64) (Ty.pair (Ty.int i64) (Ty.pair (Ty.int i64) Ty.unit))))))))))))) (B_26_2 (L_26_2 4611686018427387904 p0 0 p1 p2 p3 ((v_49 (getD p1 (toNat p3) (Ty.dflt (Ty.pair Ty.str (Ty.pair (Ty.int i64) (Ty.pair (Ty.int i64) (Ty.pair Ty.bool (Ty.pair Ty.bool (Ty.pair (Ty.int i64) (Ty.pair (Ty.int i64) (Ty.pair (Ty.int i64) (Ty.pair (Ty.int i64) (Ty.pair (Ty.int i64) Ty.unit))))))))))))).1) (↑(length ((v_49 (getD p1 (toNat p3) (Ty.dflt (Ty.pair Ty.str (Ty.pair (Ty.int i64) (Ty.pair (Ty.int i64) (Ty.pair Ty.bool (Ty.pair Ty.bool (Ty.pair (Ty.int i64) (Ty.pair (Ty.int i64) (Ty.pair (Ty.int i64) (Ty.pair (Ty.int i64) (Ty.pair (Ty.int i64) Ty.unit))))))))))))).1)):Int) 0 p4 (getD p1 (toNat p3) (Ty.dflt (Ty.pair Ty.str (Ty.pair (Ty.int i64) (Ty.pair (Ty.int i64) (Ty.pair Ty.bool (Ty.pair Ty.bool (Ty.pair (Ty.int i64) (Ty.pair (Ty.int i64) (Ty.pair (Ty.int i64) (Ty.pair (Ty.int i64) (Ty.pair (Ty.int i64) Ty.unit))))))))))))) fun y7 y8 y9 y10 y11 y12 y13=>bif y13.2.2.2.2.1 then gd (decide (0<=wrap i64 (y13.2.2.1-1))) (bif Sp.andI i64 (Int.fdiv y8 (2^Nat.min (toNat (wrap i64 (y13.2.2.1-1))) 64)) (1:Int)==(1:Int)then gd (decide (0<=y13.2.2.1)) (gd (p_50 y13 (wrap i64 (y8-wrap i64 ((1:Int)*(2:Int)^Nat.min (toNat (y13.2.2.1)) 64)))) (bif !(v_50 y13 (wrap i64 (y8-wrap i64 ((1:Int)*(2:Int)^Nat.min (toNat (y13.2.2.1)) 64)))).1 then k (E_26_1.e0)else gd (room (length y12+1) 8) (K y7 y9 y10 (wrap i64 (y11+1)) (y12++[wrap i64 (y8-wrap i64 ((1:Int)*(2:Int)^Nat.min (toNat (y13.2.2.1)) 64))]))))else gd (p_50 y13 y8) (bif !(v_50 y13 y8).1 then k (E_26_1.e0)else gd (room (length y12+1) 8) (K y7 y9 y10 (wrap i64 (y11+1)) (y12++[y8]))))else gd (p_50 y13 y8) (bif !(v_50 y13 y8).1 then k (E_26_1.e0)else gd (room (length y12+1) 8) (K y7 y9 y10 (wrap i64 (y11+1)) (y12++[y8])))))else k (E_26_1.e1 p4)
noncomputable def Sp.L_26_1:Nat->Int->(List (List Int×Int×Int×Bool×Bool×Int×Int×Int×Int×Int×Unit))->Int->Int->List Int->Option E_26_1
 |0,_,_,_,_,_=>none
 |m+1,p0,p1,p2,p3,p4=>S_26_1 (L_26_1 m) some p0 p1 p2 p3 p4
noncomputable def l_26_1(m:Nat)(a:T_26_1.E):Option E_26_1:=L_26_1 m a.1 a.2.1 a.2.2.1 a.2.2.2.1 a.2.2.2.2.1
noncomputable def O_26_1{R:Type}:Orc R:=orL T_26_1 (l_26_1 FU) Y_26_1
theorem OK_26_1{R:Type}:okF (R:=R) sm_26 0 (nf 26 1) O_26_1:=lp noO_ok (os:=[O_26_2]) ⟨OK_26_2,trivial⟩ T_26_1 l_26_1 (fun R K k a=>S_26_1 (fun p0 p1 p2 p3 p4=>K (p0,p1,p2,p3,p4,())) k a.1 a.2.1 a.2.2.1 a.2.2.2.1 a.2.2.2.2.1) Y_26_1 (fun _=>rfl) (fun _ _=>rfl) (fun k K a=>by kernel_rfl) (fun Y K a=>by
 unfold S_26_1
 repeat' first|apply gdN|apply condN|(apply Bn_26_2<;>intros)|rfl) (ok0 _)
noncomputable def F_26(a0:((List Int)×(Int×(Int×(Bool×((List ((List Int)×(Int×(Int×(Bool×(Bool×(Int×(Int×(Int×(Int×(Int×Unit)))))))))))×Unit))))))(a1:(List Int)):Option ((List Int)×Int×Unit) :=
 gd (p_48 a0) (bif !(v_48 a0).1 then some ([],1,PUnit.unit)else bif(↑(length a1):Int)!=a0.2.2.1 then some ([],3,PUnit.unit)else B_26_0 (L_26_0 4611686018427387904 0 a1 (↑(length a1):Int) 0 a0) fun y3 y4=>B_26_1 (L_26_1 4611686018427387904 y3 (y4.2.2.2.2.1) (↑(length (y4.2.2.2.2.1)):Int) 0 []) (some ([],2,PUnit.unit)) fun y5=>some (y5,0,PUnit.unit))
noncomputable def Sp.p_26(a0:((List Int)×(Int×(Int×(Bool×((List ((List Int)×(Int×(Int×(Bool×(Bool×(Int×(Int×(Int×(Int×(Int×Unit)))))))))))×Unit))))))(a1:(List Int)):Bool:=(F_26 a0 a1).isSome
noncomputable def Sp.v_26(a0:((List Int)×(Int×(Int×(Bool×((List ((List Int)×(Int×(Int×(Bool×(Bool×(Int×(Int×(Int×(Int×(Int×Unit)))))))))))×Unit))))))(a1:(List Int)):(List Int)×Int×Unit:=(F_26 a0 a1).getD (dfH R_26)
noncomputable def s_26:Summ:=shS A_26 R_26 (fun x=>p_26 x.1 x.2.1) (fun x=>v_26 x.1 x.2.1)
theorem pv_26(a0:((List Int)×(Int×(Int×(Bool×((List ((List Int)×(Int×(Int×(Bool×(Bool×(Int×(Int×(Int×(Int×(Int×Unit)))))))))))×Unit))))))(a1:(List Int)){y:(List Int)×Int×Unit}(h:F_26 a0 a1=some y):p_26 a0 a1=true/\v_26 a0 a1=y:=pvG h
theorem run_26(x:HDen A_26)(y:HDen R_26)(h:F_26 x.1 x.2.1=some y):rnF sm_26 1 26 A_26 R_26 x y:=runG noO_ok (os:=[O_26_0,O_26_1]) ⟨OK_26_0,OK_26_1,trivial⟩ (Eq.trans (by kernel_rfl) h)
end
noncomputable section
abbrev Zt27_0:Type:=List Int×Int×Int×Bool×List (List Int×Int×Int×Bool×Bool×Int×Int×Int×Int×Int×Unit)×Unit
abbrev Zy27_1:Ty:=(.pair (.int .i64) (.pair (.int .i64) (.pair .bool (.pair .bool (.pair (.int .i64) (.pair (.int .i64) (.pair (.int .i64) (.pair (.int .i64) (.pair (.int .i64) .unit)))))))))
abbrev Zt27_2:Type:=List (List Int×Int×Int×Bool×Bool×Int×Int×Int×Int×Int×Unit)
abbrev A_27:List Ty:=[(.pair .str (.pair (.int .i64) (.pair (.int .i64) (.pair .bool (.pair (.slice (.pair .str (.pair (.int .i64) (.pair (.int .i64) (.pair .bool (.pair .bool (.pair (.int .i64) (.pair (.int .i64) (.pair (.int .i64) (.pair (.int .i64) (.pair (.int .i64) .unit))))))))))) .unit))))),(.slice (.int .i64))]
abbrev R_27:List Ty:=[(.slice (.int .u8)),(.int .i64)]
noncomputable def sm_27:Nat->Option Summ:=smL [(48,s_48),(49,s_49),(50,s_50)]
noncomputable def T_27_1:PS:=⟨79,[(1,.hv (.slice (.int .i64))),(2,.kc (.ptr 0 [])),(6,.hv (.int .u64)),(7,.hv (.int .i64)),(25,.hv (.slice (.pair .str Zy27_1))),(26,.hv (.int .i64)),(27,.hv (.int .i64)),(40,.hv (.slice (.int .i64))),(41,.hv (.int .i64)),(42,.hv (.int .i64))],[.mem (.hv (.pair .str (.pair (.int .i64) (.pair (.int .i64) (.pair .bool (.pair (.slice (.pair .str Zy27_1)) .unit))))))],0⟩
inductive Sp.E_27_1 where
 |e0 (p0:List Int) (p1:Int) (p3:Zt27_2) (p4 p5:Int) (p9:Zt27_0)
noncomputable def Sp.B_27_1{R:Type}(r:Option E_27_1)(k0:List Int->Int->Zt27_2->Int->Int->Zt27_0->Option R):Option R:=match r with
 |none=>none
 |some (.e0 p0 p1 p3 p4 p5 p9)=>k0 p0 p1 p3 p4 p5 p9
theorem Bn_27_1{A R:Type}{r:Option E_27_1}{f:A->Option R}{k0:List Int->Int->Zt27_2->Int->Int->Zt27_0->Option A}{l0:List Int->Int->Zt27_2->Int->Int->Zt27_0->Option R}(h0:∀p0 p1 p3 p4 p5 p9,(k0 p0 p1 p3 p4 p5 p9).bind f=l0 p0 p1 p3 p4 p5 p9):(B_27_1 r k0).bind f=B_27_1 r l0:=by
 cases r with
 |none=>rfl
 |some e=>cases e<;>first|apply h0
noncomputable def Y_27_1{R:Type}(k:Ex->St->Option R):E_27_1->Option R
 | .e0 p0 p1 p3 p4 p5 p9=>k (Ex.exit 2) (sx 79 [(1,CV.pure (Ty.slice (Ty.int i64)) p0),(2,CV.ptr 0 []),(6,CV.int u64 p1),(25,CV.pure (Ty.slice (Ty.pair Ty.str (Ty.pair (Ty.int i64) (Ty.pair (Ty.int i64) (Ty.pair Ty.bool (Ty.pair Ty.bool (Ty.pair (Ty.int i64) (Ty.pair (Ty.int i64) (Ty.pair (Ty.int i64) (Ty.pair (Ty.int i64) (Ty.pair (Ty.int i64) Ty.unit))))))))))) p3),(26,CV.int i64 p4),(27,CV.int i64 p5)] [Blk.mem (CV.pure (Ty.pair Ty.str (Ty.pair (Ty.int i64) (Ty.pair (Ty.int i64) (Ty.pair Ty.bool (Ty.pair (Ty.slice (Ty.pair Ty.str (Ty.pair (Ty.int i64) (Ty.pair (Ty.int i64) (Ty.pair Ty.bool (Ty.pair Ty.bool (Ty.pair (Ty.int i64) (Ty.pair (Ty.int i64) (Ty.pair (Ty.int i64) (Ty.pair (Ty.int i64) (Ty.pair (Ty.int i64) Ty.unit))))))))))) Ty.unit))))) p9)])
noncomputable def Sp.S_27_1{R:Type}(K:List Int->Int->Int->(List (List Int×Int×Int×Bool×Bool×Int×Int×Int×Int×Int×Unit))->Int->Int->List Int->Int->Int->(List Int×Int×Int×Bool×List (List Int×Int×Int×Bool×Bool×Int×Int×Int×Int×Int×Unit)×Unit)->Option R)(k:E_27_1->Option R)(p0:List Int)(p1 p2:Int)(p3:List (List Int×Int×Int×Bool×Bool×Int×Int×Int×Int×Int×Unit))(p4 p5:Int)(p6:List Int)(p7 p8:Int)(p9:List Int×Int×Int×Bool×List (List Int×Int×Int×Bool×Bool×Int×Int×Int×Int×Int×Unit)×Unit):Option R:=
 bif decide (p8<p7)then gd (inB p8 (length p6)) (gd (inB p2 (length p0)) (gd (decide (0<=p8)) (gd (decide (0<=getD p6 (toNat p8) 0)) (K p0 (Sp.orI u64 p1 (wrap u64 (wrap u64 (Sp.andI i64 (Int.fdiv (getD p0 (toNat p2) 0) (2^Nat.min (toNat p8) 64)) 1)*2^Nat.min (toNat (getD p6 (toNat p8) 0)) 64))) p2 p3 p4 p5 p6 p7 (wrap i64 (p8+1)) p9))))else k (E_27_1.e0 p0 p1 p3 p4 p5 p9)
noncomputable def Sp.L_27_1:Nat->List Int->Int->Int->(List (List Int×Int×Int×Bool×Bool×Int×Int×Int×Int×Int×Unit))->Int->Int->List Int->Int->Int->(List Int×Int×Int×Bool×List (List Int×Int×Int×Bool×Bool×Int×Int×Int×Int×Int×Unit)×Unit)->Option E_27_1
 |0,_,_,_,_,_,_,_,_,_,_=>none
 |m+1,p0,p1,p2,p3,p4,p5,p6,p7,p8,p9=>S_27_1 (L_27_1 m) some p0 p1 p2 p3 p4 p5 p6 p7 p8 p9
noncomputable def l_27_1(m:Nat)(a:T_27_1.E):Option E_27_1:=L_27_1 m a.1 a.2.1 a.2.2.1 a.2.2.2.1 a.2.2.2.2.1 a.2.2.2.2.2.1 a.2.2.2.2.2.2.1 a.2.2.2.2.2.2.2.1 a.2.2.2.2.2.2.2.2.1 a.2.2.2.2.2.2.2.2.2.1
noncomputable def O_27_1{R:Type}:Orc R:=orL T_27_1 (l_27_1 FU) Y_27_1
theorem OK_27_1{R:Type}:okF (R:=R) sm_27 0 (ni (nf 27 0) 0) O_27_1:=lp0 T_27_1 l_27_1 (fun R K k a=>S_27_1 (fun p0 p1 p2 p3 p4 p5 p6 p7 p8 p9=>K (p0,p1,p2,p3,p4,p5,p6,p7,p8,p9,())) k a.1 a.2.1 a.2.2.1 a.2.2.2.1 a.2.2.2.2.1 a.2.2.2.2.2.1 a.2.2.2.2.2.2.1 a.2.2.2.2.2.2.2.1 a.2.2.2.2.2.2.2.2.1 a.2.2.2.2.2.2.2.2.2.1) Y_27_1 (fun _ _ _=>by kernel_rfl) (fun _ _ _=>by
 unfold S_27_1
 repeat' first|apply gdN|apply condN|rfl) (ok0 _)
noncomputable def T_27_0:PS:=⟨79,[(1,.hv (.slice (.int .i64))),(2,.kc (.ptr 0 [])),(6,.hv (.int .u64)),(25,.hv (.slice (.pair .str Zy27_1))),(26,.hv (.int .i64)),(27,.hv (.int .i64))],[.mem (.hv (.pair .str (.pair (.int .i64) (.pair (.int .i64) (.pair .bool (.pair (.slice (.pair .str Zy27_1)) .unit))))))],0⟩
inductive Sp.E_27_0 where
 |e0
 |e1 (p1:Int) (p5:Zt27_0)
noncomputable def Sp.B_27_0{R:Type}(r:Option E_27_0)(k0:Option R)(k1:Int->Zt27_0->Option R):Option R:=match r with
 |none=>none
 |some (.e0)=>k0
 |some (.e1 p1 p5)=>k1 p1 p5
noncomputable def Y_27_0{R:Type}(k:Ex->St->Option R):E_27_0->Option R
 | .e0=>k Ex.ret (sx 79 [(4,CV.whole 0),(5,CV.int i64 2)] [Blk.vec 5 (Ty.int u8) []])
 | .e1 p1 p5=>k (Ex.exit 0) (sx 79 [(2,CV.ptr 0 []),(6,CV.int u64 p1)] [Blk.mem (CV.pure (Ty.pair Ty.str (Ty.pair (Ty.int i64) (Ty.pair (Ty.int i64) (Ty.pair Ty.bool (Ty.pair (Ty.slice (Ty.pair Ty.str (Ty.pair (Ty.int i64) (Ty.pair (Ty.int i64) (Ty.pair Ty.bool (Ty.pair Ty.bool (Ty.pair (Ty.int i64) (Ty.pair (Ty.int i64) (Ty.pair (Ty.int i64) (Ty.pair (Ty.int i64) (Ty.pair (Ty.int i64) Ty.unit))))))))))) Ty.unit))))) p5)])
noncomputable def Sp.S_27_0{R:Type}(K:List Int->Int->(List (List Int×Int×Int×Bool×Bool×Int×Int×Int×Int×Int×Unit))->Int->Int->(List Int×Int×Int×Bool×List (List Int×Int×Int×Bool×Bool×Int×Int×Int×Int×Int×Unit)×Unit)->Option R)(k:E_27_0->Option R)(p0:List Int)(p1:Int)(p2:List (List Int×Int×Int×Bool×Bool×Int×Int×Int×Int×Int×Unit))(p3 p4:Int)(p5:List Int×Int×Int×Bool×List (List Int×Int×Int×Bool×Bool×Int×Int×Int×Int×Int×Unit)×Unit):Option R:=
 bif decide (p4<p3)then gd (inB p4 (length p2)) (gd (inB p4 (length p0)) (gd (p_50 (getD p2 (toNat p4) (Ty.dflt (Ty.pair Ty.str (Ty.pair (Ty.int i64) (Ty.pair (Ty.int i64) (Ty.pair Ty.bool (Ty.pair Ty.bool (Ty.pair (Ty.int i64) (Ty.pair (Ty.int i64) (Ty.pair (Ty.int i64) (Ty.pair (Ty.int i64) (Ty.pair (Ty.int i64) Ty.unit)))))))))))) (getD p0 (toNat p4) 0)) (bif !(v_50 (getD p2 (toNat p4) (Ty.dflt (Ty.pair Ty.str (Ty.pair (Ty.int i64) (Ty.pair (Ty.int i64) (Ty.pair Ty.bool (Ty.pair Ty.bool (Ty.pair (Ty.int i64) (Ty.pair (Ty.int i64) (Ty.pair (Ty.int i64) (Ty.pair (Ty.int i64) (Ty.pair (Ty.int i64) Ty.unit)))))))))))) (getD p0 (toNat p4) 0)).1 then k (E_27_0.e0)else gd (p_49 (getD p2 (toNat p4) (Ty.dflt (Ty.pair Ty.str (Ty.pair (Ty.int i64) (Ty.pair (Ty.int i64) (Ty.pair Ty.bool (Ty.pair Ty.bool (Ty.pair (Ty.int i64) (Ty.pair (Ty.int i64) (Ty.pair (Ty.int i64) (Ty.pair (Ty.int i64) (Ty.pair (Ty.int i64) Ty.unit))))))))))))) (B_27_1 (L_27_1 4611686018427387904 p0 p1 p4 p2 p3 p4 ((v_49 (getD p2 (toNat p4) (Ty.dflt (Ty.pair Ty.str (Ty.pair (Ty.int i64) (Ty.pair (Ty.int i64) (Ty.pair Ty.bool (Ty.pair Ty.bool (Ty.pair (Ty.int i64) (Ty.pair (Ty.int i64) (Ty.pair (Ty.int i64) (Ty.pair (Ty.int i64) (Ty.pair (Ty.int i64) Ty.unit))))))))))))).1) (↑(length ((v_49 (getD p2 (toNat p4) (Ty.dflt (Ty.pair Ty.str (Ty.pair (Ty.int i64) (Ty.pair (Ty.int i64) (Ty.pair Ty.bool (Ty.pair Ty.bool (Ty.pair (Ty.int i64) (Ty.pair (Ty.int i64) (Ty.pair (Ty.int i64) (Ty.pair (Ty.int i64) (Ty.pair (Ty.int i64) Ty.unit))))))))))))).1)):Int) 0 p5) fun y6 y7 y8 y9 y10 y11=>K y6 y7 y8 y9 (wrap i64 (y10+1)) y11))))else k (E_27_0.e1 p1 p5)
noncomputable def Sp.L_27_0:Nat->List Int->Int->(List (List Int×Int×Int×Bool×Bool×Int×Int×Int×Int×Int×Unit))->Int->Int->(List Int×Int×Int×Bool×List (List Int×Int×Int×Bool×Bool×Int×Int×Int×Int×Int×Unit)×Unit)->Option E_27_0
 |0,_,_,_,_,_,_=>none
 |m+1,p0,p1,p2,p3,p4,p5=>S_27_0 (L_27_0 m) some p0 p1 p2 p3 p4 p5
noncomputable def l_27_0(m:Nat)(a:T_27_0.E):Option E_27_0:=L_27_0 m a.1 a.2.1 a.2.2.1 a.2.2.2.1 a.2.2.2.2.1 a.2.2.2.2.2.1
noncomputable def O_27_0{R:Type}:Orc R:=orL T_27_0 (l_27_0 FU) Y_27_0
theorem OK_27_0{R:Type}:okF (R:=R) sm_27 0 (nf 27 0) O_27_0:=lp noO_ok (os:=[O_27_1]) ⟨OK_27_1,trivial⟩ T_27_0 l_27_0 (fun R K k a=>S_27_0 (fun p0 p1 p2 p3 p4 p5=>K (p0,p1,p2,p3,p4,p5,())) k a.1 a.2.1 a.2.2.1 a.2.2.2.1 a.2.2.2.2.1 a.2.2.2.2.2.1) Y_27_0 (fun _=>rfl) (fun _ _=>rfl) (fun k K a=>by kernel_rfl) (fun Y K a=>by
 unfold S_27_0
 repeat' first|apply gdN|apply condN|(apply Bn_27_1<;>intros)|rfl) (ok0 _)
noncomputable def T_27_2:PS:=⟨79,[(6,.hv (.int .u64)),(11,.kc (.whole 0)),(65,.hv (.int .i64)),(66,.hv (.int .i64))],[.vec 5 (.int .u8)],0⟩
inductive Sp.E_27_2 where
 |e0 (p3:List Int)
noncomputable def Sp.B_27_2{R:Type}(r:Option E_27_2)(k0:List Int->Option R):Option R:=match r with
 |none=>none
 |some (.e0 p3)=>k0 p3
noncomputable def Y_27_2{R:Type}(k:Ex->St->Option R):E_27_2->Option R
 | .e0 p3=>k (Ex.exit 4) (sx 79 [(11,CV.whole 0)] [Blk.vec 5 (Ty.int u8) p3])
noncomputable def Sp.S_27_2{R:Type}(K:Int->Int->Int->List Int->Option R)(k:E_27_2->Option R)(p0 p1 p2:Int)(p3:List Int):Option R:=
 bif decide (p2<p1)then gd (decide (0<=wrap i64 (8*p2))) (gd (inB p2 (length p3)) (gd (decide (toNat p2<length p3)&&true&&true) (K p0 p1 (wrap i64 (p2+1)) (List.set p3 (toNat p2) (wrap u8 (Int.fdiv p0 (2^Nat.min (toNat (wrap i64 (8*p2))) 64)))))))else k (E_27_2.e0 p3)
noncomputable def Sp.L_27_2:Nat->Int->Int->Int->List Int->Option E_27_2
 |0,_,_,_,_=>none
 |m+1,p0,p1,p2,p3=>S_27_2 (L_27_2 m) some p0 p1 p2 p3
noncomputable def l_27_2(m:Nat)(a:T_27_2.E):Option E_27_2:=L_27_2 m a.1 a.2.1 a.2.2.1 a.2.2.2.1
noncomputable def O_27_2{R:Type}:Orc R:=orL T_27_2 (l_27_2 FU) Y_27_2
theorem OK_27_2{R:Type}:okF (R:=R) sm_27 0 (nf 27 1) O_27_2:=lp0 T_27_2 l_27_2 (fun R K k a=>S_27_2 (fun p0 p1 p2 p3=>K (p0,p1,p2,p3,())) k a.1 a.2.1 a.2.2.1 a.2.2.2.1) Y_27_2 (fun _ _ _=>by kernel_rfl) (fun _ _ _=>by
 unfold S_27_2
 repeat' first|apply gdN|apply condN|rfl) (ok0 _)
noncomputable def F_27(a0:((List Int)×(Int×(Int×(Bool×((List ((List Int)×(Int×(Int×(Bool×(Bool×(Int×(Int×(Int×(Int×(Int×Unit)))))))))))×Unit))))))(a1:(List Int)):Option ((List Int)×Int×Unit) :=
 gd (p_48 a0) (bif !(v_48 a0).1 then some ([],1,PUnit.unit)else bif(↑(length a1):Int)!=(↑(length (a0.2.2.2.2.1)):Int)then some ([],1,PUnit.unit)else B_27_0 (L_27_0 4611686018427387904 a1 0 (a0.2.2.2.2.1) (↑(length (a0.2.2.2.2.1)):Int) 0 a0) (some ([],2,PUnit.unit)) fun y3 y4=>gd (decide (0<=y4.2.2.1)&&(y4.2.2.1==y4.2.2.1&&room (toNat (y4.2.2.1)) 1)) (B_27_2 (L_27_2 4611686018427387904 y3 (↑(length (replicate (toNat (y4.2.2.1)) (0:Int))):Int) 0 (replicate (toNat (y4.2.2.1)) (0:Int))) fun y7=>some (y7,0,PUnit.unit)))
noncomputable def Sp.p_27(a0:((List Int)×(Int×(Int×(Bool×((List ((List Int)×(Int×(Int×(Bool×(Bool×(Int×(Int×(Int×(Int×(Int×Unit)))))))))))×Unit))))))(a1:(List Int)):Bool:=(F_27 a0 a1).isSome
noncomputable def Sp.v_27(a0:((List Int)×(Int×(Int×(Bool×((List ((List Int)×(Int×(Int×(Bool×(Bool×(Int×(Int×(Int×(Int×(Int×Unit)))))))))))×Unit))))))(a1:(List Int)):(List Int)×Int×Unit:=(F_27 a0 a1).getD (dfH R_27)
noncomputable def s_27:Summ:=shS A_27 R_27 (fun x=>p_27 x.1 x.2.1) (fun x=>v_27 x.1 x.2.1)
theorem pv_27(a0:((List Int)×(Int×(Int×(Bool×((List ((List Int)×(Int×(Int×(Bool×(Bool×(Int×(Int×(Int×(Int×(Int×Unit)))))))))))×Unit))))))(a1:(List Int)){y:(List Int)×Int×Unit}(h:F_27 a0 a1=some y):p_27 a0 a1=true/\v_27 a0 a1=y:=pvG h
theorem run_27(x:HDen A_27)(y:HDen R_27)(h:F_27 x.1 x.2.1=some y):rnF sm_27 1 27 A_27 R_27 x y:=runG noO_ok (os:=[O_27_0,O_27_2]) ⟨OK_27_0,OK_27_2,trivial⟩ (Eq.trans (by kernel_rfl) h)
end
noncomputable section
abbrev A_10:List Ty:=[(.slice (.int .u8))]
abbrev R_10:List Ty:=[(.slice (.int .u8)),.bool]
noncomputable def sm_10:Nat->Option Summ:=smL [(5,s_5),(26,s_26),(27,s_27)]
noncomputable def F_10(a0:(List Int)):Option ((List Int)×Bool×Unit) :=
 gd (p_26 ([100,105,97,103],2016,8,false,[([108,111,119],0,32,false,false,1,0,1,0,4294967295,PUnit.unit),([104,105,103,104],32,32,false,false,1,0,1,0,4294967295,PUnit.unit)],PUnit.unit) a0) (bif(v_26 ([100,105,97,103],2016,8,false,[([108,111,119],0,32,false,false,1,0,1,0,4294967295,PUnit.unit),([104,105,103,104],32,32,false,false,1,0,1,0,4294967295,PUnit.unit)],PUnit.unit) a0).2.1 !=0 then some ([],false,PUnit.unit)else gd (p_27 ([100,105,97,103],2016,8,false,[([108,111,119],0,32,false,false,1,0,1,0,4294967295,PUnit.unit),([104,105,103,104],32,32,false,false,1,0,1,0,4294967295,PUnit.unit)],PUnit.unit) ((v_26 ([100,105,97,103],2016,8,false,[([108,111,119],0,32,false,false,1,0,1,0,4294967295,PUnit.unit),([104,105,103,104],32,32,false,false,1,0,1,0,4294967295,PUnit.unit)],PUnit.unit) a0).1)) (bif(v_27 ([100,105,97,103],2016,8,false,[([108,111,119],0,32,false,false,1,0,1,0,4294967295,PUnit.unit),([104,105,103,104],32,32,false,false,1,0,1,0,4294967295,PUnit.unit)],PUnit.unit) ((v_26 ([100,105,97,103],2016,8,false,[([108,111,119],0,32,false,false,1,0,1,0,4294967295,PUnit.unit),([104,105,103,104],32,32,false,false,1,0,1,0,4294967295,PUnit.unit)],PUnit.unit) a0).1)).2.1==0 then gd (p_5 ((v_27 ([100,105,97,103],2016,8,false,[([108,111,119],0,32,false,false,1,0,1,0,4294967295,PUnit.unit),([104,105,103,104],32,32,false,false,1,0,1,0,4294967295,PUnit.unit)],PUnit.unit) ((v_26 ([100,105,97,103],2016,8,false,[([108,111,119],0,32,false,false,1,0,1,0,4294967295,PUnit.unit),([104,105,103,104],32,32,false,false,1,0,1,0,4294967295,PUnit.unit)],PUnit.unit) a0).1)).1) a0) (some ((v_27 ([100,105,97,103],2016,8,false,[([108,111,119],0,32,false,false,1,0,1,0,4294967295,PUnit.unit),([104,105,103,104],32,32,false,false,1,0,1,0,4294967295,PUnit.unit)],PUnit.unit) ((v_26 ([100,105,97,103],2016,8,false,[([108,111,119],0,32,false,false,1,0,1,0,4294967295,PUnit.unit),([104,105,103,104],32,32,false,false,1,0,1,0,4294967295,PUnit.unit)],PUnit.unit) a0).1)).1,(v_5 ((v_27 ([100,105,97,103],2016,8,false,[([108,111,119],0,32,false,false,1,0,1,0,4294967295,PUnit.unit),([104,105,103,104],32,32,false,false,1,0,1,0,4294967295,PUnit.unit)],PUnit.unit) ((v_26 ([100,105,97,103],2016,8,false,[([108,111,119],0,32,false,false,1,0,1,0,4294967295,PUnit.unit),([104,105,103,104],32,32,false,false,1,0,1,0,4294967295,PUnit.unit)],PUnit.unit) a0).1)).1) a0).1,PUnit.unit))else some ((v_27 ([100,105,97,103],2016,8,false,[([108,111,119],0,32,false,false,1,0,1,0,4294967295,PUnit.unit),([104,105,103,104],32,32,false,false,1,0,1,0,4294967295,PUnit.unit)],PUnit.unit) ((v_26 ([100,105,97,103],2016,8,false,[([108,111,119],0,32,false,false,1,0,1,0,4294967295,PUnit.unit),([104,105,103,104],32,32,false,false,1,0,1,0,4294967295,PUnit.unit)],PUnit.unit) a0).1)).1,false,PUnit.unit)))
noncomputable def Sp.p_10(a0:(List Int)):Bool:=(F_10 a0).isSome
noncomputable def Sp.v_10(a0:(List Int)):(List Int)×Bool×Unit:=(F_10 a0).getD (dfH R_10)
noncomputable def s_10:Summ:=shS A_10 R_10 (fun x=>p_10 x.1) (fun x=>v_10 x.1)
theorem pv_10(a0:(List Int)){y:(List Int)×Bool×Unit}(h:F_10 a0=some y):p_10 a0=true/\v_10 a0=y:=pvG h
theorem run_10(x:HDen A_10)(y:HDen R_10)(h:F_10 x.1=some y):rnF sm_10 1 10 A_10 R_10 x y:=runG noO_ok (os:=[]) trivial (Eq.trans (by kernel_rfl) h)
end
noncomputable section
abbrev A_28:List Ty:=[(.slice (.int .u8))]
abbrev R_28:List Ty:=[(.int .i64),.bool]
noncomputable def sm_28:Nat->Option Summ:=smL []
noncomputable def T_28_1:PS:=⟨73,[(4,.hv (.int .i64)),(63,.hv (.slice (.int .u8))),(64,.hv (.int .i64)),(65,.hv (.int .i64))],[],0⟩
inductive Sp.E_28_1 where
 |e0
 |e1 (p0:Int)
noncomputable def Sp.B_28_1{R:Type}(r:Option E_28_1)(k0:Option R)(k1:Int->Option R):Option R:=match r with
 |none=>none
 |some (.e0)=>k0
 |some (.e1 p0)=>k1 p0
theorem Bn_28_1{A R:Type}{r:Option E_28_1}{f:A->Option R}{k0:Option A}{k1:Int->Option A}{l0:Option R}{l1:Int->Option R}(h0:(k0).bind f=l0)(h1:∀p0,(k1 p0).bind f=l1 p0):(B_28_1 r k0 k1).bind f=B_28_1 r l0 l1:=by
 cases r with
 |none=>rfl
 |some e=>cases e<;>first|apply h0|apply h1
noncomputable def Y_28_1{R:Type}(k:Ex->St->Option R):E_28_1->Option R
 | .e0=>k Ex.ret (sx 73 [(2,CV.int i64 0),(3,CV.bool false)] [])
 | .e1 p0=>k (Ex.exit 1) (sx 73 [(4,CV.int i64 p0)] [])
noncomputable def Sp.S_28_1{R:Type}(K:Int->List Int->Int->Int->Option R)(k:E_28_1->Option R)(p0:Int)(p1:List Int)(p2 p3:Int):Option R:=
 bif decide (p3<p2)then gd (inB p3 (length p1)) (bif getD p1 (toNat p3) (0:Int)!=(0:Int)then k (E_28_1.e0)else K p0 p1 p2 (wrap i64 (p3+1)))else k (E_28_1.e1 p0)
noncomputable def Sp.L_28_1:Nat->Int->List Int->Int->Int->Option E_28_1
 |0,_,_,_,_=>none
 |m+1,p0,p1,p2,p3=>S_28_1 (L_28_1 m) some p0 p1 p2 p3
noncomputable def l_28_1(m:Nat)(a:T_28_1.E):Option E_28_1:=L_28_1 m a.1 a.2.1 a.2.2.1 a.2.2.2.1
noncomputable def O_28_1{R:Type}:Orc R:=orL T_28_1 (l_28_1 FU) Y_28_1
theorem OK_28_1{R:Type}:okF (R:=R) sm_28 0 (ni (nf 28 0) 0) O_28_1:=lp0 T_28_1 l_28_1 (fun R K k a=>S_28_1 (fun p0 p1 p2 p3=>K (p0,p1,p2,p3,())) k a.1 a.2.1 a.2.2.1 a.2.2.2.1) Y_28_1 (fun _ _ _=>by kernel_rfl) (fun _ _ _=>by
 unfold S_28_1
 repeat' first|apply gdN|apply condN|rfl) (ok0 _)
noncomputable def T_28_0:PS:=⟨73,[(0,.hv (.slice (.int .u8))),(4,.hv (.int .i64)),(6,.hv (.int .i64))],[],0⟩
inductive Sp.E_28_0 where
 |e0
 |e1 (y1:Int)
noncomputable def Sp.B_28_0{R:Type}(r:Option E_28_0)(k0:Option R)(k1:Int->Option R):Option R:=match r with
 |none=>none
 |some (.e0)=>k0
 |some (.e1 y1)=>k1 y1
noncomputable def Y_28_0{R:Type}(k:Ex->St->Option R):E_28_0->Option R
 | .e0=>k Ex.ret (sx 73 [(2,CV.int i64 0),(3,CV.bool false)] [])
 | .e1 y1=>k Ex.ret (sx 73 [(2,CV.int i64 y1),(3,CV.bool true)] [])
noncomputable def Sp.S_28_0{R:Type}(k:E_28_0->Option R)(p0:List Int)(p1 p2:Int):Option R:=
 gd (sl3 p2 (↑(length p0):Int) (↑(length p0):Int)) (B_28_1 (L_28_1 4611686018427387904 p1 (drop (toNat p2) p0) (↑(length (drop (toNat p2) p0)):Int) 0) (k (E_28_0.e0)) fun y1=>k (E_28_0.e1 y1))
noncomputable def Sp.J_28_0(p0:List Int)(p1 p2:Int):Option E_28_0:=S_28_0 some p0 p1 p2
noncomputable def O_28_0{R:Type}:Orc R:=orL T_28_0 (fun a=>J_28_0 a.1 a.2.1 a.2.2.1) Y_28_0
theorem OK_28_0{R:Type}:okF (R:=R) sm_28 0 (nf 28 0) O_28_0:=jp noO_ok (os:=[O_28_1]) ⟨OK_28_1,trivial⟩ T_28_0 (fun R k a=>S_28_0 k a.1 a.2.1 a.2.2.1) Y_28_0 (fun k a=>by kernel_rfl) (fun Y a=>by
 unfold S_28_0
 repeat' first|apply gdN|apply condN|(apply Bn_28_1<;>intros)|rfl) (ok0 _)
noncomputable def F_28(a0:(List Int)):Option (Int×Bool×Unit) :=
 bif(↑(length a0):Int)!=8 then some (0,false,PUnit.unit)else gd (inB 0 (length a0)) (gd (inB 0 (length a0)) (bif wrap i64 (Int.fdiv (getD a0 0 0) 16)==0 then bif decide (wrap i64 (Sp.andI u8 (getD a0 0 0) 15)<1)then some (0,false,PUnit.unit)else bif decide (wrap i64 (Sp.andI u8 (getD a0 0 0) 15)>7)then some (0,false,PUnit.unit)else B_28_0 (J_28_0 a0 (wrap i64 (Int.fdiv (getD a0 0 0) 16)) (wrap i64 (wrap i64 (Sp.andI u8 (getD a0 0 0) 15)+1))) (some (0,false,PUnit.unit)) fun y4=>some (y4,true,PUnit.unit)else bif wrap i64 (Int.fdiv (getD a0 0 0) 16)==1 then gd (inB 1 (length a0)) (bif decide (Sp.orI i64 (wrap i64 (wrap i64 (Sp.andI u8 (getD a0 0 0) 15)*256)) (wrap i64 (getD a0 1 0))<8)then some (0,false,PUnit.unit)else bif decide (Sp.orI i64 (wrap i64 (wrap i64 (Sp.andI u8 (getD a0 0 0) 15)*256)) (wrap i64 (getD a0 1 0))>1023)then some (0,false,PUnit.unit)else B_28_0 (J_28_0 a0 (wrap i64 (Int.fdiv (getD a0 0 0) 16)) 8) (some (0,false,PUnit.unit)) fun y5=>some (y5,true,PUnit.unit))else bif wrap i64 (Int.fdiv (getD a0 0 0) 16)==2 then B_28_0 (J_28_0 a0 (wrap i64 (Int.fdiv (getD a0 0 0) 16)) 8) (some (0,false,PUnit.unit)) fun y6=>some (y6,true,PUnit.unit)else bif wrap i64 (Int.fdiv (getD a0 0 0) 16)==3 then bif decide (wrap i64 (Sp.andI u8 (getD a0 0 0) 15)>2)then some (0,false,PUnit.unit)else gd (inB 2 (length a0)) (bif decide (getD a0 2 (0:Int)>(127:Int))then some (0,false,PUnit.unit)else B_28_0 (J_28_0 a0 (wrap i64 (Int.fdiv (getD a0 0 0) 16)) 3) (some (0,false,PUnit.unit)) fun y7=>some (y7,true,PUnit.unit))else some (0,false,PUnit.unit)))
noncomputable def Sp.p_28(a0:(List Int)):Bool:=(F_28 a0).isSome
noncomputable def Sp.v_28(a0:(List Int)):Int×Bool×Unit:=(F_28 a0).getD (dfH R_28)
noncomputable def s_28:Summ:=shN A_28 R_28 (fun x=>p_28 x.1) (fun x=>v_28 x.1)
theorem pv_28(a0:(List Int)){y:Int×Bool×Unit}(h:F_28 a0=some y):p_28 a0=true/\v_28 a0=y:=pvG h
theorem run_28(x:HDen A_28)(y:HDen R_28)(h:F_28 x.1=some y):rnF sm_28 1 28 A_28 R_28 x y:=runG noO_ok (os:=[O_28_0]) ⟨OK_28_0,trivial⟩ (Eq.trans (by kernel_rfl) h)
end
noncomputable section
abbrev A_51:List Ty:=[(.int .i64),(.int .i64)]
abbrev R_51:List Ty:=[.bool]
noncomputable def sm_51:Nat->Option Summ:=smL []
noncomputable def F_51(a0 a1:Int):Option (Bool×Unit) :=
 bif decide (a1>7)then bif decide (a1<=1023)then bif decide (a0>=6)then bif decide (a0<a1)then some (Int.tmod (wrap i64 (a0-6)) (7:Int)==(0:Int),PUnit.unit)else some (false,PUnit.unit)else some (false,PUnit.unit)else some (false,PUnit.unit)else some (false,PUnit.unit)
noncomputable def Sp.p_51(a0 a1:Int):Bool:=(F_51 a0 a1).isSome
noncomputable def Sp.v_51(a0 a1:Int):Bool×Unit:=(F_51 a0 a1).getD (dfH R_51)
noncomputable def s_51:Summ:=shN A_51 R_51 (fun x=>p_51 x.1 x.2.1) (fun x=>v_51 x.1 x.2.1)
theorem pv_51(a0 a1:Int){y:Bool×Unit}(h:F_51 a0 a1=some y):p_51 a0 a1=true/\v_51 a0 a1=y:=pvG h
theorem run_51(x:HDen A_51)(y:HDen R_51)(h:F_51 x.1 x.2.1=some y):rnF sm_51 1 51 A_51 R_51 x y:=runG noO_ok (os:=[]) trivial (Eq.trans (by kernel_rfl) h)
end
noncomputable section
abbrev A_52:List Ty:=[(.int .i64),(.int .i64)]
abbrev R_52:List Ty:=[.bool]
noncomputable def sm_52:Nat->Option Summ:=smL []
noncomputable def F_52(a0 a1:Int):Option (Bool×Unit) :=
 bif decide (a0>=0)then bif decide (a0<=255)then bif decide (a1>=0)then bif decide (a1<=255)then bif a0==0 then some (true,PUnit.unit)else some (decide (a1<a0),PUnit.unit)else some (false,PUnit.unit)else some (false,PUnit.unit)else some (false,PUnit.unit)else some (false,PUnit.unit)
noncomputable def Sp.p_52(a0 a1:Int):Bool:=(F_52 a0 a1).isSome
noncomputable def Sp.v_52(a0 a1:Int):Bool×Unit:=(F_52 a0 a1).getD (dfH R_52)
noncomputable def s_52:Summ:=shN A_52 R_52 (fun x=>p_52 x.1 x.2.1) (fun x=>v_52 x.1 x.2.1)
theorem pv_52(a0 a1:Int){y:Bool×Unit}(h:F_52 a0 a1=some y):p_52 a0 a1=true/\v_52 a0 a1=y:=pvG h
theorem run_52(x:HDen A_52)(y:HDen R_52)(h:F_52 x.1 x.2.1=some y):rnF sm_52 1 52 A_52 R_52 x y:=runG noO_ok (os:=[]) trivial (Eq.trans (by kernel_rfl) h)
end
noncomputable section
abbrev A_29:List Ty:=[(.pair (.slice (.int .u8)) (.pair (.int .i64) (.pair (.int .i64) (.pair (.int .i64) (.pair (.int .i64) (.pair .bool (.pair .bool (.pair (.int .i64) (.pair .bool .unit)))))))))]
abbrev R_29:List Ty:=[.bool]
noncomputable def sm_29:Nat->Option Summ:=smL [(22,s_22),(51,s_51),(52,s_52)]
noncomputable def F_29(a0:((List Int)×(Int×(Int×(Int×(Int×(Bool×(Bool×(Int×(Bool×Unit)))))))))):Option (Bool×Unit) :=
 bif decide (a0.2.2.2.1<0)then some (false,PUnit.unit)else bif decide (a0.2.2.2.1>255)then some (false,PUnit.unit)else bif decide (a0.2.2.2.2.2.2.2.1<0)then some (false,PUnit.unit)else bif decide (a0.2.2.2.2.2.2.2.1>1099512627776)then some (false,PUnit.unit)else bif a0.2.2.2.2.2.1 then bif !a0.2.2.2.2.2.2.1 then bif !a0.2.2.2.2.2.2.2.2.1 then gd (p_51 (↑(length (a0.1)):Int) (a0.2.1)) (bif(v_51 (↑(length (a0.1)):Int) (a0.2.1)).1 then bif decide (a0.2.2.1>=0)then bif decide (a0.2.2.1<=15)then gd (p_52 (a0.2.2.2.1) (a0.2.2.2.2.1)) (some ((v_52 (a0.2.2.2.1) (a0.2.2.2.2.1)).1,PUnit.unit))else some (false,PUnit.unit)else some (false,PUnit.unit)else some (false,PUnit.unit))else some (false,PUnit.unit)else some (false,PUnit.unit)else bif a0.2.2.1 !=0 then some (false,PUnit.unit)else bif a0.2.2.2.2.1 !=0 then some (false,PUnit.unit)else bif a0.2.2.2.2.2.2.2.1 !=0 then some (false,PUnit.unit)else bif a0.2.1 !=(↑(length (a0.1)):Int)then some (false,PUnit.unit)else bif a0.2.2.2.2.2.2.1 then bif !a0.2.2.2.2.2.2.2.2.1 then gd (p_22 (a0.1)) (some ((v_22 (a0.1)).1,PUnit.unit))else some (false,PUnit.unit)else some ((↑(length (a0.1)):Int)==0,PUnit.unit)
noncomputable def Sp.p_29(a0:((List Int)×(Int×(Int×(Int×(Int×(Bool×(Bool×(Int×(Bool×Unit)))))))))):Bool:=(F_29 a0).isSome
noncomputable def Sp.v_29(a0:((List Int)×(Int×(Int×(Int×(Int×(Bool×(Bool×(Int×(Bool×Unit)))))))))):Bool×Unit:=(F_29 a0).getD (dfH R_29)
noncomputable def s_29:Summ:=shN A_29 R_29 (fun x=>p_29 x.1) (fun x=>v_29 x.1)
theorem pv_29(a0:((List Int)×(Int×(Int×(Int×(Int×(Bool×(Bool×(Int×(Bool×Unit)))))))))){y:Bool×Unit}(h:F_29 a0=some y):p_29 a0=true/\v_29 a0=y:=pvG h
theorem run_29(x:HDen A_29)(y:HDen R_29)(h:F_29 x.1=some y):rnF sm_29 1 29 A_29 R_29 x y:=runG noO_ok (os:=[]) trivial (Eq.trans (by kernel_rfl) h)
end
noncomputable section
abbrev A_30:List Ty:=[(.int .i64),(.int .i64)]
abbrev R_30:List Ty:=[(.slice (.int .u8))]
noncomputable def sm_30:Nat->Option Summ:=smL [(25,s_25)]
noncomputable def F_30(a0 a1:Int):Option ((List Int)×Unit) :=
 gd (p_25 [48,wrap u8 a0,wrap u8 a1]) (some ((v_25 [48,wrap u8 a0,wrap u8 a1]).1,PUnit.unit))
noncomputable def Sp.p_30(a0 a1:Int):Bool:=(F_30 a0 a1).isSome
noncomputable def Sp.v_30(a0 a1:Int):(List Int)×Unit:=(F_30 a0 a1).getD (dfH R_30)
noncomputable def s_30:Summ:=shS A_30 R_30 (fun x=>p_30 x.1 x.2.1) (fun x=>v_30 x.1 x.2.1)
theorem pv_30(a0 a1:Int){y:(List Int)×Unit}(h:F_30 a0 a1=some y):p_30 a0 a1=true/\v_30 a0 a1=y:=pvG h
theorem run_30(x:HDen A_30)(y:HDen R_30)(h:F_30 x.1 x.2.1=some y):rnF sm_30 1 30 A_30 R_30 x y:=runG noO_ok (os:=[]) trivial (Eq.trans (by kernel_rfl) h)
end
noncomputable section
abbrev A_31:List Ty:=[(.pair (.slice (.int .u8)) (.pair (.int .i64) (.pair (.int .i64) (.pair (.int .i64) (.pair (.int .i64) (.pair .bool (.pair .bool (.pair (.int .i64) (.pair .bool .unit)))))))))]
abbrev R_31:List Ty:=[(.pair (.slice (.int .u8)) (.pair (.int .i64) (.pair (.int .i64) (.pair (.int .i64) (.pair (.int .i64) (.pair .bool (.pair .bool (.pair (.int .i64) (.pair .bool .unit)))))))))]
noncomputable def sm_31:Nat->Option Summ:=smL []
noncomputable def F_31(a0:((List Int)×(Int×(Int×(Int×(Int×(Bool×(Bool×(Int×(Bool×Unit)))))))))):Option (((List Int)×(Int×(Int×(Int×(Int×(Bool×(Bool×(Int×(Bool×Unit)))))))))×Unit) :=
 some (([],0,0,a0.2.2.2.1,0,false,false,0,true,PUnit.unit),PUnit.unit)
noncomputable def Sp.p_31(a0:((List Int)×(Int×(Int×(Int×(Int×(Bool×(Bool×(Int×(Bool×Unit)))))))))):Bool:=(F_31 a0).isSome
noncomputable def Sp.v_31(a0:((List Int)×(Int×(Int×(Int×(Int×(Bool×(Bool×(Int×(Bool×Unit)))))))))):((List Int)×(Int×(Int×(Int×(Int×(Bool×(Bool×(Int×(Bool×Unit)))))))))×Unit:=(F_31 a0).getD (dfH R_31)
noncomputable def s_31:Summ:=shS A_31 R_31 (fun x=>p_31 x.1) (fun x=>v_31 x.1)
theorem run_31(x:HDen A_31)(y:HDen R_31)(h:F_31 x.1=some y):rnF sm_31 1 31 A_31 R_31 x y:=runG noO_ok (os:=[]) trivial (Eq.trans (by kernel_rfl) h)
end
noncomputable section
abbrev A_11:List Ty:=[(.pair (.slice (.int .u8)) (.pair (.int .i64) (.pair (.int .i64) (.pair (.int .i64) (.pair (.int .i64) (.pair .bool (.pair .bool (.pair (.int .i64) (.pair .bool .unit))))))))),(.slice (.int .u8)),(.int .i64)]
abbrev R_11:List Ty:=[(.pair (.slice (.int .u8)) (.pair (.int .i64) (.pair (.int .i64) (.pair (.int .i64) (.pair (.int .i64) (.pair .bool (.pair .bool (.pair (.int .i64) (.pair .bool .unit))))))))),(.slice (.int .u8)),(.int .i64)]
noncomputable def sm_11:Nat->Option Summ:=smL [(23,s_23),(24,s_24),(28,s_28),(29,s_29),(30,s_30),(31,s_31)]
noncomputable def F_11(a0:((List Int)×(Int×(Int×(Int×(Int×(Bool×(Bool×(Int×(Bool×Unit))))))))))(a1:(List Int))(a2:Int):Option (((List Int)×(Int×(Int×(Int×(Int×(Bool×(Bool×(Int×(Bool×Unit)))))))))×(List Int)×Int×Unit) :=
 gd (p_28 a1) (gd (p_29 a0) (bif !(v_29 a0).1 then some (([],0,0,0,0,false,false,0,false,PUnit.unit),[],1,PUnit.unit)else gd (p_23 a2) (bif !(v_23 a2).1 then some (([],0,0,0,0,false,false,0,false,PUnit.unit),[],2,PUnit.unit)else bif !(v_28 a1).2.1 then some (([],0,0,0,0,false,false,0,false,PUnit.unit),[],3,PUnit.unit)else gd (room (length (a0.1)) 1) (gd (inB 0 (length a1)) (bif(v_28 a1).1==0 then gd (sl3 1 (wrap i64 (wrap i64 (Sp.andI u8 (getD a1 0 0) 15)+1)) (↑(length a1):Int)) (gd (room (length (take (toNat (wrap i64 (wrap i64 (Sp.andI u8 (getD a1 0 0) 15)+1))-1) (drop 1 a1))) 1) (some ((take (toNat (wrap i64 (wrap i64 (Sp.andI u8 (getD a1 0 0) 15)+1))-1) (drop 1 a1),wrap i64 (Sp.andI u8 (getD a1 0 0) 15),0,a0.2.2.2.1,0,false,true,0,false,PUnit.unit),[],0,PUnit.unit)))else bif(v_28 a1).1==1 then gd (sl3 2 (↑(length a1):Int) (↑(length a1):Int)) (gd (room (length (drop 2 a1)) 1) (gd (inB 1 (length a1)) (gd (p_30 (a0.2.2.2.1) 0) (some ((drop 2 a1,Sp.orI i64 (wrap i64 (wrap i64 (Sp.andI u8 (getD a1 0 0) 15)*256)) (wrap i64 (getD a1 1 0)),1,a0.2.2.2.1,0,true,false,wrap i64 (a2+1000000),false,PUnit.unit),(v_30 (a0.2.2.2.1) 0).1,0,PUnit.unit)))))else bif(v_28 a1).1==3 then some ((a0.1,a0.2),[],0,PUnit.unit)else bif !a0.2.2.2.2.2.1 then some ((a0.1,a0.2),[],0,PUnit.unit)else bif decide (a2>a0.2.2.2.2.2.2.2.1)then gd (p_31 (a0.1,a0.2)) (some ((v_31 (a0.1,a0.2)).1,[],0,PUnit.unit))else bif wrap i64 (Sp.andI u8 (getD a1 0 0) 15)!=a0.2.2.1 then gd (p_31 (a0.1,a0.2)) (some ((v_31 (a0.1,a0.2)).1,[],0,PUnit.unit))else gd (sl3 1 (wrap i64 ((if wrap i64 (a0.2.1-(↑(length (a0.1)):Int))<7 then wrap i64 (a0.2.1-(↑(length (a0.1)):Int))else 7)+1)) (↑(length a1):Int)) (gd (room (length (a0.1)+length (take (toNat (wrap i64 ((if wrap i64 (a0.2.1-(↑(length (a0.1)):Int))<7 then wrap i64 (a0.2.1-(↑(length (a0.1)):Int))else 7)+1))-1) (drop 1 a1))) 1) (bif(↑(length (a0.1++take (toNat (wrap i64 ((if wrap i64 (a0.2.1-(↑(length (a0.1)):Int))<7 then wrap i64 (a0.2.1-(↑(length (a0.1)):Int))else 7)+1))-1) (drop 1 a1))):Int)==a0.2.1 then some ((a0.1++take (toNat (wrap i64 ((if wrap i64 (a0.2.1-(↑(length (a0.1)):Int))<7 then wrap i64 (a0.2.1-(↑(length (a0.1)):Int))else 7)+1))-1) (drop 1 a1),a0.2.1,0,a0.2.2.2.1,0,false,true,0,false,PUnit.unit),[],0,PUnit.unit)else bif a0.2.2.2.1==0 then some ((a0.1++take (toNat (wrap i64 ((if wrap i64 (a0.2.1-(↑(length (a0.1)):Int))<7 then wrap i64 (a0.2.1-(↑(length (a0.1)):Int))else 7)+1))-1) (drop 1 a1),a0.2.1,Int.tmod (wrap i64 (a0.2.2.1+1)) 16,a0.2.2.2.1,a0.2.2.2.2.1,a0.2.2.2.2.2.1,a0.2.2.2.2.2.2.1,wrap i64 (a2+1000000),a0.2.2.2.2.2.2.2.2),[],0,PUnit.unit)else bif wrap i64 (a0.2.2.2.2.1+1)==a0.2.2.2.1 then gd (p_30 (a0.2.2.2.1) 0) (some ((a0.1++take (toNat (wrap i64 ((if wrap i64 (a0.2.1-(↑(length (a0.1)):Int))<7 then wrap i64 (a0.2.1-(↑(length (a0.1)):Int))else 7)+1))-1) (drop 1 a1),a0.2.1,Int.tmod (wrap i64 (a0.2.2.1+1)) 16,a0.2.2.2.1,0,a0.2.2.2.2.2.1,a0.2.2.2.2.2.2.1,wrap i64 (a2+1000000),a0.2.2.2.2.2.2.2.2),(v_30 (a0.2.2.2.1) 0).1,0,PUnit.unit))else some ((a0.1++take (toNat (wrap i64 ((if wrap i64 (a0.2.1-(↑(length (a0.1)):Int))<7 then wrap i64 (a0.2.1-(↑(length (a0.1)):Int))else 7)+1))-1) (drop 1 a1),a0.2.1,Int.tmod (wrap i64 (a0.2.2.1+1)) 16,a0.2.2.2.1,wrap i64 (a0.2.2.2.2.1+1),a0.2.2.2.2.2.1,a0.2.2.2.2.2.2.1,wrap i64 (a2+1000000),a0.2.2.2.2.2.2.2.2),[],0,PUnit.unit))))))))
noncomputable def Sp.p_11(a0:((List Int)×(Int×(Int×(Int×(Int×(Bool×(Bool×(Int×(Bool×Unit))))))))))(a1:(List Int))(a2:Int):Bool:=(F_11 a0 a1 a2).isSome
noncomputable def Sp.v_11(a0:((List Int)×(Int×(Int×(Int×(Int×(Bool×(Bool×(Int×(Bool×Unit))))))))))(a1:(List Int))(a2:Int):((List Int)×(Int×(Int×(Int×(Int×(Bool×(Bool×(Int×(Bool×Unit)))))))))×(List Int)×Int×Unit:=(F_11 a0 a1 a2).getD (dfH R_11)
noncomputable def s_11:Summ:=shS A_11 R_11 (fun x=>p_11 x.1 x.2.1 x.2.2.1) (fun x=>v_11 x.1 x.2.1 x.2.2.1)
theorem pv_11(a0:((List Int)×(Int×(Int×(Int×(Int×(Bool×(Bool×(Int×(Bool×Unit))))))))))(a1:(List Int))(a2:Int){y:((List Int)×(Int×(Int×(Int×(Int×(Bool×(Bool×(Int×(Bool×Unit)))))))))×(List Int)×Int×Unit}(h:F_11 a0 a1 a2=some y):p_11 a0 a1 a2=true/\v_11 a0 a1 a2=y:=pvG h
theorem run_11(x:HDen A_11)(y:HDen R_11)(h:F_11 x.1 x.2.1 x.2.2.1=some y):rnF sm_11 1 11 A_11 R_11 x y:=runG noO_ok (os:=[]) trivial (Eq.trans (by kernel_rfl) h)
end
noncomputable section
abbrev A_32:List Ty:=[(.pair (.slice (.int .u8)) (.pair (.int .i64) (.pair (.int .i64) (.pair (.int .i64) (.pair (.int .i64) (.pair .bool (.pair (.int .i64) (.pair (.int .i64) (.pair .bool .unit)))))))))]
abbrev R_32:List Ty:=[.bool]
noncomputable def sm_32:Nat->Option Summ:=smL [(22,s_22),(51,s_51),(52,s_52)]
noncomputable def F_32(a0:((List Int)×(Int×(Int×(Int×(Int×(Bool×(Int×(Int×(Bool×Unit)))))))))):Option (Bool×Unit) :=
 gd (p_22 (a0.1)) (bif !(v_22 (a0.1)).1 then some (false,PUnit.unit)else gd (p_52 (a0.2.2.2.1) (a0.2.2.2.2.1)) (bif !(v_52 (a0.2.2.2.1) (a0.2.2.2.2.1)).1 then some (false,PUnit.unit)else bif decide (a0.2.2.1<0)then some (false,PUnit.unit)else bif decide (a0.2.2.1>15)then some (false,PUnit.unit)else bif decide (a0.2.2.2.2.2.2.1<0)then some (false,PUnit.unit)else bif decide (a0.2.2.2.2.2.2.1>127)then some (false,PUnit.unit)else bif decide (a0.2.2.2.2.2.2.2.1<0)then some (false,PUnit.unit)else bif decide (a0.2.2.2.2.2.2.2.1>1099512627776)then some (false,PUnit.unit)else bif a0.2.1==(↑(length (a0.1)):Int)then bif !a0.2.2.2.2.2.1 then some (!a0.2.2.2.2.2.2.2.2.1,PUnit.unit)else some (false,PUnit.unit)else gd (p_51 (a0.2.1) (↑(length (a0.1)):Int)) (bif(v_51 (a0.2.1) (↑(length (a0.1)):Int)).1 then bif a0.2.2.2.2.2.1 then some (!a0.2.2.2.2.2.2.2.2.1,PUnit.unit)else some (true,PUnit.unit)else some (false,PUnit.unit))))
noncomputable def Sp.p_32(a0:((List Int)×(Int×(Int×(Int×(Int×(Bool×(Int×(Int×(Bool×Unit)))))))))):Bool:=(F_32 a0).isSome
noncomputable def Sp.v_32(a0:((List Int)×(Int×(Int×(Int×(Int×(Bool×(Int×(Int×(Bool×Unit)))))))))):Bool×Unit:=(F_32 a0).getD (dfH R_32)
noncomputable def s_32:Summ:=shN A_32 R_32 (fun x=>p_32 x.1) (fun x=>v_32 x.1)
theorem pv_32(a0:((List Int)×(Int×(Int×(Int×(Int×(Bool×(Int×(Int×(Bool×Unit)))))))))){y:Bool×Unit}(h:F_32 a0=some y):p_32 a0=true/\v_32 a0=y:=pvG h
theorem run_32(x:HDen A_32)(y:HDen R_32)(h:F_32 x.1=some y):rnF sm_32 1 32 A_32 R_32 x y:=runG noO_ok (os:=[]) trivial (Eq.trans (by kernel_rfl) h)
end
noncomputable section
abbrev A_12:List Ty:=[(.pair (.slice (.int .u8)) (.pair (.int .i64) (.pair (.int .i64) (.pair (.int .i64) (.pair (.int .i64) (.pair .bool (.pair (.int .i64) (.pair (.int .i64) (.pair .bool .unit))))))))),(.slice (.int .u8)),(.int .i64)]
abbrev R_12:List Ty:=[(.pair (.slice (.int .u8)) (.pair (.int .i64) (.pair (.int .i64) (.pair (.int .i64) (.pair (.int .i64) (.pair .bool (.pair (.int .i64) (.pair (.int .i64) (.pair .bool .unit))))))))),(.int .i64)]
noncomputable def sm_12:Nat->Option Summ:=smL [(23,s_23),(24,s_24),(28,s_28),(32,s_32)]
noncomputable def F_12(a0:((List Int)×(Int×(Int×(Int×(Int×(Bool×(Int×(Int×(Bool×Unit))))))))))(a1:(List Int))(a2:Int):Option (((List Int)×(Int×(Int×(Int×(Int×(Bool×(Int×(Int×(Bool×Unit)))))))))×Int×Unit) :=
 gd (p_28 a1) (gd (p_32 a0) (bif !(v_32 a0).1 then some (([],0,0,0,0,false,0,0,false,PUnit.unit),1,PUnit.unit)else gd (p_23 a2) (bif !(v_23 a2).1 then some (([],0,0,0,0,false,0,0,false,PUnit.unit),2,PUnit.unit)else bif !(v_28 a1).2.1 then some (([],0,0,0,0,false,0,0,false,PUnit.unit),3,PUnit.unit)else bif(v_28 a1).1 !=3 then some (([],0,0,0,0,false,0,0,false,PUnit.unit),3,PUnit.unit)else bif !a0.2.2.2.2.2.1 then some (([],0,0,0,0,false,0,0,false,PUnit.unit),6,PUnit.unit)else bif decide (a2>a0.2.2.2.2.2.2.2.1)then some (([],0,0,0,0,false,0,0,false,PUnit.unit),16,PUnit.unit)else gd (room (length (a0.1)) 1) (gd (inB 0 (length a1)) (bif Sp.andI u8 (getD a1 0 0) (15:Int)==(0:Int)then gd (inB 1 (length a1)) (gd (inB 2 (length a1)) (some ((a0.1,a0.2.1,a0.2.2.1,wrap i64 (getD a1 1 0),0,false,wrap i64 (getD a1 2 0),a2,a0.2.2.2.2.2.2.2.2),0,PUnit.unit)))else bif Sp.andI u8 (getD a1 0 0) (15:Int)==(1:Int)then some ((a0.1,a0.2.1,a0.2.2.1,a0.2.2.2.1,a0.2.2.2.2.1,a0.2.2.2.2.2.1,a0.2.2.2.2.2.2.1,wrap i64 (a2+1000000),a0.2.2.2.2.2.2.2.2),0,PUnit.unit)else some ((a0.1,a0.2.1,a0.2.2.1,a0.2.2.2.1,a0.2.2.2.2.1,false,a0.2.2.2.2.2.2.1,a0.2.2.2.2.2.2.2.1,true,a0.2.2.2.2.2.2.2.2.2),0,PUnit.unit))))))
noncomputable def Sp.p_12(a0:((List Int)×(Int×(Int×(Int×(Int×(Bool×(Int×(Int×(Bool×Unit))))))))))(a1:(List Int))(a2:Int):Bool:=(F_12 a0 a1 a2).isSome
noncomputable def Sp.v_12(a0:((List Int)×(Int×(Int×(Int×(Int×(Bool×(Int×(Int×(Bool×Unit))))))))))(a1:(List Int))(a2:Int):((List Int)×(Int×(Int×(Int×(Int×(Bool×(Int×(Int×(Bool×Unit)))))))))×Int×Unit:=(F_12 a0 a1 a2).getD (dfH R_12)
noncomputable def s_12:Summ:=shS A_12 R_12 (fun x=>p_12 x.1 x.2.1 x.2.2.1) (fun x=>v_12 x.1 x.2.1 x.2.2.1)
theorem pv_12(a0:((List Int)×(Int×(Int×(Int×(Int×(Bool×(Int×(Int×(Bool×Unit))))))))))(a1:(List Int))(a2:Int){y:((List Int)×(Int×(Int×(Int×(Int×(Bool×(Int×(Int×(Bool×Unit)))))))))×Int×Unit}(h:F_12 a0 a1 a2=some y):p_12 a0 a1 a2=true/\v_12 a0 a1 a2=y:=pvG h
theorem run_12(x:HDen A_12)(y:HDen R_12)(h:F_12 x.1 x.2.1 x.2.2.1=some y):rnF sm_12 1 12 A_12 R_12 x y:=runG noO_ok (os:=[]) trivial (Eq.trans (by kernel_rfl) h)
end
noncomputable section
abbrev Zt13_0:Type:=Int×Int×Int×Int×Bool×Int×Int×Bool×Unit
abbrev Zy13_1:Ty:=(.pair (.int .i64) (.pair (.int .i64) (.pair (.int .i64) (.pair (.int .i64) (.pair .bool (.pair (.int .i64) (.pair (.int .i64) (.pair .bool .unit))))))))
abbrev Zt13_2:Type:=Int×(Int×(Int×(Int×(Bool×(Int×(Int×(Bool×Unit)))))))
abbrev A_13:List Ty:=[(.pair (.slice (.int .u8)) (.pair (.int .i64) (.pair (.int .i64) (.pair (.int .i64) (.pair (.int .i64) (.pair .bool (.pair (.int .i64) (.pair (.int .i64) (.pair .bool .unit))))))))),(.int .i64)]
abbrev R_13:List Ty:=[(.pair (.slice (.int .u8)) (.pair (.int .i64) (.pair (.int .i64) (.pair (.int .i64) (.pair (.int .i64) (.pair .bool (.pair (.int .i64) (.pair (.int .i64) (.pair .bool .unit))))))))),(.slice (.int .u8)),(.int .i64)]
noncomputable def sm_13:Nat->Option Summ:=smL [(23,s_23),(24,s_24),(25,s_25),(32,s_32)]
noncomputable def T_13_0:PS:=⟨114,[(1,.hv (.int .i64)),(2,.kc (.ptr 0 [])),(4,.kc (.ptr 2 [])),(8,.hv (.slice (.int .u8)))],[.mem (.pr (.kc (.whole 1)) (.hv Zy13_1)),.vec 5 (.int .u8),.mem (.pr (.kc (.whole 3)) (.hv Zy13_1)),.vec 5 (.int .u8)],0⟩
inductive Sp.E_13_0 where
 |e0 (p0:Int) (p1:List Int) (p2:Zt13_0) (p3:List Int) (p4:Zt13_0) (p5:List Int)
 |e1 (p0:Int) (p1:List Int) (p2:Zt13_0) (p3:List Int) (p4:Zt13_0) (p5:List Int)
noncomputable def Sp.B_13_0{R:Type}(r:Option E_13_0)(k0 k1:Int->List Int->Zt13_0->List Int->Zt13_0->List Int->Option R):Option R:=match r with
 |none=>none
 |some (.e0 p0 p1 p2 p3 p4 p5)=>k0 p0 p1 p2 p3 p4 p5
 |some (.e1 p0 p1 p2 p3 p4 p5)=>k1 p0 p1 p2 p3 p4 p5
noncomputable def Y_13_0{R:Type}(k:Ex->St->Option R):E_13_0->Option R
 | .e0 p0 p1 p2 p3 p4 p5=>k Ex.normal (sx 114 [(1,CV.int i64 p0),(2,CV.ptr 0 []),(4,CV.ptr 2 []),(8,CV.pure (Ty.slice (Ty.int u8)) p1),(76,CV.int i64 p0),(77,CV.ptr 0 [Step.f 6 6]),(78,CV.int i64 (p2.2.2.2.2.2.1)),(79,CV.int i64 (wrap i64 (1000*p2.2.2.2.2.2.1))),(80,CV.int i64 (wrap i64 (p0+wrap i64 (1000*p2.2.2.2.2.2.1)))),(81,CV.ptr 0 [Step.f 7 7]),(82,CV.ptr 0 [Step.f 3 3]),(83,CV.int i64 (p2.2.2.1)),(84,CV.bool true),(85,CV.ptr 0 [Step.f 4 4])] [Blk.mem (CV.pair (CV.whole 1) (CV.pure (Ty.pair (Ty.int i64) (Ty.pair (Ty.int i64) (Ty.pair (Ty.int i64) (Ty.pair (Ty.int i64) (Ty.pair Ty.bool (Ty.pair (Ty.int i64) (Ty.pair (Ty.int i64) (Ty.pair Ty.bool Ty.unit)))))))) ((p2.1,p2.2.1,p2.2.2.1,0,p2.2.2.2.2.1,p2.2.2.2.2.2.1,wrap i64 (p0+wrap i64 (1000*p2.2.2.2.2.2.1)),p2.2.2.2.2.2.2.2):(Zt13_2)))),Blk.vec 5 (Ty.int u8) p3,Blk.mem (CV.pair (CV.whole 3) (CV.pure (Ty.pair (Ty.int i64) (Ty.pair (Ty.int i64) (Ty.pair (Ty.int i64) (Ty.pair (Ty.int i64) (Ty.pair Ty.bool (Ty.pair (Ty.int i64) (Ty.pair (Ty.int i64) (Ty.pair Ty.bool Ty.unit)))))))) p4)),Blk.vec 5 (Ty.int u8) p5])
 | .e1 p0 p1 p2 p3 p4 p5=>k Ex.normal (sx 114 [(1,CV.int i64 p0),(2,CV.ptr 0 []),(4,CV.ptr 2 []),(8,CV.pure (Ty.slice (Ty.int u8)) p1),(76,CV.int i64 p0),(77,CV.ptr 0 [Step.f 6 6]),(78,CV.int i64 (p2.2.2.2.2.2.1)),(79,CV.int i64 (wrap i64 (1000*p2.2.2.2.2.2.1))),(80,CV.int i64 (wrap i64 (p0+wrap i64 (1000*p2.2.2.2.2.2.1)))),(81,CV.ptr 0 [Step.f 7 7]),(82,CV.ptr 0 [Step.f 3 3]),(83,CV.int i64 (p2.2.2.1)),(84,CV.bool false)] [Blk.mem (CV.pair (CV.whole 1) (CV.pure (Ty.pair (Ty.int i64) (Ty.pair (Ty.int i64) (Ty.pair (Ty.int i64) (Ty.pair (Ty.int i64) (Ty.pair Ty.bool (Ty.pair (Ty.int i64) (Ty.pair (Ty.int i64) (Ty.pair Ty.bool Ty.unit)))))))) ((p2.1,p2.2.1,p2.2.2.1,p2.2.2.2.1,p2.2.2.2.2.1,p2.2.2.2.2.2.1,wrap i64 (p0+wrap i64 (1000*p2.2.2.2.2.2.1)),p2.2.2.2.2.2.2.2):(Zt13_2)))),Blk.vec 5 (Ty.int u8) p3,Blk.mem (CV.pair (CV.whole 3) (CV.pure (Ty.pair (Ty.int i64) (Ty.pair (Ty.int i64) (Ty.pair (Ty.int i64) (Ty.pair (Ty.int i64) (Ty.pair Ty.bool (Ty.pair (Ty.int i64) (Ty.pair (Ty.int i64) (Ty.pair Ty.bool Ty.unit)))))))) p4)),Blk.vec 5 (Ty.int u8) p5])
noncomputable def Sp.S_13_0{R:Type}(k:E_13_0->Option R)(p0:Int)(p1:List Int)(p2:Int×Int×Int×Int×Bool×Int×Int×Bool×Unit)(p3:List Int)(p4:Int×Int×Int×Int×Bool×Int×Int×Bool×Unit)(p5:List Int):Option R:=
 bif p2.2.2.1==0 then k (E_13_0.e0 p0 p1 p2 p3 p4 p5)else k (E_13_0.e1 p0 p1 p2 p3 p4 p5)
noncomputable def Sp.J_13_0(p0:Int)(p1:List Int)(p2:Int×Int×Int×Int×Bool×Int×Int×Bool×Unit)(p3:List Int)(p4:Int×Int×Int×Int×Bool×Int×Int×Bool×Unit)(p5:List Int):Option E_13_0:=S_13_0 some p0 p1 p2 p3 p4 p5
noncomputable def O_13_0{R:Type}:Orc R:=orL T_13_0 (fun a=>J_13_0 a.1 a.2.1 a.2.2.1 a.2.2.2.1 a.2.2.2.2.1 a.2.2.2.2.2.1) Y_13_0
theorem OK_13_0{R:Type}:okF (R:=R) sm_13 0 (nf 13 0) O_13_0:=jp noO_ok (os:=[]) trivial T_13_0 (fun R k a=>S_13_0 k a.1 a.2.1 a.2.2.1 a.2.2.2.1 a.2.2.2.2.1 a.2.2.2.2.2.1) Y_13_0 (fun k a=>by kernel_rfl) (fun Y a=>by
 unfold S_13_0
 repeat' first|apply gdN|apply condN|rfl) (ok0 _)
noncomputable def F_13(a0:((List Int)×(Int×(Int×(Int×(Int×(Bool×(Int×(Int×(Bool×Unit))))))))))(a1:Int):Option (((List Int)×(Int×(Int×(Int×(Int×(Bool×(Int×(Int×(Bool×Unit)))))))))×(List Int)×Int×Unit) :=
 gd (p_32 a0) (bif !(v_32 a0).1 then some (([],0,0,0,0,false,0,0,false,PUnit.unit),[],1,PUnit.unit)else gd (p_23 a1) (bif !(v_23 a1).1 then some (([],0,0,0,0,false,0,0,false,PUnit.unit),[],2,PUnit.unit)else bif a0.2.1==(↑(length (a0.1)):Int)then some (([],0,0,0,0,false,0,0,false,PUnit.unit),[],6,PUnit.unit)else bif a0.2.2.2.2.2.2.2.2.1 then some (([],0,0,0,0,false,0,0,false,PUnit.unit),[],6,PUnit.unit)else bif a0.2.2.2.2.2.1 then some (([],0,0,0,0,false,0,0,false,PUnit.unit),[],6,PUnit.unit)else bif decide (a1<a0.2.2.2.2.2.2.2.1)then some (([],0,0,0,0,false,0,0,false,PUnit.unit),[],16,PUnit.unit)else gd (room (length (a0.1)) 1) (gd (sl3 (a0.2.1) (if(↑(length (a0.1)):Int)<wrap i64 (a0.2.1+7)then(↑(length (a0.1)):Int)else wrap i64 (a0.2.1+7)) (↑(length (a0.1)):Int)) (gd (decide (toNat (a0.2.1)+(toNat (if(↑(length (a0.1)):Int)<wrap i64 (a0.2.1+7)then(↑(length (a0.1)):Int)else wrap i64 (a0.2.1+7))-toNat (a0.2.1))<=length (a0.1))&&room (1+length (take (toNat (if(↑(length (a0.1)):Int)<wrap i64 (a0.2.1+7)then(↑(length (a0.1)):Int)else wrap i64 (a0.2.1+7))-toNat (a0.2.1)) (drop (toNat (a0.2.1)) (a0.1)))) 1) (gd (p_25 ([wrap u8 (Sp.orI i64 32 (a0.2.2.1))]++take (toNat (if(↑(length (a0.1)):Int)<wrap i64 (a0.2.1+7)then(↑(length (a0.1)):Int)else wrap i64 (a0.2.1+7))-toNat (a0.2.1)) (drop (toNat (a0.2.1)) (a0.1)))) (bif(if(↑(length (a0.1)):Int)<wrap i64 (a0.2.1+7)then(↑(length (a0.1)):Int)else wrap i64 (a0.2.1+7))==(↑(length (a0.1)):Int)then some ((a0.1,if(↑(length (a0.1)):Int)<wrap i64 (a0.2.1+7)then(↑(length (a0.1)):Int)else wrap i64 (a0.2.1+7),0,0,0,false,0,0,false,PUnit.unit),(v_25 ([wrap u8 (Sp.orI i64 32 (a0.2.2.1))]++take (toNat (if(↑(length (a0.1)):Int)<wrap i64 (a0.2.1+7)then(↑(length (a0.1)):Int)else wrap i64 (a0.2.1+7))-toNat (a0.2.1)) (drop (toNat (a0.2.1)) (a0.1)))).1,0,PUnit.unit)else bif a0.2.2.2.1 !=0 then bif wrap i64 (a0.2.2.2.2.1+1)==a0.2.2.2.1 then some ((a0.1,if(↑(length (a0.1)):Int)<wrap i64 (a0.2.1+7)then(↑(length (a0.1)):Int)else wrap i64 (a0.2.1+7),Int.tmod (wrap i64 (a0.2.2.1+1)) 16,a0.2.2.2.1,0,true,a0.2.2.2.2.2.2.1,wrap i64 (a1+1000000),a0.2.2.2.2.2.2.2.2),(v_25 ([wrap u8 (Sp.orI i64 32 (a0.2.2.1))]++take (toNat (if(↑(length (a0.1)):Int)<wrap i64 (a0.2.1+7)then(↑(length (a0.1)):Int)else wrap i64 (a0.2.1+7))-toNat (a0.2.1)) (drop (toNat (a0.2.1)) (a0.1)))).1,0,PUnit.unit)else B_13_0 (J_13_0 a1 ((v_25 ([wrap u8 (Sp.orI i64 32 (a0.2.2.1))]++take (toNat (if(↑(length (a0.1)):Int)<wrap i64 (a0.2.1+7)then(↑(length (a0.1)):Int)else wrap i64 (a0.2.1+7))-toNat (a0.2.1)) (drop (toNat (a0.2.1)) (a0.1)))).1) (if(↑(length (a0.1)):Int)<wrap i64 (a0.2.1+7)then(↑(length (a0.1)):Int)else wrap i64 (a0.2.1+7),Int.tmod (wrap i64 (a0.2.2.1+1)) 16,a0.2.2.2.1,wrap i64 (a0.2.2.2.2.1+1),a0.2.2.2.2.2) (a0.1) (0,0,0,0,false,0,0,false,PUnit.unit) []) (fun y98 y99 y100 y101 y102 y103=>some ((y101,y100.1,y100.2.1,y100.2.2.1,0,y100.2.2.2.2.1,y100.2.2.2.2.2.1,wrap i64 (y98+wrap i64 (1000*y100.2.2.2.2.2.1)),y100.2.2.2.2.2.2.2),y99,0,PUnit.unit)) fun y104 y105 y106 y107 y108 y109=>some ((y107,y106.1,y106.2.1,y106.2.2.1,y106.2.2.2.1,y106.2.2.2.2.1,y106.2.2.2.2.2.1,wrap i64 (y104+wrap i64 (1000*y106.2.2.2.2.2.1)),y106.2.2.2.2.2.2.2),y105,0,PUnit.unit)else B_13_0 (J_13_0 a1 ((v_25 ([wrap u8 (Sp.orI i64 32 (a0.2.2.1))]++take (toNat (if(↑(length (a0.1)):Int)<wrap i64 (a0.2.1+7)then(↑(length (a0.1)):Int)else wrap i64 (a0.2.1+7))-toNat (a0.2.1)) (drop (toNat (a0.2.1)) (a0.1)))).1) (if(↑(length (a0.1)):Int)<wrap i64 (a0.2.1+7)then(↑(length (a0.1)):Int)else wrap i64 (a0.2.1+7),Int.tmod (wrap i64 (a0.2.2.1+1)) 16,a0.2.2.2.1,wrap i64 (a0.2.2.2.2.1+1),a0.2.2.2.2.2) (a0.1) (0,0,0,0,false,0,0,false,PUnit.unit) []) (fun y122 y123 y124 y125 y126 y127=>some ((y125,y124.1,y124.2.1,y124.2.2.1,0,y124.2.2.2.2.1,y124.2.2.2.2.2.1,wrap i64 (y122+wrap i64 (1000*y124.2.2.2.2.2.1)),y124.2.2.2.2.2.2.2),y123,0,PUnit.unit)) fun y128 y129 y130 y131 y132 y133=>some ((y131,y130.1,y130.2.1,y130.2.2.1,y130.2.2.2.1,y130.2.2.2.2.1,y130.2.2.2.2.2.1,wrap i64 (y128+wrap i64 (1000*y130.2.2.2.2.2.1)),y130.2.2.2.2.2.2.2),y129,0,PUnit.unit)))))))
noncomputable def Sp.p_13(a0:((List Int)×(Int×(Int×(Int×(Int×(Bool×(Int×(Int×(Bool×Unit))))))))))(a1:Int):Bool:=(F_13 a0 a1).isSome
noncomputable def Sp.v_13(a0:((List Int)×(Int×(Int×(Int×(Int×(Bool×(Int×(Int×(Bool×Unit))))))))))(a1:Int):((List Int)×(Int×(Int×(Int×(Int×(Bool×(Int×(Int×(Bool×Unit)))))))))×(List Int)×Int×Unit:=(F_13 a0 a1).getD (dfH R_13)
noncomputable def s_13:Summ:=shS A_13 R_13 (fun x=>p_13 x.1 x.2.1) (fun x=>v_13 x.1 x.2.1)
theorem pv_13(a0:((List Int)×(Int×(Int×(Int×(Int×(Bool×(Int×(Int×(Bool×Unit))))))))))(a1:Int){y:((List Int)×(Int×(Int×(Int×(Int×(Bool×(Int×(Int×(Bool×Unit)))))))))×(List Int)×Int×Unit}(h:F_13 a0 a1=some y):p_13 a0 a1=true/\v_13 a0 a1=y:=pvG h
theorem run_13(x:HDen A_13)(y:HDen R_13)(h:F_13 x.1 x.2.1=some y):rnF sm_13 1 13 A_13 R_13 x y:=runG noO_ok (os:=[O_13_0]) ⟨OK_13_0,trivial⟩ (Eq.trans (by kernel_rfl) h)
end
noncomputable section
abbrev Zt4_0:Type:=List Int×Int×Int×Int×Int×Bool×Bool×Int×Bool×Unit
abbrev Zy4_1:Ty:=(.pair (.slice (.int .u8)) (.pair (.int .i64) (.pair (.int .i64) (.pair (.int .i64) (.pair (.int .i64) (.pair .bool (.pair (.int .i64) (.pair (.int .i64) (.pair .bool .unit)))))))))
abbrev Zt4_2:Type:=Int×Int×Int×Int×Bool×Bool×Int×Bool×Unit
abbrev A_4:List Ty:=[(.slice (.int .u8)),(.int .u8),(.int .i64)]
abbrev R_4:List Ty:=[(.slice (.int .u8)),.bool]
noncomputable def sm_4:Nat->Option Summ:=smL [(9,s_9),(10,s_10),(11,s_11),(12,s_12),(13,s_13)]
noncomputable def T_4_0_1:PS:=⟨85,[(2,.hv (.int .i64)),(8,.kc (.ptr 0 [])),(9,.hv (.slice (.int .u8))),(10,.hv (.int .i64)),(11,.kc (.ptr 1 [])),(30,.hv (.int .i64)),(31,.hv (.int .i64))],[.mem (.hv Zy4_1),.mem (.hv (.pair (.slice (.int .u8)) (.pair (.int .i64) (.pair (.int .i64) (.pair (.int .i64) (.pair (.int .i64) (.pair .bool (.pair .bool (.pair (.int .i64) (.pair .bool .unit))))))))))],0⟩
inductive Sp.E_4_0_1 where
 |e0
 |e1 (p0:Int) (p1:List Int) (p6:Zt4_0)
 |e2
noncomputable def Sp.B_4_0_1{R:Type}(r:Option E_4_0_1)(k0:Option R)(k1:Int->List Int->Zt4_0->Option R)(k2:Option R):Option R:=match r with
 |none=>none
 |some (.e0)=>k0
 |some (.e1 p0 p1 p6)=>k1 p0 p1 p6
 |some (.e2)=>k2
noncomputable def Y_4_0_1{R:Type}(k:Ex->St->Option R):E_4_0_1->Option R
 | .e0=>k Ex.ret (sx 85 [(6,CV.whole 0),(7,CV.bool false)] [Blk.vec 5 (Ty.int u8) []])
 | .e1 p0 p1 p6=>k Ex.ret (sx 85 [(6,CV.pure (Ty.slice (Ty.int u8)) (((v_11 p6 ((v_10 p1).1) p0).1.1):(List Int))),(7,CV.bool true)] [])
 | .e2=>k (Ex.exit 0) (sx 85 [] [])
noncomputable def Sp.S_4_0_1{R:Type}(K:Int->List Int->Int->Int->Int->(List Int×Int×Int×Int×Int×Bool×Int×Int×Bool×Unit)->(List Int×Int×Int×Int×Int×Bool×Bool×Int×Bool×Unit)->Option R)(k:E_4_0_1->Option R)(p0:Int)(p1:List Int)(p2 p3 p4:Int)(p5:List Int×Int×Int×Int×Int×Bool×Int×Int×Bool×Unit)(p6:List Int×Int×Int×Int×Int×Bool×Bool×Int×Bool×Unit):Option R:=
 bif decide (p4<p3)then gd (p_10 p1) (bif p2 !=0 then k (E_4_0_1.e0)else bif !(v_10 p1).2.1 then k (E_4_0_1.e0)else gd (p_11 p6 ((v_10 p1).1) p0) (bif(v_11 p6 ((v_10 p1).1) p0).2.2.1 !=0 then k (E_4_0_1.e0)else bif(v_11 p6 ((v_10 p1).1) p0).1.2.2.2.2.2.2.1 then k (E_4_0_1.e1 p0 p1 p6)else bif decide ((↑(length ((v_11 p6 ((v_10 p1).1) p0).2.1)):Int)>0)then gd (p_10 ((v_11 p6 ((v_10 p1).1) p0).2.1)) (bif !(v_10 ((v_11 p6 ((v_10 p1).1) p0).2.1)).2.1 then k (E_4_0_1.e0)else gd (p_12 p5 ((v_10 ((v_11 p6 ((v_10 p1).1) p0).2.1)).1) p0) (bif(v_12 p5 ((v_10 ((v_11 p6 ((v_10 p1).1) p0).2.1)).1) p0).2.1 !=0 then k (E_4_0_1.e0)else gd (p_13 ((v_12 p5 ((v_10 ((v_11 p6 ((v_10 p1).1) p0).2.1)).1) p0).1) p0) (K p0 ((v_13 ((v_12 p5 ((v_10 ((v_11 p6 ((v_10 p1).1) p0).2.1)).1) p0).1) p0).2.1) ((v_13 ((v_12 p5 ((v_10 ((v_11 p6 ((v_10 p1).1) p0).2.1)).1) p0).1) p0).2.2.1) p3 (wrap i64 (p4+1)) ((v_13 ((v_12 p5 ((v_10 ((v_11 p6 ((v_10 p1).1) p0).2.1)).1) p0).1) p0).1) ((v_11 p6 ((v_10 p1).1) p0).1))))else gd (p_13 p5 p0) (K p0 ((v_13 p5 p0).2.1) ((v_13 p5 p0).2.2.1) p3 (wrap i64 (p4+1)) ((v_13 p5 p0).1) ((v_11 p6 ((v_10 p1).1) p0).1))))else k (E_4_0_1.e2)
noncomputable def Sp.L_4_0_1:Nat->Int->List Int->Int->Int->Int->(List Int×Int×Int×Int×Int×Bool×Int×Int×Bool×Unit)->(List Int×Int×Int×Int×Int×Bool×Bool×Int×Bool×Unit)->Option E_4_0_1
 |0,_,_,_,_,_,_,_=>none
 |m+1,p0,p1,p2,p3,p4,p5,p6=>S_4_0_1 (L_4_0_1 m) some p0 p1 p2 p3 p4 p5 p6
noncomputable def l_4_0_1(m:Nat)(a:T_4_0_1.E):Option E_4_0_1:=L_4_0_1 m a.1 a.2.1 a.2.2.1 a.2.2.2.1 a.2.2.2.2.1 a.2.2.2.2.2.1 a.2.2.2.2.2.2.1
noncomputable def O_4_0_1{R:Type}:Orc R:=orL T_4_0_1 (l_4_0_1 FU) Y_4_0_1
theorem loop_4_0_1{R:Type}(k:Ex->St->Option R):∀m a,evLoopN (evCodeL sm_4 FU (ovr noO (evFn sm_4 fns FU 0)) (mkT (inner (nf 4 0)) []) (inner (nf 4 0))) (St.norm (lv (nf 4 0))) m (T_4_0_1.inst a) k=(l_4_0_1 m a).bind (Y_4_0_1 k):=lpN l_4_0_1 (fun R K k a=>S_4_0_1 (fun p0 p1 p2 p3 p4 p5 p6=>K (p0,p1,p2,p3,p4,p5,p6,())) k a.1 a.2.1 a.2.2.1 a.2.2.2.1 a.2.2.2.2.1 a.2.2.2.2.2.1 a.2.2.2.2.2.2.1) (fun _=>rfl) (fun _ _=>rfl) (fun K a=>by kernel_rfl) (fun K a=>by
 unfold S_4_0_1
 repeat' first|apply gdN|apply condN|rfl)
theorem OK_4_0_1{R:Type}:okF (R:=R) sm_4 0 (nf 4 0) O_4_0_1:=lp0 T_4_0_1 l_4_0_1 (fun R K k a=>S_4_0_1 (fun p0 p1 p2 p3 p4 p5 p6=>K (p0,p1,p2,p3,p4,p5,p6,())) k a.1 a.2.1 a.2.2.1 a.2.2.2.1 a.2.2.2.2.1 a.2.2.2.2.2.1 a.2.2.2.2.2.2.1) Y_4_0_1 (fun _ _ _=>by kernel_rfl) (fun _ _ _=>by
 unfold S_4_0_1
 repeat' first|apply gdN|apply condN|rfl) (ok0 _)
noncomputable def T_4_0:PS:=⟨85,[(2,.hv (.int .i64)),(8,.kc (.ptr 0 [])),(9,.hv (.slice (.int .u8))),(10,.hv (.int .i64)),(11,.kc (.ptr 1 [])),(30,.hv (.int .i64)),(31,.hv (.int .i64))],[.mem (.hv Zy4_1),.mem (.pr (.kc (.whole 2)) (.hv (.pair (.int .i64) (.pair (.int .i64) (.pair (.int .i64) (.pair (.int .i64) (.pair .bool (.pair .bool (.pair (.int .i64) (.pair .bool .unit)))))))))),.vec 5 (.int .u8)],0⟩
inductive Sp.E_4_0 where
 |e0
 |e1 (p0:Int) (p1:List Int) (p6:Zt4_2) (p7:List Int)
 |e2
 |e3
 |e4 (p0:Int) (p1:List Int) (p6:Zt4_0)
 |e5
noncomputable def Sp.B_4_0{R:Type}(r:Option E_4_0)(k0:Option R)(k1:Int->List Int->Zt4_2->List Int->Option R)(k2 k3:Option R)(k4:Int->List Int->Zt4_0->Option R)(k5:Option R):Option R:=match r with
 |none=>none
 |some (.e0)=>k0
 |some (.e1 p0 p1 p6 p7)=>k1 p0 p1 p6 p7
 |some (.e2)=>k2
 |some (.e3)=>k3
 |some (.e4 p0 p1 p6)=>k4 p0 p1 p6
 |some (.e5)=>k5
noncomputable def Y_4_0{R:Type}(k:Ex->St->Option R):E_4_0->Option R
 | .e0=>k Ex.ret (sx 85 [(6,CV.whole 0),(7,CV.bool false)] [Blk.vec 5 (Ty.int u8) []])
 | .e1 p0 p1 p6 p7=>k Ex.ret (sx 85 [(6,CV.pure (Ty.slice (Ty.int u8)) (((v_11 (p7,p6) ((v_10 p1).1) p0).1.1):(List Int))),(7,CV.bool true)] [])
 | .e2=>k (Ex.exit 0) (sx 85 [] [])
 | .e3=>k Ex.ret (sx 85 [(6,CV.whole 0),(7,CV.bool false)] [Blk.vec 5 (Ty.int u8) []])
 | .e4 p0 p1 p6=>k Ex.ret (sx 85 [(6,CV.pure (Ty.slice (Ty.int u8)) (((v_11 p6 ((v_10 p1).1) p0).1.1):(List Int))),(7,CV.bool true)] [])
 | .e5=>k (Ex.exit 0) (sx 85 [] [])
noncomputable def Sp.S_4_0{R:Type}(K:Int->List Int->Int->Int->Int->(List Int×Int×Int×Int×Int×Bool×Int×Int×Bool×Unit)->(Int×Int×Int×Int×Bool×Bool×Int×Bool×Unit)->List Int->Option R)(KB:Int->List Int->Int->Int->Int->(List Int×Int×Int×Int×Int×Bool×Int×Int×Bool×Unit)->(List Int×Int×Int×Int×Int×Bool×Bool×Int×Bool×Unit)->Option R)(k:E_4_0->Option R)(p0:Int)(p1:List Int)(p2 p3 p4:Int)(p5:List Int×Int×Int×Int×Int×Bool×Int×Int×Bool×Unit)(p6:Int×Int×Int×Int×Bool×Bool×Int×Bool×Unit)(p7:List Int):Option R:=
 bif decide (p4<p3)then gd (p_10 p1) (bif p2 !=0 then k (E_4_0.e0)else bif !(v_10 p1).2.1 then k (E_4_0.e0)else gd (p_11 (p7,p6) ((v_10 p1).1) p0) (bif(v_11 (p7,p6) ((v_10 p1).1) p0).2.2.1 !=0 then k (E_4_0.e0)else bif(v_11 (p7,p6) ((v_10 p1).1) p0).1.2.2.2.2.2.2.1 then k (E_4_0.e1 p0 p1 p6 p7)else bif decide ((↑(length ((v_11 (p7,p6) ((v_10 p1).1) p0).2.1)):Int)>0)then gd (p_10 ((v_11 (p7,p6) ((v_10 p1).1) p0).2.1)) (bif !(v_10 ((v_11 (p7,p6) ((v_10 p1).1) p0).2.1)).2.1 then k (E_4_0.e0)else gd (p_12 p5 ((v_10 ((v_11 (p7,p6) ((v_10 p1).1) p0).2.1)).1) p0) (bif(v_12 p5 ((v_10 ((v_11 (p7,p6) ((v_10 p1).1) p0).2.1)).1) p0).2.1 !=0 then k (E_4_0.e0)else gd (p_13 ((v_12 p5 ((v_10 ((v_11 (p7,p6) ((v_10 p1).1) p0).2.1)).1) p0).1) p0) (KB p0 ((v_13 ((v_12 p5 ((v_10 ((v_11 (p7,p6) ((v_10 p1).1) p0).2.1)).1) p0).1) p0).2.1) ((v_13 ((v_12 p5 ((v_10 ((v_11 (p7,p6) ((v_10 p1).1) p0).2.1)).1) p0).1) p0).2.2.1) p3 (wrap i64 (p4+1)) ((v_13 ((v_12 p5 ((v_10 ((v_11 (p7,p6) ((v_10 p1).1) p0).2.1)).1) p0).1) p0).1) ((v_11 (p7,p6) ((v_10 p1).1) p0).1))))else gd (p_13 p5 p0) (KB p0 ((v_13 p5 p0).2.1) ((v_13 p5 p0).2.2.1) p3 (wrap i64 (p4+1)) ((v_13 p5 p0).1) ((v_11 (p7,p6) ((v_10 p1).1) p0).1))))else k (E_4_0.e2)
noncomputable def C_4_0:E_4_0_1->E_4_0
 | .e0=> .e3
 | .e1 p0 p1 p6=> .e4 p0 p1 p6
 | .e2=> .e5
theorem BC_4_0(r:Option E_4_0_1):B_4_0_1 r (some (E_4_0.e3)) (fun p0 p1 p6=>some (E_4_0.e4 p0 p1 p6)) (some (E_4_0.e5))=r.bind fun e=>some (C_4_0 e):=by
 cases r with
 |none=>rfl
 |some e=>cases e<;>rfl
noncomputable def Sp.L_4_0:Nat->Int->List Int->Int->Int->Int->(List Int×Int×Int×Int×Int×Bool×Int×Int×Bool×Unit)->(Int×Int×Int×Int×Bool×Bool×Int×Bool×Unit)->List Int->Option E_4_0
 |0,_,_,_,_,_,_,_,_=>none
 |m+1,p0,p1,p2,p3,p4,p5,p6,p7=>S_4_0 (L_4_0 m) (fun q0 q1 q2 q3 q4 q5 q6=>B_4_0_1 (L_4_0_1 m q0 q1 q2 q3 q4 q5 q6) (some (E_4_0.e3)) (fun p0 p1 p6=>some (E_4_0.e4 p0 p1 p6)) (some (E_4_0.e5))) some p0 p1 p2 p3 p4 p5 p6 p7
noncomputable def l_4_0(m:Nat)(a:T_4_0.E):Option E_4_0:=L_4_0 m a.1 a.2.1 a.2.2.1 a.2.2.2.1 a.2.2.2.2.1 a.2.2.2.2.2.1 a.2.2.2.2.2.2.1 a.2.2.2.2.2.2.2.1
noncomputable def O_4_0{R:Type}:Orc R:=orL T_4_0 (l_4_0 FU) Y_4_0 O_4_0_1
theorem OK_4_0{R:Type}:okF (R:=R) sm_4 0 (nf 4 0) O_4_0:=lp2 noO_ok (os:=[]) trivial T_4_0 T_4_0_1 l_4_0 l_4_0_1 (fun R K KB k a=>S_4_0 (fun p0 p1 p2 p3 p4 p5 p6 p7=>K (p0,p1,p2,p3,p4,p5,p6,p7,())) (fun q0 q1 q2 q3 q4 q5 q6=>KB (q0,q1,q2,q3,q4,q5,q6,())) k a.1 a.2.1 a.2.2.1 a.2.2.2.1 a.2.2.2.2.1 a.2.2.2.2.2.1 a.2.2.2.2.2.2.1 a.2.2.2.2.2.2.2.1) Y_4_0 Y_4_0_1 C_4_0 (fun _=>rfl) (fun m a=>by
 unfold l_4_0
 rw[L_4_0]
 simp only[BC_4_0]
 rfl) (fun k e=>by cases e<;>rfl) (fun k=>loop_4_0_1 k) (fun k K a=>by kernel_rfl) (fun Y K KB a=>by
 unfold S_4_0
 repeat' first|apply gdN|apply condN|rfl) OK_4_0_1
noncomputable def F_4(a0:(List Int))(a1 a2:Int):Option ((List Int)×Bool×Unit) :=
 gd (p_9 a0 a2) (B_4_0 (L_4_0 4611686018427387904 a2 ((v_9 a0 a2).2.1) ((v_9 a0 a2).2.2.1) (wrap i64 (2+wrap i64 (Int.tdiv (↑(length a0):Int) 7))) 0 ((v_9 a0 a2).1) (0,0,wrap i64 a1,0,false,false,0,false,PUnit.unit) []) (some ([],false,PUnit.unit)) (fun y7 y8 y9 y10=>some ((v_11 (y10,y9) ((v_10 y8).1) y7).1.1,true,PUnit.unit)) (some ([],false,PUnit.unit)) (some ([],false,PUnit.unit)) (fun y11 y12 y13=>some ((v_11 y13 ((v_10 y12).1) y11).1.1,true,PUnit.unit)) (some ([],false,PUnit.unit)))
noncomputable def Sp.p_4(a0:(List Int))(a1 a2:Int):Bool:=(F_4 a0 a1 a2).isSome
noncomputable def Sp.v_4(a0:(List Int))(a1 a2:Int):(List Int)×Bool×Unit:=(F_4 a0 a1 a2).getD (dfH R_4)
noncomputable def s_4:Summ:=shS A_4 R_4 (fun x=>p_4 x.1 x.2.1 x.2.2.1) (fun x=>v_4 x.1 x.2.1 x.2.2.1)
theorem pv_4(a0:(List Int))(a1 a2:Int){y:(List Int)×Bool×Unit}(h:F_4 a0 a1 a2=some y):p_4 a0 a1 a2=true/\v_4 a0 a1 a2=y:=pvG h
theorem run_4(x:HDen A_4)(y:HDen R_4)(h:F_4 x.1 x.2.1 x.2.2.1=some y):rnF sm_4 1 4 A_4 R_4 x y:=runG noO_ok (os:=[O_4_0]) ⟨OK_4_0,trivial⟩ (Eq.trans (by kernel_rfl) h)
end
noncomputable section
abbrev A_14:List Ty:=[(.int .i64),(.int .i64),(.int .i64)]
abbrev R_14:List Ty:=[.bool]
noncomputable def sm_14:Nat->Option Summ:=smL []
noncomputable def F_14(a0 a1 a2:Int):Option (Bool×Unit) :=
 bif decide (a0>=a1)then some (decide (a0<=a2),PUnit.unit)else some (false,PUnit.unit)
noncomputable def Sp.p_14(a0 a1 a2:Int):Bool:=(F_14 a0 a1 a2).isSome
noncomputable def Sp.v_14(a0 a1 a2:Int):Bool×Unit:=(F_14 a0 a1 a2).getD (dfH R_14)
noncomputable def s_14:Summ:=shN A_14 R_14 (fun x=>p_14 x.1 x.2.1 x.2.2.1) (fun x=>v_14 x.1 x.2.1 x.2.2.1)
theorem pv_14(a0 a1 a2:Int){y:Bool×Unit}(h:F_14 a0 a1 a2=some y):p_14 a0 a1 a2=true/\v_14 a0 a1 a2=y:=pvG h
theorem run_14(x:HDen A_14)(y:HDen R_14)(h:F_14 x.1 x.2.1 x.2.2.1=some y):rnF sm_14 1 14 A_14 R_14 x y:=runG noO_ok (os:=[]) trivial (Eq.trans (by kernel_rfl) h)
end
noncomputable section
abbrev A_6:List Ty:=[(.pair (.int .i64) (.pair (.int .i64) (.pair (.int .i64) (.pair (.int .i64) (.pair (.int .i64) (.pair (.int .i64) .unit))))))]
abbrev R_6:List Ty:=[.bool]
noncomputable def sm_6:Nat->Option Summ:=smL [(14,s_14)]
noncomputable def F_6(a0:(Int×(Int×(Int×(Int×(Int×(Int×Unit))))))):Option (Bool×Unit) :=
 gd (p_14 (a0.1) 1 3) (bif !(v_14 (a0.1) 1 3).1 then some (false,PUnit.unit)else gd (p_14 (a0.2.1) 0 65535) (bif !(v_14 (a0.2.1) 0 65535).1 then some (false,PUnit.unit)else gd (p_14 (a0.2.2.1) 0 1) (bif !(v_14 (a0.2.2.1) 0 1).1 then some (false,PUnit.unit)else gd (p_14 (a0.2.2.2.1) 0 2) (bif !(v_14 (a0.2.2.2.1) 0 2).1 then some (false,PUnit.unit)else gd (p_14 (a0.2.2.2.2.1) 0 1099521627776) (bif !(v_14 (a0.2.2.2.2.1) 0 1099521627776).1 then some (false,PUnit.unit)else gd (p_14 (a0.2.2.2.2.2.1) 0 1099521627776) (bif !(v_14 (a0.2.2.2.2.2.1) 0 1099521627776).1 then some (false,PUnit.unit)else bif a0.1 !=1 then some (true,PUnit.unit)else bif a0.2.1==0 then bif a0.2.2.1==0 then some (a0.2.2.2.2.2.1==0,PUnit.unit)else some (false,PUnit.unit)else some (false,PUnit.unit)))))))
noncomputable def Sp.p_6(a0:(Int×(Int×(Int×(Int×(Int×(Int×Unit))))))):Bool:=(F_6 a0).isSome
noncomputable def Sp.v_6(a0:(Int×(Int×(Int×(Int×(Int×(Int×Unit))))))):Bool×Unit:=(F_6 a0).getD (dfH R_6)
noncomputable def s_6:Summ:=shN A_6 R_6 (fun x=>p_6 x.1) (fun x=>v_6 x.1)
theorem pv_6(a0:(Int×(Int×(Int×(Int×(Int×(Int×Unit))))))){y:Bool×Unit}(h:F_6 a0=some y):p_6 a0=true/\v_6 a0=y:=pvG h
theorem run_6(x:HDen A_6)(y:HDen R_6)(h:F_6 x.1=some y):rnF sm_6 1 6 A_6 R_6 x y:=runG noO_ok (os:=[]) trivial (Eq.trans (by kernel_rfl) h)
end
noncomputable section
abbrev A_18:List Ty:=[(.int .i64),(.int .i64),(.int .i64)]
abbrev R_18:List Ty:=[.bool]
noncomputable def sm_18:Nat->Option Summ:=smL []
noncomputable def F_18(a0 a1 a2:Int):Option (Bool×Unit) :=
 bif decide (a0>=a1)then some (decide (a0<=a2),PUnit.unit)else some (false,PUnit.unit)
noncomputable def Sp.p_18(a0 a1 a2:Int):Bool:=(F_18 a0 a1 a2).isSome
noncomputable def Sp.v_18(a0 a1 a2:Int):Bool×Unit:=(F_18 a0 a1 a2).getD (dfH R_18)
noncomputable def s_18:Summ:=shN A_18 R_18 (fun x=>p_18 x.1 x.2.1 x.2.2.1) (fun x=>v_18 x.1 x.2.1 x.2.2.1)
theorem pv_18(a0 a1 a2:Int){y:Bool×Unit}(h:F_18 a0 a1 a2=some y):p_18 a0 a1 a2=true/\v_18 a0 a1 a2=y:=pvG h
theorem run_18(x:HDen A_18)(y:HDen R_18)(h:F_18 x.1 x.2.1 x.2.2.1=some y):rnF sm_18 1 18 A_18 R_18 x y:=runG noO_ok (os:=[]) trivial (Eq.trans (by kernel_rfl) h)
end
noncomputable section
abbrev A_55:List Ty:=[(.int .i64)]
abbrev R_55:List Ty:=[.bool]
noncomputable def sm_55:Nat->Option Summ:=smL [(18,s_18)]
noncomputable def F_55(a0:Int):Option (Bool×Unit) :=
 gd (p_18 a0 (-1099511627776:Int) 1099511627776) (some ((v_18 a0 (-1099511627776:Int) 1099511627776).1,PUnit.unit))
noncomputable def Sp.p_55(a0:Int):Bool:=(F_55 a0).isSome
noncomputable def Sp.v_55(a0:Int):Bool×Unit:=(F_55 a0).getD (dfH R_55)
noncomputable def s_55:Summ:=shN A_55 R_55 (fun x=>p_55 x.1) (fun x=>v_55 x.1)
theorem pv_55(a0:Int){y:Bool×Unit}(h:F_55 a0=some y):p_55 a0=true/\v_55 a0=y:=pvG h
theorem run_55(x:HDen A_55)(y:HDen R_55)(h:F_55 x.1=some y):rnF sm_55 1 55 A_55 R_55 x y:=runG noO_ok (os:=[]) trivial (Eq.trans (by kernel_rfl) h)
end
noncomputable section
abbrev A_35:List Ty:=[(.pair (.int .i64) (.pair (.int .i64) (.pair (.int .i64) (.pair (.int .i64) (.pair (.int .i64) (.pair (.int .i64) (.pair .bool (.pair (.int .i64) .unit)))))))),(.slice (.int .i64))]
abbrev R_35:List Ty:=[.bool]
noncomputable def sm_35:Nat->Option Summ:=smL [(55,s_55)]
noncomputable def T_35_63_0_0:PS:=⟨19,[(0,.hv (.slice (.int .i64))),(1,.kc (.clo 54 (.pure .unit PUnit.unit))),(7,.hv (.int .i64)),(8,.hv (.int .i64))],[.mem (.hv (.pair (.int .i64) (.pair (.int .i64) (.pair (.int .i64) (.pair (.int .i64) (.pair (.int .i64) (.pair (.int .i64) (.pair .bool (.pair (.int .i64) .unit)))))))))],1⟩
inductive Sp.E_35_63_0_0 where
 |e0 (p2:Int) (p3:Int×Int×Int×Int×Int×Int×Bool×Int×Unit)
 |e1 (p3:Int×Int×Int×Int×Int×Int×Bool×Int×Unit)
noncomputable def Sp.B_35_63_0_0{R:Type}(r:Option E_35_63_0_0)(k0:Int->(Int×Int×Int×Int×Int×Int×Bool×Int×Unit)->Option R)(k1:(Int×Int×Int×Int×Int×Int×Bool×Int×Unit)->Option R):Option R:=match r with
 |none=>none
 |some (.e0 p2 p3)=>k0 p2 p3
 |some (.e1 p3)=>k1 p3
noncomputable def Y_35_63_0_0{R:Type}(k:Ex->St->Option R):E_35_63_0_0->Option R
 | .e0 p2 p3=>k Ex.ret (sx 19 [(4,CV.int i64 p2)] [Blk.mem (CV.pure (Ty.pair (Ty.int i64) (Ty.pair (Ty.int i64) (Ty.pair (Ty.int i64) (Ty.pair (Ty.int i64) (Ty.pair (Ty.int i64) (Ty.pair (Ty.int i64) (Ty.pair Ty.bool (Ty.pair (Ty.int i64) Ty.unit)))))))) p3)] 1)
 | .e1 p3=>k (Ex.exit 0) (sx 19 [] [Blk.mem (CV.pure (Ty.pair (Ty.int i64) (Ty.pair (Ty.int i64) (Ty.pair (Ty.int i64) (Ty.pair (Ty.int i64) (Ty.pair (Ty.int i64) (Ty.pair (Ty.int i64) (Ty.pair Ty.bool (Ty.pair (Ty.int i64) Ty.unit)))))))) p3)] 1)
noncomputable def Sp.S_35_63_0_0{R:Type}(K:List Int->Int->Int->(Int×Int×Int×Int×Int×Int×Bool×Int×Unit)->Option R)(k:E_35_63_0_0->Option R)(p0:List Int)(p1 p2:Int)(p3:Int×Int×Int×Int×Int×Int×Bool×Int×Unit):Option R:=
 bif decide (p2<p1)then gd (inB p2 (length p0)) (gd (p_55 (getD p0 (toNat p2) 0)) (bif !(v_55 (getD p0 (toNat p2) 0)).1 then k (E_35_63_0_0.e0 p2 p3)else K p0 p1 (wrap i64 (p2+1)) p3))else k (E_35_63_0_0.e1 p3)
noncomputable def Sp.L_35_63_0_0:Nat->List Int->Int->Int->(Int×Int×Int×Int×Int×Int×Bool×Int×Unit)->Option E_35_63_0_0
 |0,_,_,_,_=>none
 |m+1,p0,p1,p2,p3=>S_35_63_0_0 (L_35_63_0_0 m) some p0 p1 p2 p3
noncomputable def l_35_63_0_0(m:Nat)(a:T_35_63_0_0.E):Option E_35_63_0_0:=L_35_63_0_0 m a.1 a.2.1 a.2.2.1 a.2.2.2.1
noncomputable def O_35_63_0_0{R:Type}:Orc R:=orL T_35_63_0_0 (l_35_63_0_0 FU) Y_35_63_0_0
theorem OK_35_63_0_0{R:Type}:okF (R:=R) sm_35 1 (nf 63 0) O_35_63_0_0:=lp0 T_35_63_0_0 l_35_63_0_0 (fun R K k a=>S_35_63_0_0 (fun p0 p1 p2 p3=>K (p0,p1,p2,p3,())) k a.1 a.2.1 a.2.2.1 a.2.2.2.1) Y_35_63_0_0 (fun _ _ _=>by kernel_rfl) (fun _ _ _=>by
 unfold S_35_63_0_0
 repeat' first|apply gdN|apply condN|rfl) (ok0 _)
noncomputable def g_35_63{R:Type}:List CV->List Blk->(CV->List Blk->Option R)->Option R:=evFnL sm_35 FU (ovr noO (evFn sm_35 fns FU 1)) (mkT (fB fns 63) [O_35_63_0_0]) (fO fns 63)
theorem g_35_63_ok{R:Type}(args:List CV)(hp:List Blk)(k:CV->List Blk->Option R)(r:R)(h:g_35_63 args hp k=some r):evFn sm_35 fns FU 2 63 args hp k=some r:=runG noO_ok (os:=[O_35_63_0_0]) ⟨OK_35_63_0_0,trivial⟩ h
noncomputable def ov_35_53{R:Type}:Nat->Option (List CV->List Blk->(CV->List Blk->Option R)->Option R):=fun f'=>bif Nat.beq f' 63 then some g_35_63 else none
theorem ov_35_53_ok{R:Type}:OvrOK (R:=R) ov_35_53 (evFn sm_35 fns FU 2):=by
 intro f' g h args hp k r hg
 dsimp only[ov_35_53]at h
 by_cases h63:f'=63
 ·subst h63
  injection h with h
  subst h
  exact evFn_le 0 (g_35_63_ok _ _ _ _ hg)
 rw[nbeq_ne h63,cond_false]at h
 cases h
noncomputable def g_35_53{R:Type}:List CV->List Blk->(CV->List Blk->Option R)->Option R:=evFnL sm_35 FU (ovr ov_35_53 (evFn sm_35 fns FU 2)) (mkT (fB fns 53) []) (fO fns 53)
theorem g_35_53_ok{R:Type}(args:List CV)(hp:List Blk)(k:CV->List Blk->Option R)(r:R)(h:g_35_53 args hp k=some r):evFn sm_35 fns FU 3 53 args hp k=some r:=runG ov_35_53_ok (os:=[]) trivial h
noncomputable def ov_35_35{R:Type}:Nat->Option (List CV->List Blk->(CV->List Blk->Option R)->Option R):=fun f'=>bif Nat.beq f' 53 then some g_35_53 else none
theorem ov_35_35_ok{R:Type}:OvrOK (R:=R) ov_35_35 (evFn sm_35 fns FU 3):=by
 intro f' g h args hp k r hg
 dsimp only[ov_35_35]at h
 by_cases h53:f'=53
 ·subst h53
  injection h with h
  subst h
  exact evFn_le 0 (g_35_53_ok _ _ _ _ hg)
 rw[nbeq_ne h53,cond_false]at h
 cases h
noncomputable def F_35(a0:(Int×(Int×(Int×(Int×(Int×(Int×(Bool×(Int×Unit)))))))))(a1:(List Int)):Option (Bool×Unit) :=
 bif(↑(length a1):Int)==a0.2.2.2.2.2.2.2.1 then B_35_63_0_0 (L_35_63_0_0 4611686018427387904 a1 (↑(length a1):Int) 0 a0) (fun y3 y4=>some (!decide (y3>=0),PUnit.unit)) fun y5=>some (true,PUnit.unit)else some (false,PUnit.unit)
noncomputable def Sp.p_35(a0:(Int×(Int×(Int×(Int×(Int×(Int×(Bool×(Int×Unit)))))))))(a1:(List Int)):Bool:=(F_35 a0 a1).isSome
noncomputable def Sp.v_35(a0:(Int×(Int×(Int×(Int×(Int×(Int×(Bool×(Int×Unit)))))))))(a1:(List Int)):Bool×Unit:=(F_35 a0 a1).getD (dfH R_35)
noncomputable def s_35:Summ:=shN A_35 R_35 (fun x=>p_35 x.1 x.2.1) (fun x=>v_35 x.1 x.2.1)
theorem pv_35(a0:(Int×(Int×(Int×(Int×(Int×(Int×(Bool×(Int×Unit)))))))))(a1:(List Int)){y:Bool×Unit}(h:F_35 a0 a1=some y):p_35 a0 a1=true/\v_35 a0 a1=y:=pvG h
theorem run_35(x:HDen A_35)(y:HDen R_35)(h:F_35 x.1 x.2.1=some y):rnF sm_35 4 35 A_35 R_35 x y:=runG ov_35_35_ok (os:=[]) trivial (Eq.trans (by kernel_rfl) h)
end
noncomputable section
abbrev A_36:List Ty:=[(.pair (.int .i64) (.pair (.int .i64) (.pair (.int .i64) (.pair (.int .i64) (.pair (.int .i64) (.pair (.slice (.int .i64)) (.pair (.int .i64) .unit))))))),(.int .i64)]
abbrev R_36:List Ty:=[.bool]
noncomputable def sm_36:Nat->Option Summ:=smL []
noncomputable def F_36(a0:(Int×(Int×(Int×(Int×(Int×((List Int)×(Int×Unit))))))))(a1:Int):Option (Bool×Unit) :=
 some (Sp.andI i64 (a0.1) a1==a1,PUnit.unit)
noncomputable def Sp.p_36(a0:(Int×(Int×(Int×(Int×(Int×((List Int)×(Int×Unit))))))))(a1:Int):Bool:=(F_36 a0 a1).isSome
noncomputable def Sp.v_36(a0:(Int×(Int×(Int×(Int×(Int×((List Int)×(Int×Unit))))))))(a1:Int):Bool×Unit:=(F_36 a0 a1).getD (dfH R_36)
noncomputable def s_36:Summ:=shN A_36 R_36 (fun x=>p_36 x.1 x.2.1) (fun x=>v_36 x.1 x.2.1)
theorem pv_36(a0:(Int×(Int×(Int×(Int×(Int×((List Int)×(Int×Unit))))))))(a1:Int){y:Bool×Unit}(h:F_36 a0 a1=some y):p_36 a0 a1=true/\v_36 a0 a1=y:=pvG h
theorem run_36(x:HDen A_36)(y:HDen R_36)(h:F_36 x.1 x.2.1=some y):rnF sm_36 1 36 A_36 R_36 x y:=runG noO_ok (os:=[]) trivial (Eq.trans (by kernel_rfl) h)
end
noncomputable section
abbrev A_37:List Ty:=[(.pair (.int .i64) (.pair (.int .i64) (.pair (.int .i64) (.pair (.int .i64) (.pair (.int .i64) (.pair (.slice (.int .i64)) (.pair (.int .i64) .unit)))))))]
abbrev R_37:List Ty:=[.bool]
noncomputable def sm_37:Nat->Option Summ:=smL []
noncomputable def F_37(a0:(Int×(Int×(Int×(Int×(Int×((List Int)×(Int×Unit)))))))):Option (Bool×Unit) :=
 some (Sp.andI i64 (a0.1) (6:Int)!=(0:Int),PUnit.unit)
noncomputable def Sp.p_37(a0:(Int×(Int×(Int×(Int×(Int×((List Int)×(Int×Unit)))))))):Bool:=(F_37 a0).isSome
noncomputable def Sp.v_37(a0:(Int×(Int×(Int×(Int×(Int×((List Int)×(Int×Unit)))))))):Bool×Unit:=(F_37 a0).getD (dfH R_37)
noncomputable def s_37:Summ:=shN A_37 R_37 (fun x=>p_37 x.1) (fun x=>v_37 x.1)
theorem pv_37(a0:(Int×(Int×(Int×(Int×(Int×((List Int)×(Int×Unit)))))))){y:Bool×Unit}(h:F_37 a0=some y):p_37 a0=true/\v_37 a0=y:=pvG h
theorem run_37(x:HDen A_37)(y:HDen R_37)(h:F_37 x.1=some y):rnF sm_37 1 37 A_37 R_37 x y:=runG noO_ok (os:=[]) trivial (Eq.trans (by kernel_rfl) h)
end
noncomputable section
abbrev Zt19_0:Type:=Int×Int×Int×Int×Int×List Int×Int×Unit
abbrev Zt19_1:Type:=Int×Int×Int×Int×Int×Int×Bool×Int×Unit
abbrev Zy19_2:Ty:=(.pair (.int .i64) (.pair (.int .i64) (.pair (.int .i64) (.pair (.int .i64) (.pair (.int .i64) (.pair (.int .i64) (.pair .bool (.pair (.int .i64) .unit))))))))
abbrev Zy19_3:Ty:=(.pair (.int .i64) (.pair (.int .i64) (.pair (.int .i64) (.pair (.int .i64) (.pair (.int .i64) (.pair (.slice (.int .i64)) (.pair (.int .i64) .unit)))))))
abbrev A_19:List Ty:=[(.pair (.int .i64) (.pair (.int .i64) (.pair (.int .i64) (.pair (.int .i64) (.pair (.int .i64) (.pair (.int .i64) (.pair .bool (.pair (.int .i64) .unit)))))))),(.pair (.int .i64) (.pair (.int .i64) (.pair (.int .i64) (.pair (.int .i64) (.pair (.int .i64) (.pair (.slice (.int .i64)) (.pair (.int .i64) .unit))))))),(.int .i64)]
abbrev R_19:List Ty:=[.bool]
noncomputable def sm_19:Nat->Option Summ:=smL [(18,s_18),(35,s_35),(36,s_36),(37,s_37)]
noncomputable def T_19_3:PS:=⟨153,[(3,.kc (.ptr 0 [])),(4,.kc (.ptr 1 []))],[.mem (.hv Zy19_2),.mem (.hv Zy19_3)],0⟩
inductive Sp.E_19_3 where
 |e0 (p0:Zt19_1) (p1:Zt19_0)
 |e1
 |e2 (p0:Zt19_1) (p1:Zt19_0)
noncomputable def Sp.B_19_3{R:Type}(r:Option E_19_3)(k0:Zt19_1->Zt19_0->Option R)(k1:Option R)(k2:Zt19_1->Zt19_0->Option R):Option R:=match r with
 |none=>none
 |some (.e0 p0 p1)=>k0 p0 p1
 |some (.e1)=>k1
 |some (.e2 p0 p1)=>k2 p0 p1
theorem Bn_19_3{A R:Type}{r:Option E_19_3}{f:A->Option R}{k0:Zt19_1->Zt19_0->Option A}{k1:Option A}{k2:Zt19_1->Zt19_0->Option A}{l0:Zt19_1->Zt19_0->Option R}{l1:Option R}{l2:Zt19_1->Zt19_0->Option R}(h0:∀p0 p1,(k0 p0 p1).bind f=l0 p0 p1)(h1:(k1).bind f=l1)(h2:∀p0 p1,(k2 p0 p1).bind f=l2 p0 p1):(B_19_3 r k0 k1 k2).bind f=B_19_3 r l0 l1 l2:=by
 cases r with
 |none=>rfl
 |some e=>cases e<;>first|apply h0|apply h1|apply h2
noncomputable def Y_19_3{R:Type}(k:Ex->St->Option R):E_19_3->Option R
 | .e0 p0 p1=>k Ex.ret (sx 153 [(6,CV.bool ((↑(length (p1.2.2.2.2.2.1)):Int)==p0.2.2.2.2.2.2.2.1))] [])
 | .e1=>k Ex.ret (sx 153 [(6,CV.bool false)] [])
 | .e2 p0 p1=>k Ex.normal (sx 153 [(3,CV.ptr 0 []),(4,CV.ptr 1 []),(105,CV.bool false),(106,CV.pure (Ty.pair (Ty.int i64) (Ty.pair (Ty.int i64) (Ty.pair (Ty.int i64) (Ty.pair (Ty.int i64) (Ty.pair (Ty.int i64) (Ty.pair (Ty.slice (Ty.int i64)) (Ty.pair (Ty.int i64) Ty.unit))))))) p1),(107,CV.bool ((v_37 p1).1))] [Blk.mem (CV.pure (Ty.pair (Ty.int i64) (Ty.pair (Ty.int i64) (Ty.pair (Ty.int i64) (Ty.pair (Ty.int i64) (Ty.pair (Ty.int i64) (Ty.pair (Ty.int i64) (Ty.pair Ty.bool (Ty.pair (Ty.int i64) Ty.unit)))))))) p0),Blk.mem (CV.pure (Ty.pair (Ty.int i64) (Ty.pair (Ty.int i64) (Ty.pair (Ty.int i64) (Ty.pair (Ty.int i64) (Ty.pair (Ty.int i64) (Ty.pair (Ty.slice (Ty.int i64)) (Ty.pair (Ty.int i64) Ty.unit))))))) p1)])
noncomputable def Sp.S_19_3{R:Type}(k:E_19_3->Option R)(p0:Int×Int×Int×Int×Int×Int×Bool×Int×Unit)(p1:Int×Int×Int×Int×Int×List Int×Int×Unit):Option R:=
 gd (p_37 p1) (bif(v_37 p1).1 then bif decide (p1.2.2.2.2.1>=1)then bif decide (p1.2.2.1>=1)then bif decide (p1.2.2.2.2.2.2.1>=1)then k (E_19_3.e0 p0 p1)else k (E_19_3.e1)else k (E_19_3.e1)else k (E_19_3.e1)else k (E_19_3.e2 p0 p1))
noncomputable def Sp.J_19_3(p0:Int×Int×Int×Int×Int×Int×Bool×Int×Unit)(p1:Int×Int×Int×Int×Int×List Int×Int×Unit):Option E_19_3:=S_19_3 some p0 p1
noncomputable def O_19_3{R:Type}:Orc R:=orL T_19_3 (fun a=>J_19_3 a.1 a.2.1) Y_19_3
theorem OK_19_3{R:Type}:okF (R:=R) sm_19 0 (ni (ni (ni (nf 19 0) 0) 0) 0) O_19_3:=jp noO_ok (os:=[]) trivial T_19_3 (fun R k a=>S_19_3 k a.1 a.2.1) Y_19_3 (fun k a=>by kernel_rfl) (fun Y a=>by
 unfold S_19_3
 repeat' first|apply gdN|apply condN|rfl) (ok0 _)
noncomputable def T_19_2:PS:=⟨153,[(3,.kc (.ptr 0 [])),(4,.kc (.ptr 1 []))],[.mem (.hv Zy19_2),.mem (.hv Zy19_3)],0⟩
inductive Sp.E_19_2 where
 |e0
 |e1 (y8:Zt19_1) (y9:Zt19_0)
 |e2 (y10:Zt19_1) (y11:Zt19_0)
noncomputable def Sp.B_19_2{R:Type}(r:Option E_19_2)(k0:Option R)(k1 k2:Zt19_1->Zt19_0->Option R):Option R:=match r with
 |none=>none
 |some (.e0)=>k0
 |some (.e1 y8 y9)=>k1 y8 y9
 |some (.e2 y10 y11)=>k2 y10 y11
theorem Bn_19_2{A R:Type}{r:Option E_19_2}{f:A->Option R}{k0:Option A}{k1:Zt19_1->Zt19_0->Option A}{k2:Zt19_1->Zt19_0->Option A}{l0:Option R}{l1:Zt19_1->Zt19_0->Option R}{l2:Zt19_1->Zt19_0->Option R}(h0:(k0).bind f=l0)(h1:∀y8 y9,(k1 y8 y9).bind f=l1 y8 y9)(h2:∀y10 y11,(k2 y10 y11).bind f=l2 y10 y11):(B_19_2 r k0 k1 k2).bind f=B_19_2 r l0 l1 l2:=by
 cases r with
 |none=>rfl
 |some e=>cases e<;>first|apply h0|apply h1|apply h2
noncomputable def Y_19_2{R:Type}(k:Ex->St->Option R):E_19_2->Option R
 | .e0=>k Ex.ret (sx 153 [(6,CV.bool false)] [])
 | .e1 y8 y9=>k Ex.ret (sx 153 [(6,CV.bool ((↑(length (y9.2.2.2.2.2.1)):Int)==y8.2.2.2.2.2.2.2.1))] [])
 | .e2 y10 y11=>k Ex.normal (sx 153 [(3,CV.ptr 0 []),(4,CV.ptr 1 []),(105,CV.bool false),(106,CV.pure (Ty.pair (Ty.int i64) (Ty.pair (Ty.int i64) (Ty.pair (Ty.int i64) (Ty.pair (Ty.int i64) (Ty.pair (Ty.int i64) (Ty.pair (Ty.slice (Ty.int i64)) (Ty.pair (Ty.int i64) Ty.unit))))))) y11),(107,CV.bool ((v_37 y11).1))] [Blk.mem (CV.pure (Ty.pair (Ty.int i64) (Ty.pair (Ty.int i64) (Ty.pair (Ty.int i64) (Ty.pair (Ty.int i64) (Ty.pair (Ty.int i64) (Ty.pair (Ty.int i64) (Ty.pair Ty.bool (Ty.pair (Ty.int i64) Ty.unit)))))))) y10),Blk.mem (CV.pure (Ty.pair (Ty.int i64) (Ty.pair (Ty.int i64) (Ty.pair (Ty.int i64) (Ty.pair (Ty.int i64) (Ty.pair (Ty.int i64) (Ty.pair (Ty.slice (Ty.int i64)) (Ty.pair (Ty.int i64) Ty.unit))))))) y11)])
noncomputable def Sp.S_19_2{R:Type}(k:E_19_2->Option R)(p0:Int×Int×Int×Int×Int×Int×Bool×Int×Unit)(p1:Int×Int×Int×Int×Int×List Int×Int×Unit):Option R:=
 gd (p_36 p1 2) (bif(v_36 p1 2).1 then bif p1.2.2.2.1 !=0 then k (E_19_2.e0)else B_19_3 (J_19_3 p0 p1) (fun y8 y9=>k (E_19_2.e1 y8 y9)) (k (E_19_2.e0)) fun y10 y11=>k (E_19_2.e2 y10 y11)else B_19_3 (J_19_3 p0 p1) (fun y12 y13=>k (E_19_2.e1 y12 y13)) (k (E_19_2.e0)) fun y14 y15=>k (E_19_2.e2 y14 y15))
noncomputable def Sp.J_19_2(p0:Int×Int×Int×Int×Int×Int×Bool×Int×Unit)(p1:Int×Int×Int×Int×Int×List Int×Int×Unit):Option E_19_2:=S_19_2 some p0 p1
noncomputable def O_19_2{R:Type}:Orc R:=orL T_19_2 (fun a=>J_19_2 a.1 a.2.1) Y_19_2
theorem OK_19_2{R:Type}:okF (R:=R) sm_19 0 (ni (ni (nf 19 0) 0) 0) O_19_2:=jp noO_ok (os:=[O_19_3]) ⟨OK_19_3,trivial⟩ T_19_2 (fun R k a=>S_19_2 k a.1 a.2.1) Y_19_2 (fun k a=>by kernel_rfl) (fun Y a=>by
 unfold S_19_2
 repeat' first|apply gdN|apply condN|(apply Bn_19_3<;>intros)|rfl) (ok0 _)
noncomputable def T_19_1:PS:=⟨153,[(3,.kc (.ptr 0 [])),(4,.kc (.ptr 1 []))],[.mem (.hv Zy19_2),.mem (.hv Zy19_3)],0⟩
inductive Sp.E_19_1 where
 |e0
 |e1 (y8:Zt19_1) (y9:Zt19_0)
 |e2 (y10:Zt19_1) (y11:Zt19_0)
noncomputable def Sp.B_19_1{R:Type}(r:Option E_19_1)(k0:Option R)(k1 k2:Zt19_1->Zt19_0->Option R):Option R:=match r with
 |none=>none
 |some (.e0)=>k0
 |some (.e1 y8 y9)=>k1 y8 y9
 |some (.e2 y10 y11)=>k2 y10 y11
theorem Bn_19_1{A R:Type}{r:Option E_19_1}{f:A->Option R}{k0:Option A}{k1:Zt19_1->Zt19_0->Option A}{k2:Zt19_1->Zt19_0->Option A}{l0:Option R}{l1:Zt19_1->Zt19_0->Option R}{l2:Zt19_1->Zt19_0->Option R}(h0:(k0).bind f=l0)(h1:∀y8 y9,(k1 y8 y9).bind f=l1 y8 y9)(h2:∀y10 y11,(k2 y10 y11).bind f=l2 y10 y11):(B_19_1 r k0 k1 k2).bind f=B_19_1 r l0 l1 l2:=by
 cases r with
 |none=>rfl
 |some e=>cases e<;>first|apply h0|apply h1|apply h2
noncomputable def Y_19_1{R:Type}(k:Ex->St->Option R):E_19_1->Option R
 | .e0=>k Ex.ret (sx 153 [(6,CV.bool false)] [])
 | .e1 y8 y9=>k Ex.ret (sx 153 [(6,CV.bool ((↑(length (y9.2.2.2.2.2.1)):Int)==y8.2.2.2.2.2.2.2.1))] [])
 | .e2 y10 y11=>k Ex.normal (sx 153 [(3,CV.ptr 0 []),(4,CV.ptr 1 []),(105,CV.bool false),(106,CV.pure (Ty.pair (Ty.int i64) (Ty.pair (Ty.int i64) (Ty.pair (Ty.int i64) (Ty.pair (Ty.int i64) (Ty.pair (Ty.int i64) (Ty.pair (Ty.slice (Ty.int i64)) (Ty.pair (Ty.int i64) Ty.unit))))))) y11),(107,CV.bool ((v_37 y11).1))] [Blk.mem (CV.pure (Ty.pair (Ty.int i64) (Ty.pair (Ty.int i64) (Ty.pair (Ty.int i64) (Ty.pair (Ty.int i64) (Ty.pair (Ty.int i64) (Ty.pair (Ty.int i64) (Ty.pair Ty.bool (Ty.pair (Ty.int i64) Ty.unit)))))))) y10),Blk.mem (CV.pure (Ty.pair (Ty.int i64) (Ty.pair (Ty.int i64) (Ty.pair (Ty.int i64) (Ty.pair (Ty.int i64) (Ty.pair (Ty.int i64) (Ty.pair (Ty.slice (Ty.int i64)) (Ty.pair (Ty.int i64) Ty.unit))))))) y11)])
noncomputable def Sp.S_19_1{R:Type}(k:E_19_1->Option R)(p0:Int×Int×Int×Int×Int×Int×Bool×Int×Unit)(p1:Int×Int×Int×Int×Int×List Int×Int×Unit):Option R:=
 gd (p_36 p1 4) (bif !(v_36 p1 4).1==(p1.2.2.1==2)then k (E_19_1.e0)else gd (p_36 p1 16) (bif(v_36 p1 16).1 then gd (p_36 p1 4) (bif !(v_36 p1 4).1 then k (E_19_1.e0)else bif !p0.2.2.2.2.2.2.1 then k (E_19_1.e0)else B_19_2 (J_19_2 p0 p1) (k (E_19_1.e0)) (fun y8 y9=>k (E_19_1.e1 y8 y9)) fun y10 y11=>k (E_19_1.e2 y10 y11))else B_19_2 (J_19_2 p0 p1) (k (E_19_1.e0)) (fun y12 y13=>k (E_19_1.e1 y12 y13)) fun y14 y15=>k (E_19_1.e2 y14 y15)))
noncomputable def Sp.J_19_1(p0:Int×Int×Int×Int×Int×Int×Bool×Int×Unit)(p1:Int×Int×Int×Int×Int×List Int×Int×Unit):Option E_19_1:=S_19_1 some p0 p1
noncomputable def O_19_1{R:Type}:Orc R:=orL T_19_1 (fun a=>J_19_1 a.1 a.2.1) Y_19_1
theorem OK_19_1{R:Type}:okF (R:=R) sm_19 0 (ni (nf 19 0) 0) O_19_1:=jp noO_ok (os:=[O_19_2]) ⟨OK_19_2,trivial⟩ T_19_1 (fun R k a=>S_19_1 k a.1 a.2.1) Y_19_1 (fun k a=>by kernel_rfl) (fun Y a=>by
 unfold S_19_1
 repeat' first|apply gdN|apply condN|(apply Bn_19_2<;>intros)|rfl) (ok0 _)
noncomputable def T_19_0:PS:=⟨153,[(2,.hv (.int .i64)),(3,.kc (.ptr 0 [])),(4,.kc (.ptr 1 []))],[.mem (.hv Zy19_2),.mem (.hv Zy19_3)],0⟩
inductive Sp.E_19_0 where
 |e0
 |e1 (y8:Zt19_1) (y9:Zt19_0)
 |e2 (y11:Zt19_0)
noncomputable def Sp.B_19_0{R:Type}(r:Option E_19_0)(k0:Option R)(k1:Zt19_1->Zt19_0->Option R)(k2:Zt19_0->Option R):Option R:=match r with
 |none=>none
 |some (.e0)=>k0
 |some (.e1 y8 y9)=>k1 y8 y9
 |some (.e2 y11)=>k2 y11
noncomputable def Y_19_0{R:Type}(k:Ex->St->Option R):E_19_0->Option R
 | .e0=>k Ex.ret (sx 153 [(6,CV.bool false)] [])
 | .e1 y8 y9=>k Ex.ret (sx 153 [(6,CV.bool ((↑(length (y9.2.2.2.2.2.1)):Int)==y8.2.2.2.2.2.2.2.1))] [])
 | .e2 y11=>k Ex.ret (sx 153 [(6,CV.bool ((↑(length (y11.2.2.2.2.2.1)):Int)==0))] [])
noncomputable def Sp.S_19_0{R:Type}(k:E_19_0->Option R)(p0:Int)(p1:Int×Int×Int×Int×Int×Int×Bool×Int×Unit)(p2:Int×Int×Int×Int×Int×List Int×Int×Unit):Option R:=
 gd (p_36 p2 1) (bif(v_36 p2 1).1 then gd (p_36 p2 10) (bif !(v_36 p2 10).1 then k (E_19_0.e0)else bif p2.2.2.2.2.2.2.1 !=p0 then k (E_19_0.e0)else B_19_1 (J_19_1 p1 p2) (k (E_19_0.e0)) (fun y8 y9=>k (E_19_0.e1 y8 y9)) fun y10 y11=>bif y11.2.2.1==0 then bif y11.2.2.2.1==0 then bif y11.2.2.2.2.1==0 then bif y11.2.2.2.2.2.2.1==0 then k (E_19_0.e2 y11)else k (E_19_0.e0)else k (E_19_0.e0)else k (E_19_0.e0)else k (E_19_0.e0))else B_19_1 (J_19_1 p1 p2) (k (E_19_0.e0)) (fun y12 y13=>k (E_19_0.e1 y12 y13)) fun y14 y15=>bif y15.2.2.1==0 then bif y15.2.2.2.1==0 then bif y15.2.2.2.2.1==0 then bif y15.2.2.2.2.2.2.1==0 then k (E_19_0.e2 y15)else k (E_19_0.e0)else k (E_19_0.e0)else k (E_19_0.e0)else k (E_19_0.e0))
noncomputable def Sp.J_19_0(p0:Int)(p1:Int×Int×Int×Int×Int×Int×Bool×Int×Unit)(p2:Int×Int×Int×Int×Int×List Int×Int×Unit):Option E_19_0:=S_19_0 some p0 p1 p2
noncomputable def O_19_0{R:Type}:Orc R:=orL T_19_0 (fun a=>J_19_0 a.1 a.2.1 a.2.2.1) Y_19_0
theorem OK_19_0{R:Type}:okF (R:=R) sm_19 0 (nf 19 0) O_19_0:=jp noO_ok (os:=[O_19_1]) ⟨OK_19_1,trivial⟩ T_19_0 (fun R k a=>S_19_0 k a.1 a.2.1 a.2.2.1) Y_19_0 (fun k a=>by kernel_rfl) (fun Y a=>by
 unfold S_19_0
 repeat' first|apply gdN|apply condN|(apply Bn_19_1<;>intros)|rfl) (ok0 _)
noncomputable def F_19(a0:(Int×(Int×(Int×(Int×(Int×(Int×(Bool×(Int×Unit)))))))))(a1:(Int×(Int×(Int×(Int×(Int×((List Int)×(Int×Unit))))))))(a2:Int):Option (Bool×Unit) :=
 gd (p_18 (a1.1) 0 31) (bif !(v_18 (a1.1) 0 31).1 then some (false,PUnit.unit)else gd (p_18 (a1.2.1) (wrap i64 (0-a0.2.2.1)) (a0.2.1)) (bif !(v_18 (a1.2.1) (wrap i64 (0-a0.2.2.1)) (a0.2.1)).1 then some (false,PUnit.unit)else gd (p_18 (a1.2.2.1) 0 2) (bif !(v_18 (a1.2.2.1) 0 2).1 then some (false,PUnit.unit)else gd (p_18 (a1.2.2.2.1) 0 (wrap i64 (a0.2.2.2.2.1-1))) (bif !(v_18 (a1.2.2.2.1) 0 (wrap i64 (a0.2.2.2.2.1-1))).1 then some (false,PUnit.unit)else gd (p_18 (a1.2.2.2.2.1) 0 255) (bif !(v_18 (a1.2.2.2.2.1) 0 255).1 then some (false,PUnit.unit)else gd (p_18 (a1.2.2.2.2.2.2.1) 0 a2) (bif !(v_18 (a1.2.2.2.2.2.2.1) 0 a2).1 then some (false,PUnit.unit)else bif decide ((↑(length (a1.2.2.2.2.2.1)):Int)>0)then gd (p_35 a0 (a1.2.2.2.2.2.1)) (bif !(v_35 a0 (a1.2.2.2.2.2.1)).1 then some (false,PUnit.unit)else B_19_0 (J_19_0 a2 a0 a1) (some (false,PUnit.unit)) (fun y14 y15=>some ((↑(length (y15.2.2.2.2.2.1)):Int)==y14.2.2.2.2.2.2.2.1,PUnit.unit)) fun y16=>some ((↑(length (y16.2.2.2.2.2.1)):Int)==0,PUnit.unit))else B_19_0 (J_19_0 a2 a0 a1) (some (false,PUnit.unit)) (fun y17 y18=>some ((↑(length (y18.2.2.2.2.2.1)):Int)==y17.2.2.2.2.2.2.2.1,PUnit.unit)) fun y19=>some ((↑(length (y19.2.2.2.2.2.1)):Int)==0,PUnit.unit)))))))
noncomputable def Sp.p_19(a0:(Int×(Int×(Int×(Int×(Int×(Int×(Bool×(Int×Unit)))))))))(a1:(Int×(Int×(Int×(Int×(Int×((List Int)×(Int×Unit))))))))(a2:Int):Bool:=(F_19 a0 a1 a2).isSome
noncomputable def Sp.v_19(a0:(Int×(Int×(Int×(Int×(Int×(Int×(Bool×(Int×Unit)))))))))(a1:(Int×(Int×(Int×(Int×(Int×((List Int)×(Int×Unit))))))))(a2:Int):Bool×Unit:=(F_19 a0 a1 a2).getD (dfH R_19)
noncomputable def s_19:Summ:=shN A_19 R_19 (fun x=>p_19 x.1 x.2.1 x.2.2.1) (fun x=>v_19 x.1 x.2.1 x.2.2.1)
theorem pv_19(a0:(Int×(Int×(Int×(Int×(Int×(Int×(Bool×(Int×Unit)))))))))(a1:(Int×(Int×(Int×(Int×(Int×((List Int)×(Int×Unit))))))))(a2:Int){y:Bool×Unit}(h:F_19 a0 a1 a2=some y):p_19 a0 a1 a2=true/\v_19 a0 a1 a2=y:=pvG h
theorem run_19(x:HDen A_19)(y:HDen R_19)(h:F_19 x.1 x.2.1 x.2.2.1=some y):rnF sm_19 1 19 A_19 R_19 x y:=runG noO_ok (os:=[O_19_0]) ⟨OK_19_0,trivial⟩ (Eq.trans (by kernel_rfl) h)
end
noncomputable section
abbrev A_34:List Ty:=[(.pair (.int .i64) (.pair (.int .i64) (.pair (.int .i64) (.pair (.int .i64) (.pair (.int .i64) (.pair (.int .i64) (.pair .bool (.pair (.int .i64) .unit))))))))]
abbrev R_34:List Ty:=[.bool]
noncomputable def sm_34:Nat->Option Summ:=smL [(18,s_18)]
noncomputable def F_34(a0:(Int×(Int×(Int×(Int×(Int×(Int×(Bool×(Int×Unit))))))))):Option (Bool×Unit) :=
 gd (p_18 (a0.1) 1 16777215) (bif(v_18 (a0.1) 1 16777215).1 then gd (p_18 (a0.2.1) 1 100) (bif(v_18 (a0.2.1) 1 100).1 then gd (p_18 (a0.2.2.1) 1 100) (bif(v_18 (a0.2.2.1) 1 100).1 then gd (p_18 (a0.2.2.2.1) 1 100) (bif(v_18 (a0.2.2.2.1) 1 100).1 then gd (p_18 (a0.2.2.2.2.1) (a0.2.2.2.1) 255) (bif(v_18 (a0.2.2.2.2.1) (a0.2.2.2.1) 255).1 then gd (p_18 (a0.2.2.2.2.2.1) 0 255) (bif(v_18 (a0.2.2.2.2.2.1) 0 255).1 then gd (p_18 (a0.2.2.2.2.2.2.2.1) 0 8) (some ((v_18 (a0.2.2.2.2.2.2.2.1) 0 8).1,PUnit.unit))else some (false,PUnit.unit))else some (false,PUnit.unit))else some (false,PUnit.unit))else some (false,PUnit.unit))else some (false,PUnit.unit))else some (false,PUnit.unit))
noncomputable def Sp.p_34(a0:(Int×(Int×(Int×(Int×(Int×(Int×(Bool×(Int×Unit))))))))):Bool:=(F_34 a0).isSome
noncomputable def Sp.v_34(a0:(Int×(Int×(Int×(Int×(Int×(Int×(Bool×(Int×Unit))))))))):Bool×Unit:=(F_34 a0).getD (dfH R_34)
noncomputable def s_34:Summ:=shN A_34 R_34 (fun x=>p_34 x.1) (fun x=>v_34 x.1)
theorem pv_34(a0:(Int×(Int×(Int×(Int×(Int×(Int×(Bool×(Int×Unit))))))))){y:Bool×Unit}(h:F_34 a0=some y):p_34 a0=true/\v_34 a0=y:=pvG h
theorem run_34(x:HDen A_34)(y:HDen R_34)(h:F_34 x.1=some y):rnF sm_34 1 34 A_34 R_34 x y:=runG noO_ok (os:=[]) trivial (Eq.trans (by kernel_rfl) h)
end
noncomputable section
abbrev Zy7_0:Ty:=(.pair (.slice (.pair (.int .i64) (.pair (.int .i64) (.pair (.int .i64) (.pair (.int .i64) (.pair (.int .i64) (.pair (.int .i64) (.pair .bool (.pair (.int .i64) .unit))))))))) (.pair (.slice (.pair (.int .i64) (.pair (.int .i64) (.pair (.int .i64) (.pair (.int .i64) (.pair (.int .i64) (.pair (.slice (.int .i64)) (.pair (.int .i64) .unit)))))))) (.pair (.int .i64) (.pair .bool .unit))))
abbrev Zt7_1:Type:=List (Int×Int×Int×Int×Int×Int×Bool×Int×Unit)×List (Int×Int×Int×Int×Int×List Int×Int×Unit)×Int×Bool×Unit
abbrev A_7:List Ty:=[(.pair (.slice (.pair (.int .i64) (.pair (.int .i64) (.pair (.int .i64) (.pair (.int .i64) (.pair (.int .i64) (.pair (.int .i64) (.pair .bool (.pair (.int .i64) .unit))))))))) (.pair (.slice (.pair (.int .i64) (.pair (.int .i64) (.pair (.int .i64) (.pair (.int .i64) (.pair (.int .i64) (.pair (.slice (.int .i64)) (.pair (.int .i64) .unit)))))))) (.pair (.int .i64) (.pair .bool .unit))))]
abbrev R_7:List Ty:=[.bool]
noncomputable def sm_7:Nat->Option Summ:=smL [(17,s_17),(18,s_18),(19,s_19),(34,s_34)]
noncomputable def T_7_33_0_0:PS:=⟨19,[(0,.hv (.slice (.pair (.int .i64) (.pair (.int .i64) (.pair (.int .i64) (.pair (.int .i64) (.pair (.int .i64) (.pair (.int .i64) (.pair .bool (.pair (.int .i64) .unit)))))))))),(1,.kc (.clo 16 (.pure .unit PUnit.unit))),(7,.hv (.int .i64)),(8,.hv (.int .i64))],[.mem (.hv Zy7_0)],1⟩
inductive Sp.E_7_33_0_0 where
 |e0 (p2:Int) (p3:Zt7_1)
 |e1 (p3:Zt7_1)
noncomputable def Sp.B_7_33_0_0{R:Type}(r:Option E_7_33_0_0)(k0:Int->Zt7_1->Option R)(k1:Zt7_1->Option R):Option R:=match r with
 |none=>none
 |some (.e0 p2 p3)=>k0 p2 p3
 |some (.e1 p3)=>k1 p3
noncomputable def Y_7_33_0_0{R:Type}(k:Ex->St->Option R):E_7_33_0_0->Option R
 | .e0 p2 p3=>k Ex.ret (sx 19 [(4,CV.int i64 p2)] [Blk.mem (CV.pure (Ty.pair (Ty.slice (Ty.pair (Ty.int i64) (Ty.pair (Ty.int i64) (Ty.pair (Ty.int i64) (Ty.pair (Ty.int i64) (Ty.pair (Ty.int i64) (Ty.pair (Ty.int i64) (Ty.pair Ty.bool (Ty.pair (Ty.int i64) Ty.unit))))))))) (Ty.pair (Ty.slice (Ty.pair (Ty.int i64) (Ty.pair (Ty.int i64) (Ty.pair (Ty.int i64) (Ty.pair (Ty.int i64) (Ty.pair (Ty.int i64) (Ty.pair (Ty.slice (Ty.int i64)) (Ty.pair (Ty.int i64) Ty.unit)))))))) (Ty.pair (Ty.int i64) (Ty.pair Ty.bool Ty.unit)))) p3)] 1)
 | .e1 p3=>k (Ex.exit 0) (sx 19 [] [Blk.mem (CV.pure (Ty.pair (Ty.slice (Ty.pair (Ty.int i64) (Ty.pair (Ty.int i64) (Ty.pair (Ty.int i64) (Ty.pair (Ty.int i64) (Ty.pair (Ty.int i64) (Ty.pair (Ty.int i64) (Ty.pair Ty.bool (Ty.pair (Ty.int i64) Ty.unit))))))))) (Ty.pair (Ty.slice (Ty.pair (Ty.int i64) (Ty.pair (Ty.int i64) (Ty.pair (Ty.int i64) (Ty.pair (Ty.int i64) (Ty.pair (Ty.int i64) (Ty.pair (Ty.slice (Ty.int i64)) (Ty.pair (Ty.int i64) Ty.unit)))))))) (Ty.pair (Ty.int i64) (Ty.pair Ty.bool Ty.unit)))) p3)] 1)
noncomputable def Sp.S_7_33_0_0{R:Type}(K:(List (Int×Int×Int×Int×Int×Int×Bool×Int×Unit))->Int->Int->(List (Int×Int×Int×Int×Int×Int×Bool×Int×Unit)×List (Int×Int×Int×Int×Int×List Int×Int×Unit)×Int×Bool×Unit)->Option R)(k:E_7_33_0_0->Option R)(p0:List (Int×Int×Int×Int×Int×Int×Bool×Int×Unit))(p1 p2:Int)(p3:List (Int×Int×Int×Int×Int×Int×Bool×Int×Unit)×List (Int×Int×Int×Int×Int×List Int×Int×Unit)×Int×Bool×Unit):Option R:=
 bif decide (p2<p1)then gd (inB p2 (length p0)) (gd (p_34 (getD p0 (toNat p2) Zd0)) (bif !(v_34 (getD p0 (toNat p2) Zd0)).1 then k (E_7_33_0_0.e0 p2 p3)else K p0 p1 (wrap i64 (p2+1)) p3))else k (E_7_33_0_0.e1 p3)
noncomputable def Sp.L_7_33_0_0:Nat->(List (Int×Int×Int×Int×Int×Int×Bool×Int×Unit))->Int->Int->(List (Int×Int×Int×Int×Int×Int×Bool×Int×Unit)×List (Int×Int×Int×Int×Int×List Int×Int×Unit)×Int×Bool×Unit)->Option E_7_33_0_0
 |0,_,_,_,_=>none
 |m+1,p0,p1,p2,p3=>S_7_33_0_0 (L_7_33_0_0 m) some p0 p1 p2 p3
noncomputable def l_7_33_0_0(m:Nat)(a:T_7_33_0_0.E):Option E_7_33_0_0:=L_7_33_0_0 m a.1 a.2.1 a.2.2.1 a.2.2.2.1
noncomputable def O_7_33_0_0{R:Type}:Orc R:=orL T_7_33_0_0 (l_7_33_0_0 FU) Y_7_33_0_0
theorem OK_7_33_0_0{R:Type}:okF (R:=R) sm_7 1 (nf 33 0) O_7_33_0_0:=lp0 T_7_33_0_0 l_7_33_0_0 (fun R K k a=>S_7_33_0_0 (fun p0 p1 p2 p3=>K (p0,p1,p2,p3,())) k a.1 a.2.1 a.2.2.1 a.2.2.2.1) Y_7_33_0_0 (fun _ _ _=>by kernel_rfl) (fun _ _ _=>by
 unfold S_7_33_0_0
 repeat' first|apply gdN|apply condN|rfl) (ok0 _)
noncomputable def g_7_33{R:Type}:List CV->List Blk->(CV->List Blk->Option R)->Option R:=evFnL sm_7 FU (ovr noO (evFn sm_7 fns FU 1)) (mkT (fB fns 33) [O_7_33_0_0]) (fO fns 33)
theorem g_7_33_ok{R:Type}(args:List CV)(hp:List Blk)(k:CV->List Blk->Option R)(r:R)(h:g_7_33 args hp k=some r):evFn sm_7 fns FU 2 33 args hp k=some r:=runG noO_ok (os:=[O_7_33_0_0]) ⟨OK_7_33_0_0,trivial⟩ h
noncomputable def ov_7_15{R:Type}:Nat->Option (List CV->List Blk->(CV->List Blk->Option R)->Option R):=fun f'=>bif Nat.beq f' 33 then some g_7_33 else none
theorem ov_7_15_ok{R:Type}:OvrOK (R:=R) ov_7_15 (evFn sm_7 fns FU 2):=by
 intro f' g h args hp k r hg
 dsimp only[ov_7_15]at h
 by_cases h33:f'=33
 ·subst h33
  injection h with h
  subst h
  exact evFn_le 0 (g_7_33_ok _ _ _ _ hg)
 rw[nbeq_ne h33,cond_false]at h
 cases h
noncomputable def g_7_15{R:Type}:List CV->List Blk->(CV->List Blk->Option R)->Option R:=evFnL sm_7 FU (ovr ov_7_15 (evFn sm_7 fns FU 2)) (mkT (fB fns 15) []) (fO fns 15)
theorem g_7_15_ok{R:Type}(args:List CV)(hp:List Blk)(k:CV->List Blk->Option R)(r:R)(h:g_7_15 args hp k=some r):evFn sm_7 fns FU 3 15 args hp k=some r:=runG ov_7_15_ok (os:=[]) trivial h
noncomputable def ov_7_7{R:Type}:Nat->Option (List CV->List Blk->(CV->List Blk->Option R)->Option R):=fun f'=>bif Nat.beq f' 15 then some g_7_15 else none
theorem ov_7_7_ok{R:Type}:OvrOK (R:=R) ov_7_7 (evFn sm_7 fns FU 3):=by
 intro f' g h args hp k r hg
 dsimp only[ov_7_7]at h
 by_cases h15:f'=15
 ·subst h15
  injection h with h
  subst h
  exact evFn_le 0 (g_7_15_ok _ _ _ _ hg)
 rw[nbeq_ne h15,cond_false]at h
 cases h
noncomputable def T_7_1:PS:=⟨63,[(1,.kc (.ptr 0 [])),(45,.hv (.slice (.pair (.int .i64) (.pair (.int .i64) (.pair (.int .i64) (.pair (.int .i64) (.pair (.int .i64) (.pair (.slice (.int .i64)) (.pair (.int .i64) .unit))))))))),(46,.hv (.int .i64)),(47,.hv (.int .i64))],[.mem (.hv Zy7_0)],0⟩
inductive Sp.E_7_1 where
 |e0
 |e1
noncomputable def Sp.B_7_1{R:Type}(r:Option E_7_1)(k0 k1:Option R):Option R:=match r with
 |none=>none
 |some (.e0)=>k0
 |some (.e1)=>k1
theorem Bn_7_1{A R:Type}{r:Option E_7_1}{f:A->Option R}{k0:Option A}{k1:Option A}{l0:Option R}{l1:Option R}(h0:(k0).bind f=l0)(h1:(k1).bind f=l1):(B_7_1 r k0 k1).bind f=B_7_1 r l0 l1:=by
 cases r with
 |none=>rfl
 |some e=>cases e<;>first|apply h0|apply h1
noncomputable def Y_7_1{R:Type}(k:Ex->St->Option R):E_7_1->Option R
 | .e0=>k Ex.ret (sx 63 [(2,CV.bool false)] [])
 | .e1=>k (Ex.exit 0) (sx 63 [] [])
noncomputable def Sp.S_7_1{R:Type}(K:(List (Int×Int×Int×Int×Int×List Int×Int×Unit))->Int->Int->(List (Int×Int×Int×Int×Int×Int×Bool×Int×Unit)×List (Int×Int×Int×Int×Int×List Int×Int×Unit)×Int×Bool×Unit)->Option R)(k:E_7_1->Option R)(p0:List (Int×Int×Int×Int×Int×List Int×Int×Unit))(p1 p2:Int)(p3:List (Int×Int×Int×Int×Int×Int×Bool×Int×Unit)×List (Int×Int×Int×Int×Int×List Int×Int×Unit)×Int×Bool×Unit):Option R:=
 bif decide (p2<p1)then gd (inB p2 (length p0)) (gd (inB p2 (length (p3.1))) (gd (p_19 (getD (p3.1) (toNat p2) Zd0) (getD p0 (toNat p2) Zd1) (p3.2.2.1)) (bif !(v_19 (getD (p3.1) (toNat p2) Zd0) (getD p0 (toNat p2) Zd1) (p3.2.2.1)).1 then k (E_7_1.e0)else K p0 p1 (wrap i64 (p2+1)) p3)))else k (E_7_1.e1)
noncomputable def Sp.L_7_1:Nat->(List (Int×Int×Int×Int×Int×List Int×Int×Unit))->Int->Int->(List (Int×Int×Int×Int×Int×Int×Bool×Int×Unit)×List (Int×Int×Int×Int×Int×List Int×Int×Unit)×Int×Bool×Unit)->Option E_7_1
 |0,_,_,_,_=>none
 |m+1,p0,p1,p2,p3=>S_7_1 (L_7_1 m) some p0 p1 p2 p3
noncomputable def l_7_1(m:Nat)(a:T_7_1.E):Option E_7_1:=L_7_1 m a.1 a.2.1 a.2.2.1 a.2.2.2.1
noncomputable def O_7_1{R:Type}:Orc R:=orL T_7_1 (l_7_1 FU) Y_7_1
theorem OK_7_1{R:Type}:okF (R:=R) sm_7 3 (ni (nf 7 0) 0) O_7_1:=lp ov_7_7_ok (os:=[]) trivial T_7_1 l_7_1 (fun R K k a=>S_7_1 (fun p0 p1 p2 p3=>K (p0,p1,p2,p3,())) k a.1 a.2.1 a.2.2.1 a.2.2.2.1) Y_7_1 (fun _=>rfl) (fun _ _=>rfl) (fun k K a=>by kernel_rfl) (fun Y K a=>by
 unfold S_7_1
 repeat' first|apply gdN|apply condN|rfl) (ok0 _)
noncomputable def T_7_0:PS:=⟨63,[(1,.kc (.ptr 0 []))],[.mem (.hv Zy7_0)],0⟩
inductive Sp.E_7_0 where
 |e0
 |e1
noncomputable def Sp.B_7_0{R:Type}(r:Option E_7_0)(k0 k1:Option R):Option R:=match r with
 |none=>none
 |some (.e0)=>k0
 |some (.e1)=>k1
noncomputable def Y_7_0{R:Type}(k:Ex->St->Option R):E_7_0->Option R
 | .e0=>k Ex.ret (sx 63 [(2,CV.bool false)] [])
 | .e1=>k Ex.ret (sx 63 [(2,CV.bool true)] [])
noncomputable def Sp.S_7_0{R:Type}(k:E_7_0->Option R)(p0:List (Int×Int×Int×Int×Int×Int×Bool×Int×Unit)×List (Int×Int×Int×Int×Int×List Int×Int×Unit)×Int×Bool×Unit):Option R:=
 B_7_1 (L_7_1 4611686018427387904 (p0.2.1) (↑(length (p0.2.1)):Int) 0 p0) (k (E_7_0.e0)) (k (E_7_0.e1))
noncomputable def Sp.J_7_0(p0:List (Int×Int×Int×Int×Int×Int×Bool×Int×Unit)×List (Int×Int×Int×Int×Int×List Int×Int×Unit)×Int×Bool×Unit):Option E_7_0:=S_7_0 some p0
noncomputable def O_7_0{R:Type}:Orc R:=orL T_7_0 (fun a=>J_7_0 a.1) Y_7_0
theorem OK_7_0{R:Type}:okF (R:=R) sm_7 3 (nf 7 0) O_7_0:=jp ov_7_7_ok (os:=[O_7_1]) ⟨OK_7_1,trivial⟩ T_7_0 (fun R k a=>S_7_0 k a.1) Y_7_0 (fun k a=>by kernel_rfl) (fun Y a=>by
 unfold S_7_0
 repeat' first|apply gdN|apply condN|(apply Bn_7_1<;>intros)|rfl) (ok0 _)
noncomputable def F_7(a0:((List (Int×(Int×(Int×(Int×(Int×(Int×(Bool×(Int×Unit)))))))))×((List (Int×(Int×(Int×(Int×(Int×((List Int)×(Int×Unit))))))))×(Int×(Bool×Unit))))):Option (Bool×Unit) :=
 bif decide ((↑(length (a0.1)):Int)>64)then some (false,PUnit.unit)else B_7_33_0_0 (L_7_33_0_0 4611686018427387904 (a0.1) (↑(length (a0.1)):Int) 0 a0) (fun y11 y12=>bif decide (y11>=0)then some (false,PUnit.unit)else bif !Sp.dst (List.map (fun y13=>y13.1) (y12.1))then some (false,PUnit.unit)else bif(↑(length (y12.2.1)):Int)!=(↑(length (y12.1)):Int)then some (false,PUnit.unit)else gd (p_18 (y12.2.2.1) 0 1073741824) (bif !(v_18 (y12.2.2.1) 0 1073741824).1 then some (false,PUnit.unit)else bif y12.2.2.2.1 then bif decide (y12.2.2.1<1)then some (false,PUnit.unit)else B_7_0 (J_7_0 y12) (some (false,PUnit.unit)) (some (true,PUnit.unit))else B_7_0 (J_7_0 y12) (some (false,PUnit.unit)) (some (true,PUnit.unit)))) fun y16=>bif !Sp.dst (List.map (fun y17=>y17.1) (y16.1))then some (false,PUnit.unit)else bif(↑(length (y16.2.1)):Int)!=(↑(length (y16.1)):Int)then some (false,PUnit.unit)else gd (p_18 (y16.2.2.1) 0 1073741824) (bif !(v_18 (y16.2.2.1) 0 1073741824).1 then some (false,PUnit.unit)else bif y16.2.2.2.1 then bif decide (y16.2.2.1<1)then some (false,PUnit.unit)else B_7_0 (J_7_0 y16) (some (false,PUnit.unit)) (some (true,PUnit.unit))else B_7_0 (J_7_0 y16) (some (false,PUnit.unit)) (some (true,PUnit.unit)))
noncomputable def Sp.p_7(a0:((List (Int×(Int×(Int×(Int×(Int×(Int×(Bool×(Int×Unit)))))))))×((List (Int×(Int×(Int×(Int×(Int×((List Int)×(Int×Unit))))))))×(Int×(Bool×Unit))))):Bool:=(F_7 a0).isSome
noncomputable def Sp.v_7(a0:((List (Int×(Int×(Int×(Int×(Int×(Int×(Bool×(Int×Unit)))))))))×((List (Int×(Int×(Int×(Int×(Int×((List Int)×(Int×Unit))))))))×(Int×(Bool×Unit))))):Bool×Unit:=(F_7 a0).getD (dfH R_7)
noncomputable def s_7:Summ:=shN A_7 R_7 (fun x=>p_7 x.1) (fun x=>v_7 x.1)
theorem pv_7(a0:((List (Int×(Int×(Int×(Int×(Int×(Int×(Bool×(Int×Unit)))))))))×((List (Int×(Int×(Int×(Int×(Int×((List Int)×(Int×Unit))))))))×(Int×(Bool×Unit))))){y:Bool×Unit}(h:F_7 a0=some y):p_7 a0=true/\v_7 a0=y:=pvG h
theorem run_7(x:HDen A_7)(y:HDen R_7)(h:F_7 x.1=some y):rnF sm_7 4 7 A_7 R_7 x y:=runG ov_7_7_ok (os:=[O_7_0]) ⟨OK_7_0,trivial⟩ (Eq.trans (by kernel_rfl) h)
end
noncomputable section
abbrev A_38:List Ty:=[(.pair (.int .i64) (.pair (.int .i64) (.pair (.int .i64) (.pair (.int .i64) (.pair (.int .i64) (.pair (.int .i64) .unit)))))),(.int .i64)]
abbrev R_38:List Ty:=[(.pair (.int .i64) (.pair (.int .i64) (.pair (.int .i64) (.pair (.int .i64) (.pair (.int .i64) (.pair (.int .i64) .unit))))))]
noncomputable def sm_38:Nat->Option Summ:=smL []
noncomputable def F_38(a0:(Int×(Int×(Int×(Int×(Int×(Int×Unit)))))))(a1:Int):Option ((Int×(Int×(Int×(Int×(Int×(Int×Unit))))))×Unit) :=
 bif a1==1 then some ((a1,0,0,a0.2.2.2.1,a0.2.2.2.2.1,0,a0.2.2.2.2.2.2),PUnit.unit)else some ((a1,0,0,a0.2.2.2),PUnit.unit)
noncomputable def Sp.p_38(a0:(Int×(Int×(Int×(Int×(Int×(Int×Unit)))))))(a1:Int):Bool:=(F_38 a0 a1).isSome
noncomputable def Sp.v_38(a0:(Int×(Int×(Int×(Int×(Int×(Int×Unit)))))))(a1:Int):(Int×(Int×(Int×(Int×(Int×(Int×Unit))))))×Unit:=(F_38 a0 a1).getD (dfH R_38)
noncomputable def s_38:Summ:=shN A_38 R_38 (fun x=>p_38 x.1 x.2.1) (fun x=>v_38 x.1 x.2.1)
theorem pv_38(a0:(Int×(Int×(Int×(Int×(Int×(Int×Unit)))))))(a1:Int){y:(Int×(Int×(Int×(Int×(Int×(Int×Unit))))))×Unit}(h:F_38 a0 a1=some y):p_38 a0 a1=true/\v_38 a0 a1=y:=pvG h
theorem run_38(x:HDen A_38)(y:HDen R_38)(h:F_38 x.1 x.2.1=some y):rnF sm_38 1 38 A_38 R_38 x y:=runG noO_ok (os:=[]) trivial (Eq.trans (by kernel_rfl) h)
end
noncomputable section
abbrev A_20:List Ty:=[(.pair (.int .i64) (.pair (.int .i64) (.pair (.int .i64) (.pair (.int .i64) (.pair (.int .i64) (.pair (.int .i64) .unit)))))),(.int .i64)]
abbrev R_20:List Ty:=[(.pair (.int .i64) (.pair (.int .i64) (.pair (.int .i64) (.pair (.int .i64) (.pair (.int .i64) (.pair (.int .i64) .unit))))))]
noncomputable def sm_20:Nat->Option Summ:=smL [(6,s_6),(14,s_14),(38,s_38)]
noncomputable def F_20(a0:(Int×(Int×(Int×(Int×(Int×(Int×Unit)))))))(a1:Int):Option ((Int×(Int×(Int×(Int×(Int×(Int×Unit))))))×Unit) :=
 gd (p_6 a0) (bif !(v_6 a0).1 then some (a0,PUnit.unit)else gd (p_14 a1 0 1099511627776) (bif !(v_14 a1 0 1099511627776).1 then some (a0,PUnit.unit)else bif a0.1==1 then some (a0,PUnit.unit)else bif decide (a1<a0.2.2.2.2.2.1)then some (a0,PUnit.unit)else gd (p_38 a0 1) (some ((v_38 a0 1).1,PUnit.unit))))
noncomputable def Sp.p_20(a0:(Int×(Int×(Int×(Int×(Int×(Int×Unit)))))))(a1:Int):Bool:=(F_20 a0 a1).isSome
noncomputable def Sp.v_20(a0:(Int×(Int×(Int×(Int×(Int×(Int×Unit)))))))(a1:Int):(Int×(Int×(Int×(Int×(Int×(Int×Unit))))))×Unit:=(F_20 a0 a1).getD (dfH R_20)
noncomputable def s_20:Summ:=shN A_20 R_20 (fun x=>p_20 x.1 x.2.1) (fun x=>v_20 x.1 x.2.1)
theorem pv_20(a0:(Int×(Int×(Int×(Int×(Int×(Int×Unit)))))))(a1:Int){y:(Int×(Int×(Int×(Int×(Int×(Int×Unit))))))×Unit}(h:F_20 a0 a1=some y):p_20 a0 a1=true/\v_20 a0 a1=y:=pvG h
theorem run_20(x:HDen A_20)(y:HDen R_20)(h:F_20 x.1 x.2.1=some y):rnF sm_20 1 20 A_20 R_20 x y:=runG noO_ok (os:=[]) trivial (Eq.trans (by kernel_rfl) h)
end
noncomputable section
abbrev A_39:List Ty:=[(.slice (.int .u8))]
abbrev R_39:List Ty:=[(.int .i64)]
noncomputable def sm_39:Nat->Option Summ:=smL []
noncomputable def F_39(a0:(List Int)):Option (Int×Unit) :=
 gd (inB 0 (length a0)) (bif getD a0 0 (0:Int)==(16:Int)then some (2,PUnit.unit)else bif getD a0 0 (0:Int)==(17:Int)then some (2,PUnit.unit)else bif getD a0 0 (0:Int)==(62:Int)then some (2,PUnit.unit)else bif getD a0 0 (0:Int)==(20:Int)then some (4,PUnit.unit)else bif getD a0 0 (0:Int)==(25:Int)then some (3,PUnit.unit)else bif getD a0 0 (0:Int)==(34:Int)then some (3,PUnit.unit)else bif getD a0 0 (0:Int)==(39:Int)then bif decide ((↑(length a0):Int)>1)then gd (inB 1 (length a0)) (bif getD a0 1 (0:Int)==(2:Int)then some (4,PUnit.unit)else some (2,PUnit.unit))else some (2,PUnit.unit)else some (0,PUnit.unit))
noncomputable def Sp.p_39(a0:(List Int)):Bool:=(F_39 a0).isSome
noncomputable def Sp.v_39(a0:(List Int)):Int×Unit:=(F_39 a0).getD (dfH R_39)
noncomputable def s_39:Summ:=shN A_39 R_39 (fun x=>p_39 x.1) (fun x=>v_39 x.1)
theorem pv_39(a0:(List Int)){y:Int×Unit}(h:F_39 a0=some y):p_39 a0=true/\v_39 a0=y:=pvG h
theorem run_39(x:HDen A_39)(y:HDen R_39)(h:F_39 x.1=some y):rnF sm_39 1 39 A_39 R_39 x y:=runG noO_ok (os:=[]) trivial (Eq.trans (by kernel_rfl) h)
end
noncomputable section
abbrev A_40:List Ty:=[(.slice (.int .u8))]
abbrev R_40:List Ty:=[.bool]
noncomputable def sm_40:Nat->Option Summ:=smL []
noncomputable def F_40(a0:(List Int)):Option (Bool×Unit) :=
 gd (inB 0 (length a0)) (bif getD a0 0 (0:Int)==(16:Int)then gd (inB 1 (length a0)) (bif decide (getD a0 1 (0:Int)>=(1:Int))then gd (inB 1 (length a0)) (some (decide (getD a0 1 (0:Int)<=(3:Int)),PUnit.unit))else some (false,PUnit.unit))else bif getD a0 0 (0:Int)==(17:Int)then gd (inB 1 (length a0)) (some (getD a0 1 (0:Int)==(1:Int),PUnit.unit))else bif getD a0 0 (0:Int)==(25:Int)then gd (inB 1 (length a0)) (some (getD a0 1 (0:Int)==(2:Int),PUnit.unit))else bif getD a0 0 (0:Int)==(39:Int)then gd (inB 1 (length a0)) (bif getD a0 1 (0:Int)==(1:Int)then some (true,PUnit.unit)else gd (inB 1 (length a0)) (some (getD a0 1 (0:Int)==(2:Int),PUnit.unit)))else bif getD a0 0 (0:Int)==(62:Int)then gd (inB 1 (length a0)) (bif getD a0 1 (0:Int)==(0:Int)then some (true,PUnit.unit)else gd (inB 1 (length a0)) (some (getD a0 1 (0:Int)==(128:Int),PUnit.unit)))else some (true,PUnit.unit))
noncomputable def Sp.p_40(a0:(List Int)):Bool:=(F_40 a0).isSome
noncomputable def Sp.v_40(a0:(List Int)):Bool×Unit:=(F_40 a0).getD (dfH R_40)
noncomputable def s_40:Summ:=shN A_40 R_40 (fun x=>p_40 x.1) (fun x=>v_40 x.1)
theorem pv_40(a0:(List Int)){y:Bool×Unit}(h:F_40 a0=some y):p_40 a0=true/\v_40 a0=y:=pvG h
theorem run_40(x:HDen A_40)(y:HDen R_40)(h:F_40 x.1=some y):rnF sm_40 1 40 A_40 R_40 x y:=runG noO_ok (os:=[]) trivial (Eq.trans (by kernel_rfl) h)
end
noncomputable section
abbrev A_42:List Ty:=[(.slice (.int .u8))]
abbrev R_42:List Ty:=[(.slice (.int .u8)),(.int .i64)]
noncomputable def sm_42:Nat->Option Summ:=smL []
noncomputable def F_42(a0:(List Int)):Option ((List Int)×Int×Unit) :=
 some (a0,0,PUnit.unit)
noncomputable def Sp.p_42(a0:(List Int)):Bool:=(F_42 a0).isSome
noncomputable def Sp.v_42(a0:(List Int)):(List Int)×Int×Unit:=(F_42 a0).getD (dfH R_42)
noncomputable def s_42:Summ:=shS A_42 R_42 (fun x=>p_42 x.1) (fun x=>v_42 x.1)
theorem pv_42(a0:(List Int)){y:(List Int)×Int×Unit}(h:F_42 a0=some y):p_42 a0=true/\v_42 a0=y:=pvG h
theorem run_42(x:HDen A_42)(y:HDen R_42)(h:F_42 x.1=some y):rnF sm_42 1 42 A_42 R_42 x y:=runG noO_ok (os:=[]) trivial (Eq.trans (by kernel_rfl) h)
end
end Go.Ev
