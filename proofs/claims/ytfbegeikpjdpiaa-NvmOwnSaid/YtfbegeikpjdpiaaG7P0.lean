/- Helpers: functions of the program as Lean functions, and what they compute. No condition. -/
import Derived.Test.YtfbegeikpjdpiaaProg
import Derived.WalkKit
import Derived.Test.YtfbegeikpjdpiaaE7P2
import Derived.Test.YtfbegeikpjdpiaaE7P3
set_option maxRecDepth 10000
set_option linter.unusedVariables false
set_option linter.unusedSimpArgs false
open Go.IntKind (wrap i64 i32 i16 i8 u64 u32 u16 u8)
open List (getD length take drop replicate)
open Int (toNat)
open Go.Ev.Sp
namespace Go.Ev
open Go Go.Proofs Go.RowKit
abbrev Zd0:=(Ty.dflt (.pair .bool (.pair (.int .i64) (.pair (.int .u32) .unit))))
abbrev Zd1:=(Ty.dflt (.pair (.int .i64) (.pair (.slice (.int .u32)) .unit)))
set_option maxRecDepth 100000
noncomputable section
noncomputable def smB:Nat->Bool:=fun f=>[3,4,5,6,8,9,10,11,12,13,14,15,16,17,18,19,20,21,22,23,24,25,26,27,28,29,30,31,32,33,34,35,36,37,38,41,42,43,44,45,46,47,48,49,50,51,52,53,54,55,56,57,58,59,60,61,62,63,64,65,66,67,68,69,70,73,74,75,76,77,81,82,83,85,86,87,88,89,90,91,93,98,99,100,104,105,106,107,108,109,110].contains f
noncomputable def wF:Nat->Nat:=fun f=>0
noncomputable def cF:Nat->Bool:=fun f=>false
noncomputable def dF:Nat->Bool:=fun f=>[].contains f
noncomputable def fns:Nat->Option IFn:=fnsP Try.prog smB wF cF dF
theorem hm0:Try.prog.follows .mixedOrders=true:=by kernel_rfl
noncomputable def pre7:IC:=preI Try.prog smB 7 13 (bodyK Try.prog 7)
abbrev s_31:Summ:=vecJ (.int .u32) 26 4
abbrev s_86:Summ:=insS (.pair (.int .i64) (.pair (.slice (.int .u32)) .unit)) 59 32
abbrev s_90:Summ:=vecJ (.int .i64) 3 8
abbrev okF{R:Type}(sm:Nat->Option Summ)(d:Nat)(c:IC)(o:Orc R):Prop:=okN sm FU (evFn sm fns FU d) c o
abbrev nf(f i:Nat):IC:=nd (fB fns f) i
abbrev nr(f i:Nat):IC:=nd (fR fns f).2.2 i
abbrev ni(c:IC)(i:Nat):IC:=nd (inner c) i
abbrev rnF(sm:Nat->Option Summ)(n f:Nat)(A R:List Ty)(x:HDen A)(y:HDen R):Prop:=evFn sm fns FU n f (ofH A x) [] (pureK R)=some y
end
set_option maxHeartbeats 4000000
set_option linter.unusedVariables false
noncomputable section
abbrev A_43:List Ty:=[(.pair (.slice (.int .u32)) (.pair (.slice (.int .i64)) (.pair (.int .i64) .unit)))]
abbrev R_43:List Ty:=[.bool]
noncomputable def sm_43:Nat->Option Summ:=smL []
noncomputable def T_43_92_0_0:PS:=⟨19,[(0,.hv (.slice (.int .i64))),(1,.kc (.clo 72 (.pair (.ptr 0 []) (.pure .unit PUnit.unit)))),(7,.hv (.int .i64)),(8,.hv (.int .i64))],[.mem (.hv (.pair (.slice (.int .u32)) (.pair (.slice (.int .i64)) (.pair (.int .i64) .unit))))],1⟩
inductive Sp.E_43_92_0_0 where
 |e0 (p2:Int) (p3:List Int×List Int×Int×Unit)
 |e1 (p3:List Int×List Int×Int×Unit)
noncomputable def Sp.B_43_92_0_0{R:Type}(r:Option E_43_92_0_0)(k0:Int->(List Int×List Int×Int×Unit)->Option R)(k1:(List Int×List Int×Int×Unit)->Option R):Option R:=match r with
 |none=>none
 |some (.e0 p2 p3)=>k0 p2 p3
 |some (.e1 p3)=>k1 p3
noncomputable def Y_43_92_0_0{R:Type}(k:Ex->St->Option R):E_43_92_0_0->Option R
 | .e0 p2 p3=>k Ex.ret (sx 19 [(4,CV.int i64 p2)] [Blk.mem (CV.pure (Ty.pair (Ty.slice (Ty.int u32)) (Ty.pair (Ty.slice (Ty.int i64)) (Ty.pair (Ty.int i64) Ty.unit))) p3)] 1)
 | .e1 p3=>k (Ex.exit 0) (sx 19 [] [Blk.mem (CV.pure (Ty.pair (Ty.slice (Ty.int u32)) (Ty.pair (Ty.slice (Ty.int i64)) (Ty.pair (Ty.int i64) Ty.unit))) p3)] 1)
noncomputable def Sp.S_43_92_0_0{R:Type}(K:List Int->Int->Int->(List Int×List Int×Int×Unit)->Option R)(k:E_43_92_0_0->Option R)(p0:List Int)(p1 p2:Int)(p3:List Int×List Int×Int×Unit):Option R:=
 bif decide (p2<p1)then gd (inB p2 (length p0)) (bif decide (getD p0 (toNat p2) (0:Int)<(0:Int))then k (E_43_92_0_0.e0 p2 p3)else bif decide (getD p0 (toNat p2) 0>p3.2.2.1)then k (E_43_92_0_0.e0 p2 p3)else K p0 p1 (wrap i64 (p2+1)) p3)else k (E_43_92_0_0.e1 p3)
noncomputable def Sp.L_43_92_0_0:Nat->List Int->Int->Int->(List Int×List Int×Int×Unit)->Option E_43_92_0_0
 |0,_,_,_,_=>none
 |m+1,p0,p1,p2,p3=>S_43_92_0_0 (L_43_92_0_0 m) some p0 p1 p2 p3
noncomputable def l_43_92_0_0(m:Nat)(a:T_43_92_0_0.E):Option E_43_92_0_0:=L_43_92_0_0 m a.1 a.2.1 a.2.2.1 a.2.2.2.1
noncomputable def O_43_92_0_0{R:Type}:Orc R:=orL T_43_92_0_0 (l_43_92_0_0 FU) Y_43_92_0_0
theorem OK_43_92_0_0{R:Type}:okF (R:=R) sm_43 2 (nf 92 0) O_43_92_0_0:=lp0 T_43_92_0_0 l_43_92_0_0 (fun R K k a=>S_43_92_0_0 (fun p0 p1 p2 p3=>K (p0,p1,p2,p3,())) k a.1 a.2.1 a.2.2.1 a.2.2.2.1) Y_43_92_0_0 (fun _ _ _=>by kernel_rfl) (fun _ _ _=>by
 unfold S_43_92_0_0
 repeat' first|apply gdN|apply condN|rfl) (ok0 _)
noncomputable def g_43_92{R:Type}:List CV->List Blk->(CV->List Blk->Option R)->Option R:=evFnL sm_43 FU (ovr noO (evFn sm_43 fns FU 2)) (mkT (fB fns 92) [O_43_92_0_0]) (fO fns 92)
theorem g_43_92_ok{R:Type}(args:List CV)(hp:List Blk)(k:CV->List Blk->Option R)(r:R)(h:g_43_92 args hp k=some r):evFn sm_43 fns FU 3 92 args hp k=some r:=runG noO_ok (os:=[O_43_92_0_0]) ⟨OK_43_92_0_0,trivial⟩ h
noncomputable def ov_43_71{R:Type}:Nat->Option (List CV->List Blk->(CV->List Blk->Option R)->Option R):=fun f'=>bif Nat.beq f' 92 then some g_43_92 else none
theorem ov_43_71_ok{R:Type}:OvrOK (R:=R) ov_43_71 (evFn sm_43 fns FU 3):=by
 intro f' g h args hp k r hg
 dsimp only[ov_43_71]at h
 by_cases h92:f'=92
 ·subst h92
  injection h with h
  subst h
  exact evFn_le 0 (g_43_92_ok _ _ _ _ hg)
 rw[nbeq_ne h92,cond_false]at h
 cases h
noncomputable def g_43_71{R:Type}:List CV->List Blk->(CV->List Blk->Option R)->Option R:=evFnL sm_43 FU (ovr ov_43_71 (evFn sm_43 fns FU 3)) (mkT (fB fns 71) []) (fO fns 71)
theorem g_43_71_ok{R:Type}(args:List CV)(hp:List Blk)(k:CV->List Blk->Option R)(r:R)(h:g_43_71 args hp k=some r):evFn sm_43 fns FU 4 71 args hp k=some r:=runG ov_43_71_ok (os:=[]) trivial h
noncomputable def ov_43_43{R:Type}:Nat->Option (List CV->List Blk->(CV->List Blk->Option R)->Option R):=fun f'=>bif Nat.beq f' 71 then some g_43_71 else none
theorem ov_43_43_ok{R:Type}:OvrOK (R:=R) ov_43_43 (evFn sm_43 fns FU 4):=by
 intro f' g h args hp k r hg
 dsimp only[ov_43_43]at h
 by_cases h71:f'=71
 ·subst h71
  injection h with h
  subst h
  exact evFn_le 0 (g_43_71_ok _ _ _ _ hg)
 rw[nbeq_ne h71,cond_false]at h
 cases h
noncomputable def F_43(a0:((List Int)×((List Int)×(Int×Unit)))):Option (Bool×Unit) :=
 bif decide ((↑(length (a0.2.1)):Int)<1)then some (false,PUnit.unit)else bif decide ((↑(length (a0.2.1)):Int)>64)then some (false,PUnit.unit)else bif(↑(length (a0.1)):Int)!=wrap i64 ((↑(length (a0.2.1)):Int)*64)then some (false,PUnit.unit)else bif decide (a0.2.2.1<1)then some (false,PUnit.unit)else bif decide (a0.2.2.1>1000000)then some (false,PUnit.unit)else B_43_92_0_0 (L_43_92_0_0 4611686018427387904 (a0.2.1) (↑(length (a0.2.1)):Int) 0 a0) (fun y23 y24=>some (!decide (y23>=0),PUnit.unit)) fun y25=>some (true,PUnit.unit)
noncomputable def Sp.p_43(a0:((List Int)×((List Int)×(Int×Unit)))):Bool:=(F_43 a0).isSome
noncomputable def Sp.v_43(a0:((List Int)×((List Int)×(Int×Unit)))):Bool×Unit:=(F_43 a0).getD (dfH R_43)
noncomputable def s_43:Summ:=shJN A_43 R_43 (fun x=>p_43 x.1) (fun x=>v_43 x.1)
theorem pv_43(a0:((List Int)×((List Int)×(Int×Unit)))){y:Bool×Unit}(h:F_43 a0=some y):p_43 a0=true/\v_43 a0=y:=pvG h
theorem run_43(x:HDen A_43)(y:HDen R_43)(h:F_43 x.1=some y):rnF sm_43 5 43 A_43 R_43 x y:=runG ov_43_43_ok (os:=[]) trivial (Eq.trans (by kernel_rfl) h)
end
noncomputable section
abbrev A_45:List Ty:=[(.pair (.pair (.slice (.int .u32)) (.pair (.slice (.int .i64)) (.pair (.int .i64) .unit))) (.pair (.int .i64) (.pair (.int .i64) .unit)))]
abbrev R_45:List Ty:=[.bool]
noncomputable def sm_45:Nat->Option Summ:=smL []
noncomputable def F_45(a0:(((List Int)×((List Int)×(Int×Unit)))×(Int×(Int×Unit)))):Option (Bool×Unit) :=
 bif decide (a0.2.2.1>=2)then bif decide (a0.2.2.1<=16)then bif Int.tmod (a0.2.2.1) (2:Int)==(0:Int)then bif decide (a0.2.1>=0)then some (decide (a0.2.1<=wrap i64 ((↑(length (a0.1.2.1)):Int)-a0.2.2.1)),PUnit.unit)else some (false,PUnit.unit)else some (false,PUnit.unit)else some (false,PUnit.unit)else some (false,PUnit.unit)
noncomputable def Sp.p_45(a0:(((List Int)×((List Int)×(Int×Unit)))×(Int×(Int×Unit)))):Bool:=(F_45 a0).isSome
noncomputable def Sp.v_45(a0:(((List Int)×((List Int)×(Int×Unit)))×(Int×(Int×Unit)))):Bool×Unit:=(F_45 a0).getD (dfH R_45)
noncomputable def s_45:Summ:=shJN A_45 R_45 (fun x=>p_45 x.1) (fun x=>v_45 x.1)
theorem pv_45(a0:(((List Int)×((List Int)×(Int×Unit)))×(Int×(Int×Unit)))){y:Bool×Unit}(h:F_45 a0=some y):p_45 a0=true/\v_45 a0=y:=pvG h
theorem run_45(x:HDen A_45)(y:HDen R_45)(h:F_45 x.1=some y):rnF sm_45 1 45 A_45 R_45 x y:=runG noO_ok (os:=[]) trivial (Eq.trans (by kernel_rfl) h)
end
noncomputable section
abbrev A_49:List Ty:=[(.pair (.pair (.slice (.int .u32)) (.pair (.slice (.int .i64)) (.pair (.int .i64) .unit))) (.pair (.int .i64) (.pair (.int .i64) .unit))),(.int .i64),(.int .i64)]
abbrev R_49:List Ty:=[(.int .i64)]
noncomputable def sm_49:Nat->Option Summ:=smL []
noncomputable def F_49(a0:(((List Int)×((List Int)×(Int×Unit)))×(Int×(Int×Unit))))(a1 a2:Int):Option (Int×Unit) :=
 some (wrap i64 (wrap i64 (64*wrap i64 (a0.2.1+wrap i64 (Int.tdiv (wrap i64 (a1*a0.2.2.1)) 2)))+a2),PUnit.unit)
noncomputable def Sp.p_49(a0:(((List Int)×((List Int)×(Int×Unit)))×(Int×(Int×Unit))))(a1 a2:Int):Bool:=(F_49 a0 a1 a2).isSome
noncomputable def Sp.v_49(a0:(((List Int)×((List Int)×(Int×Unit)))×(Int×(Int×Unit))))(a1 a2:Int):Int×Unit:=(F_49 a0 a1 a2).getD (dfH R_49)
noncomputable def s_49:Summ:=shJN A_49 R_49 (fun x=>p_49 x.1 x.2.1 x.2.2.1) (fun x=>v_49 x.1 x.2.1 x.2.2.1)
theorem pv_49(a0:(((List Int)×((List Int)×(Int×Unit)))×(Int×(Int×Unit))))(a1 a2:Int){y:Int×Unit}(h:F_49 a0 a1 a2=some y):p_49 a0 a1 a2=true/\v_49 a0 a1 a2=y:=pvG h
theorem run_49(x:HDen A_49)(y:HDen R_49)(h:F_49 x.1 x.2.1 x.2.2.1=some y):rnF sm_49 1 49 A_49 R_49 x y:=runG noO_ok (os:=[]) trivial (Eq.trans (by kernel_rfl) h)
end
noncomputable section
abbrev A_83:List Ty:=[(.pair (.pair (.slice (.int .u32)) (.pair (.slice (.int .i64)) (.pair (.int .i64) .unit))) (.pair (.int .i64) (.pair (.int .i64) .unit)))]
abbrev R_83:List Ty:=[(.int .i64)]
noncomputable def sm_83:Nat->Option Summ:=smL []
noncomputable def F_83(a0:(((List Int)×((List Int)×(Int×Unit)))×(Int×(Int×Unit)))):Option (Int×Unit) :=
 some (wrap i64 (Int.tdiv (wrap i64 (64*a0.2.2.1)) 2),PUnit.unit)
noncomputable def Sp.p_83(a0:(((List Int)×((List Int)×(Int×Unit)))×(Int×(Int×Unit)))):Bool:=(F_83 a0).isSome
noncomputable def Sp.v_83(a0:(((List Int)×((List Int)×(Int×Unit)))×(Int×(Int×Unit)))):Int×Unit:=(F_83 a0).getD (dfH R_83)
noncomputable def s_83:Summ:=shJN A_83 R_83 (fun x=>p_83 x.1) (fun x=>v_83 x.1)
theorem pv_83(a0:(((List Int)×((List Int)×(Int×Unit)))×(Int×(Int×Unit)))){y:Int×Unit}(h:F_83 a0=some y):p_83 a0=true/\v_83 a0=y:=pvG h
theorem run_83(x:HDen A_83)(y:HDen R_83)(h:F_83 x.1=some y):rnF sm_83 1 83 A_83 R_83 x y:=runG noO_ok (os:=[]) trivial (Eq.trans (by kernel_rfl) h)
end
noncomputable section
abbrev A_50:List Ty:=[(.int .i64)]
abbrev R_50:List Ty:=[(.int .u32)]
noncomputable def sm_50:Nat->Option Summ:=smL []
noncomputable def F_50(a0:Int):Option (Int×Unit) :=
 some (Sp.orI u32 (wrap u32 (wrap u32 a0*65536)) (wrap u32 (Sp.andI i64 (Sp.xorI i64 (-1:Int) a0) 65535)),PUnit.unit)
noncomputable def Sp.p_50(a0:Int):Bool:=(F_50 a0).isSome
noncomputable def Sp.v_50(a0:Int):Int×Unit:=(F_50 a0).getD (dfH R_50)
noncomputable def s_50:Summ:=shJN A_50 R_50 (fun x=>p_50 x.1) (fun x=>v_50 x.1)
theorem pv_50(a0:Int){y:Int×Unit}(h:F_50 a0=some y):p_50 a0=true/\v_50 a0=y:=pvG h
theorem run_50(x:HDen A_50)(y:HDen R_50)(h:F_50 x.1=some y):rnF sm_50 1 50 A_50 R_50 x y:=runG noO_ok (os:=[]) trivial (Eq.trans (by kernel_rfl) h)
end
noncomputable section
abbrev A_100:List Ty:=[(.int .u32)]
abbrev R_100:List Ty:=[(.int .i64),.bool]
noncomputable def sm_100:Nat->Option Summ:=smL [(50,s_50)]
noncomputable def F_100(a0:Int):Option (Int×Bool×Unit) :=
 gd (p_50 (wrap i64 (Int.fdiv a0 65536))) (some (wrap i64 (Int.fdiv a0 65536),(v_50 (wrap i64 (Int.fdiv a0 65536))).1==a0,PUnit.unit))
noncomputable def Sp.p_100(a0:Int):Bool:=(F_100 a0).isSome
noncomputable def Sp.v_100(a0:Int):Int×Bool×Unit:=(F_100 a0).getD (dfH R_100)
noncomputable def s_100:Summ:=shJN A_100 R_100 (fun x=>p_100 x.1) (fun x=>v_100 x.1)
theorem pv_100(a0:Int){y:Int×Bool×Unit}(h:F_100 a0=some y):p_100 a0=true/\v_100 a0=y:=pvG h
theorem run_100(x:HDen A_100)(y:HDen R_100)(h:F_100 x.1=some y):rnF sm_100 1 100 A_100 R_100 x y:=runG noO_ok (os:=[]) trivial (Eq.trans (by kernel_rfl) h)
end
noncomputable section
abbrev A_77:List Ty:=[(.pair (.pair (.slice (.int .u32)) (.pair (.slice (.int .i64)) (.pair (.int .i64) .unit))) (.pair (.int .i64) (.pair (.int .i64) .unit))),(.int .i64)]
abbrev R_77:List Ty:=[(.int .i64)]
noncomputable def sm_77:Nat->Option Summ:=smL [(49,s_49),(83,s_83),(100,s_100)]
noncomputable def F_77(a0:(((List Int)×((List Int)×(Int×Unit)))×(Int×(Int×Unit))))(a1:Int):Option (Int×Unit) :=
 gd (p_49 a0 a1 0) (gd (p_83 a0) (gd (p_49 a0 a1 ((v_83 a0).1)) (gd (sl3 ((v_49 a0 a1 0).1) ((v_49 a0 a1 ((v_83 a0).1)).1) (↑(length (a0.1.1)):Int)) (gd (inB 0 (length (take (toNat ((v_49 a0 a1 ((v_83 a0).1)).1)-toNat ((v_49 a0 a1 0).1)) (drop (toNat ((v_49 a0 a1 0).1)) (a0.1.1))))) (gd (p_100 (getD (take (toNat ((v_49 a0 a1 ((v_83 a0).1)).1)-toNat ((v_49 a0 a1 0).1)) (drop (toNat ((v_49 a0 a1 0).1)) (a0.1.1))) 0 0)) (bif !(v_100 (getD (take (toNat ((v_49 a0 a1 ((v_83 a0).1)).1)-toNat ((v_49 a0 a1 0).1)) (drop (toNat ((v_49 a0 a1 0).1)) (a0.1.1))) 0 0)).2.1 then some (0,PUnit.unit)else some ((v_100 (getD (take (toNat ((v_49 a0 a1 ((v_83 a0).1)).1)-toNat ((v_49 a0 a1 0).1)) (drop (toNat ((v_49 a0 a1 0).1)) (a0.1.1))) 0 0)).1,PUnit.unit)))))))
noncomputable def Sp.p_77(a0:(((List Int)×((List Int)×(Int×Unit)))×(Int×(Int×Unit))))(a1:Int):Bool:=(F_77 a0 a1).isSome
noncomputable def Sp.v_77(a0:(((List Int)×((List Int)×(Int×Unit)))×(Int×(Int×Unit))))(a1:Int):Int×Unit:=(F_77 a0 a1).getD (dfH R_77)
noncomputable def s_77:Summ:=shJN A_77 R_77 (fun x=>p_77 x.1 x.2.1) (fun x=>v_77 x.1 x.2.1)
theorem pv_77(a0:(((List Int)×((List Int)×(Int×Unit)))×(Int×(Int×Unit))))(a1:Int){y:Int×Unit}(h:F_77 a0 a1=some y):p_77 a0 a1=true/\v_77 a0 a1=y:=pvG h
theorem run_77(x:HDen A_77)(y:HDen R_77)(h:F_77 x.1 x.2.1=some y):rnF sm_77 2 77 A_77 R_77 x y:=runG noO_ok (os:=[]) trivial (Eq.trans (by kernel_rfl) h)
end
noncomputable section
abbrev A_57:List Ty:=[(.pair (.pair (.slice (.int .u32)) (.pair (.slice (.int .i64)) (.pair (.int .i64) .unit))) (.pair (.int .i64) (.pair (.int .i64) .unit)))]
abbrev R_57:List Ty:=[(.int .i64),.bool]
noncomputable def sm_57:Nat->Option Summ:=smL [(77,s_77)]
noncomputable def F_57(a0:(((List Int)×((List Int)×(Int×Unit)))×(Int×(Int×Unit)))):Option (Int×Bool×Unit) :=
 gd (p_77 a0 0) (gd (p_77 a0 1) (bif decide ((v_77 a0 1).1>(v_77 a0 0).1)then some (1,true,PUnit.unit)else some (0,decide ((v_77 a0 0).1>0),PUnit.unit)))
noncomputable def Sp.p_57(a0:(((List Int)×((List Int)×(Int×Unit)))×(Int×(Int×Unit)))):Bool:=(F_57 a0).isSome
noncomputable def Sp.v_57(a0:(((List Int)×((List Int)×(Int×Unit)))×(Int×(Int×Unit)))):Int×Bool×Unit:=(F_57 a0).getD (dfH R_57)
noncomputable def s_57:Summ:=shJN A_57 R_57 (fun x=>p_57 x.1) (fun x=>v_57 x.1)
theorem pv_57(a0:(((List Int)×((List Int)×(Int×Unit)))×(Int×(Int×Unit)))){y:Int×Bool×Unit}(h:F_57 a0=some y):p_57 a0=true/\v_57 a0=y:=pvG h
theorem run_57(x:HDen A_57)(y:HDen R_57)(h:F_57 x.1=some y):rnF sm_57 1 57 A_57 R_57 x y:=runG noO_ok (os:=[]) trivial (Eq.trans (by kernel_rfl) h)
end
noncomputable section
abbrev A_26:List Ty:=[(.pair (.pair (.slice (.int .u32)) (.pair (.slice (.int .i64)) (.pair (.int .i64) .unit))) (.pair (.int .i64) (.pair (.int .i64) .unit)))]
abbrev R_26:List Ty:=[.bool]
noncomputable def sm_26:Nat->Option Summ:=smL [(43,s_43),(45,s_45),(57,s_57)]
noncomputable def F_26(a0:(((List Int)×((List Int)×(Int×Unit)))×(Int×(Int×Unit)))):Option (Bool×Unit) :=
 gd (p_43 (a0.1)) (bif !(v_43 (a0.1)).1 then some (false,PUnit.unit)else gd (p_45 a0) (bif !(v_45 a0).1 then some (false,PUnit.unit)else gd (p_57 a0) (some ((v_57 a0).2.1,PUnit.unit))))
noncomputable def Sp.p_26(a0:(((List Int)×((List Int)×(Int×Unit)))×(Int×(Int×Unit)))):Bool:=(F_26 a0).isSome
noncomputable def Sp.v_26(a0:(((List Int)×((List Int)×(Int×Unit)))×(Int×(Int×Unit)))):Bool×Unit:=(F_26 a0).getD (dfH R_26)
noncomputable def s_26:Summ:=shJN A_26 R_26 (fun x=>p_26 x.1) (fun x=>v_26 x.1)
theorem pv_26(a0:(((List Int)×((List Int)×(Int×Unit)))×(Int×(Int×Unit)))){y:Bool×Unit}(h:F_26 a0=some y):p_26 a0=true/\v_26 a0=y:=pvG h
theorem run_26(x:HDen A_26)(y:HDen R_26)(h:F_26 x.1=some y):rnF sm_26 1 26 A_26 R_26 x y:=runG noO_ok (os:=[]) trivial (Eq.trans (by kernel_rfl) h)
end
noncomputable section
abbrev A_44:List Ty:=[(.pair (.int .i64) (.pair (.int .u32) .unit))]
abbrev R_44:List Ty:=[.bool]
noncomputable def sm_44:Nat->Option Summ:=smL []
noncomputable def F_44(a0:(Int×(Int×Unit))):Option (Bool×Unit) :=
 bif decide (a0.1>=0)then some (decide (a0.1<=1099511627776),PUnit.unit)else some (false,PUnit.unit)
noncomputable def Sp.p_44(a0:(Int×(Int×Unit))):Bool:=(F_44 a0).isSome
noncomputable def Sp.v_44(a0:(Int×(Int×Unit))):Bool×Unit:=(F_44 a0).getD (dfH R_44)
noncomputable def s_44:Summ:=shJN A_44 R_44 (fun x=>p_44 x.1) (fun x=>v_44 x.1)
theorem pv_44(a0:(Int×(Int×Unit))){y:Bool×Unit}(h:F_44 a0=some y):p_44 a0=true/\v_44 a0=y:=pvG h
theorem run_44(x:HDen A_44)(y:HDen R_44)(h:F_44 x.1=some y):rnF sm_44 1 44 A_44 R_44 x y:=runG noO_ok (os:=[]) trivial (Eq.trans (by kernel_rfl) h)
end
noncomputable section
abbrev A_69:List Ty:=[(.pair (.slice (.int .u32)) (.pair (.slice (.int .i64)) (.pair (.int .i64) .unit)))]
abbrev R_69:List Ty:=[(.pair (.slice (.int .u32)) (.pair (.slice (.int .i64)) (.pair (.int .i64) .unit)))]
noncomputable def sm_69:Nat->Option Summ:=smL [(31,s_31),(90,s_90)]
noncomputable def F_69(a0:((List Int)×((List Int)×(Int×Unit)))):Option (((List Int)×((List Int)×(Int×Unit)))×Unit) :=
 gd (room (length (a0.1)) 4) (gd (room (length (a0.2.1)) 8) (some ((a0.1,a0.2.1,a0.2.2.1,PUnit.unit),PUnit.unit)))
noncomputable def Sp.p_69(a0:((List Int)×((List Int)×(Int×Unit)))):Bool:=(F_69 a0).isSome
noncomputable def Sp.v_69(a0:((List Int)×((List Int)×(Int×Unit)))):((List Int)×((List Int)×(Int×Unit)))×Unit:=(F_69 a0).getD (dfH R_69)
noncomputable def s_69:Summ:=ownS A_69 26 [] (.pair (.slice (.int .u32)) (.pair (.slice (.int .i64)) (.pair (.int .i64) .unit))) [] (fun x=>p_69 x.1) (fun x=>v_69 x.1)
theorem pv_69(a0:((List Int)×((List Int)×(Int×Unit)))){y:((List Int)×((List Int)×(Int×Unit)))×Unit}(h:F_69 a0=some y):p_69 a0=true/\v_69 a0=y:=pvG h
theorem run_69(x:HDen A_69)(y:HDen R_69)(h:F_69 x.1=some y):evFn sm_69 fns FU 1 69 (ofH A_69 x) [] (ownK 26 [] (.pair (.slice (.int .u32)) (.pair (.slice (.int .i64)) (.pair (.int .i64) .unit))) [])=some y:=runG noO_ok (os:=[]) trivial (Eq.trans (by kernel_rfl) h)
end
noncomputable section
abbrev A_93:List Ty:=[(.pair (.slice (.int .u32)) (.pair (.slice (.int .i64)) (.pair (.int .i64) .unit))),(.pair (.int .i64) (.pair (.int .u32) .unit)),(.int .i64),(.int .i64)]
abbrev R_93:List Ty:=[(.int .i64)]
noncomputable def sm_93:Nat->Option Summ:=smL [(43,s_43)]
noncomputable def F_93(a0:((List Int)×((List Int)×(Int×Unit))))(a1:(Int×(Int×Unit)))(a2 a3:Int):Option (Int×Unit) :=
 gd (p_43 a0) (bif !(v_43 a0).1 then some (1,PUnit.unit)else bif decide (a1.1<0)then some (1,PUnit.unit)else bif decide (a1.1>1099511627776)then some (1,PUnit.unit)else bif decide (a2<0)then some (2,PUnit.unit)else bif decide (a2>=a3)then some (2,PUnit.unit)else some (0,PUnit.unit))
noncomputable def Sp.p_93(a0:((List Int)×((List Int)×(Int×Unit))))(a1:(Int×(Int×Unit)))(a2 a3:Int):Bool:=(F_93 a0 a1 a2 a3).isSome
noncomputable def Sp.v_93(a0:((List Int)×((List Int)×(Int×Unit))))(a1:(Int×(Int×Unit)))(a2 a3:Int):Int×Unit:=(F_93 a0 a1 a2 a3).getD (dfH R_93)
noncomputable def s_93:Summ:=shJN A_93 R_93 (fun x=>p_93 x.1 x.2.1 x.2.2.1 x.2.2.2.1) (fun x=>v_93 x.1 x.2.1 x.2.2.1 x.2.2.2.1)
theorem pv_93(a0:((List Int)×((List Int)×(Int×Unit))))(a1:(Int×(Int×Unit)))(a2 a3:Int){y:Int×Unit}(h:F_93 a0 a1 a2 a3=some y):p_93 a0 a1 a2 a3=true/\v_93 a0 a1 a2 a3=y:=pvG h
theorem run_93(x:HDen A_93)(y:HDen R_93)(h:F_93 x.1 x.2.1 x.2.2.1 x.2.2.2.1=some y):rnF sm_93 1 93 A_93 R_93 x y:=runG noO_ok (os:=[]) trivial (Eq.trans (by kernel_rfl) h)
end
noncomputable section
abbrev Zy73_0:Ty:=(.pair (.slice (.int .u32)) (.pair (.slice (.int .i64)) (.pair (.int .i64) .unit)))
abbrev Zy73_1:Ty:=(.pair (.int .i64) (.pair (.int .u32) .unit))
abbrev Zt73_2:Type:=List Int×List Int×Int×Unit
abbrev Zt73_3:Type:=Int×Int×Unit
abbrev A_73:List Ty:=[(.pair (.slice (.int .u32)) (.pair (.slice (.int .i64)) (.pair (.int .i64) .unit))),(.int .i64),(.pair (.int .i64) (.pair (.int .u32) .unit))]
abbrev R_73:List Ty:=[(.pair (.slice (.int .u32)) (.pair (.slice (.int .i64)) (.pair (.int .i64) .unit))),(.pair (.int .i64) (.pair (.int .u32) .unit)),(.int .i64)]
noncomputable def sm_73:Nat->Option Summ:=smL [(31,s_31),(90,s_90),(93,s_93)]
noncomputable def T_73_95_0_0:PS:=⟨30,[(1,.hv (.int .u32)),(2,.kc (.ptr 1 [])),(3,.kc (.ptr 12 [])),(5,.sb 9 [] 1 none none none),(11,.hv (.int .i64)),(12,.hv (.int .i64))],[.mem (.hv Zy73_0),.mem (.hv (.int .i64)),.mem (.hv Zy73_1),.mem (.pr (.kc (.nil 26 (.int .u32))) (.pr (.kc (.nil 3 (.int .i64))) (.hv (.pair (.int .i64) .unit)))),.mem (.hv Zy73_1),.mem (.hv Zy73_0),.mem (.hv Zy73_1),.mem (.pr (.kc (.nil 26 (.int .u32))) (.pr (.kc (.nil 3 (.int .i64))) (.hv (.pair (.int .i64) .unit)))),.mem (.hv Zy73_1),.vec 26 (.int .u32),.vec 3 (.int .i64),.mem (.pr (.kc (.whole 9)) (.pr (.kc (.whole 10)) (.hv (.pair (.int .i64) .unit)))),.mem (.pr (.kc (.whole 9)) (.pr (.kc (.whole 10)) (.hv (.pair (.int .i64) .unit))))],12⟩
inductive Sp.E_73_95_0_0 where
 |e0 (p5:Zt73_2) (p6:Int) (p7:Zt73_3) (p8:Int×Unit) (p9:Zt73_3) (p10:Zt73_2) (p11:Zt73_3) (p12:Int×Unit) (p13:Zt73_3) (p14 p15:List Int) (p16 p17:Int×Unit)
noncomputable def Sp.B_73_95_0_0{R:Type}(r:Option E_73_95_0_0)(k0:Zt73_2->Int->Zt73_3->(Int×Unit)->Zt73_3->Zt73_2->Zt73_3->(Int×Unit)->Zt73_3->List Int->List Int->(Int×Unit)->(Int×Unit)->Option R):Option R:=match r with
 |none=>none
 |some (.e0 p5 p6 p7 p8 p9 p10 p11 p12 p13 p14 p15 p16 p17)=>k0 p5 p6 p7 p8 p9 p10 p11 p12 p13 p14 p15 p16 p17
noncomputable def Y_73_95_0_0{R:Type}(k:Ex->St->Option R):E_73_95_0_0->Option R
 | .e0 p5 p6 p7 p8 p9 p10 p11 p12 p13 p14 p15 p16 p17=>k (Ex.exit 0) (sx 30 [(2,CV.ptr 1 []),(3,CV.ptr 12 [])] [Blk.mem (CV.pure (Ty.pair (Ty.slice (Ty.int u32)) (Ty.pair (Ty.slice (Ty.int i64)) (Ty.pair (Ty.int i64) Ty.unit))) p5),Blk.mem (CV.int i64 p6),Blk.mem (CV.pure (Ty.pair (Ty.int i64) (Ty.pair (Ty.int u32) Ty.unit)) p7),Blk.mem (CV.pair (CV.nil 26 (Ty.int u32)) (CV.pair (CV.nil 3 (Ty.int i64)) (CV.pure (Ty.pair (Ty.int i64) Ty.unit) p8))),Blk.mem (CV.pure (Ty.pair (Ty.int i64) (Ty.pair (Ty.int u32) Ty.unit)) p9),Blk.mem (CV.pure (Ty.pair (Ty.slice (Ty.int u32)) (Ty.pair (Ty.slice (Ty.int i64)) (Ty.pair (Ty.int i64) Ty.unit))) p10),Blk.mem (CV.pure (Ty.pair (Ty.int i64) (Ty.pair (Ty.int u32) Ty.unit)) p11),Blk.mem (CV.pair (CV.nil 26 (Ty.int u32)) (CV.pair (CV.nil 3 (Ty.int i64)) (CV.pure (Ty.pair (Ty.int i64) Ty.unit) p12))),Blk.mem (CV.pure (Ty.pair (Ty.int i64) (Ty.pair (Ty.int u32) Ty.unit)) p13),Blk.vec 26 (Ty.int u32) p14,Blk.vec 3 (Ty.int i64) p15,Blk.mem (CV.pair (CV.whole 9) (CV.pair (CV.whole 10) (CV.pure (Ty.pair (Ty.int i64) Ty.unit) p16))),Blk.mem (CV.pair (CV.whole 9) (CV.pair (CV.whole 10) (CV.pure (Ty.pair (Ty.int i64) Ty.unit) p17)))] 12)
noncomputable def Sp.S_73_95_0_0{R:Type}(K:Int->Nat->Nat->Int->Int->(List Int×List Int×Int×Unit)->Int->(Int×Int×Unit)->(Int×Unit)->(Int×Int×Unit)->(List Int×List Int×Int×Unit)->(Int×Int×Unit)->(Int×Unit)->(Int×Int×Unit)->List Int->List Int->(Int×Unit)->(Int×Unit)->Option R)(k:E_73_95_0_0->Option R)(p0:Int)(p1 p2:Nat)(p3 p4:Int)(p5:List Int×List Int×Int×Unit)(p6:Int)(p7:Int×Int×Unit)(p8:Int×Unit)(p9:Int×Int×Unit)(p10:List Int×List Int×Int×Unit)(p11:Int×Int×Unit)(p12:Int×Unit)(p13:Int×Int×Unit)(p14 p15:List Int)(p16 p17:Int×Unit):Option R:=
 bif decide (p4<p3)then gd (inB p4 p2) (gd (decide (p1+toNat p4<length p14)&&true) (gd (inB p4 p2) (gd (decide (p1+toNat p4<length p14)&&true&&true) (K p0 p1 p2 p3 (wrap i64 (p4+1)) p5 p6 p7 p8 p9 p10 p11 p12 p13 (List.set p14 (p1+toNat p4) (Sp.orI u32 (getD p14 (p1+toNat p4) 0) p0)) p15 p16 p17))))else k (E_73_95_0_0.e0 p5 p6 p7 p8 p9 p10 p11 p12 p13 p14 p15 p16 p17)
noncomputable def Sp.L_73_95_0_0:Nat->Int->Nat->Nat->Int->Int->(List Int×List Int×Int×Unit)->Int->(Int×Int×Unit)->(Int×Unit)->(Int×Int×Unit)->(List Int×List Int×Int×Unit)->(Int×Int×Unit)->(Int×Unit)->(Int×Int×Unit)->List Int->List Int->(Int×Unit)->(Int×Unit)->Option E_73_95_0_0
 |0,_,_,_,_,_,_,_,_,_,_,_,_,_,_,_,_,_,_=>none
 |m+1,p0,p1,p2,p3,p4,p5,p6,p7,p8,p9,p10,p11,p12,p13,p14,p15,p16,p17=>S_73_95_0_0 (L_73_95_0_0 m) some p0 p1 p2 p3 p4 p5 p6 p7 p8 p9 p10 p11 p12 p13 p14 p15 p16 p17
noncomputable def l_73_95_0_0(m:Nat)(a:T_73_95_0_0.E):Option E_73_95_0_0:=L_73_95_0_0 m a.1 a.2.1 a.2.2.1 a.2.2.2.1 a.2.2.2.2.1 a.2.2.2.2.2.1 a.2.2.2.2.2.2.1 a.2.2.2.2.2.2.2.1 a.2.2.2.2.2.2.2.2.1 a.2.2.2.2.2.2.2.2.2.1 a.2.2.2.2.2.2.2.2.2.2.1 a.2.2.2.2.2.2.2.2.2.2.2.1 a.2.2.2.2.2.2.2.2.2.2.2.2.1 a.2.2.2.2.2.2.2.2.2.2.2.2.2.1 a.2.2.2.2.2.2.2.2.2.2.2.2.2.2.1 a.2.2.2.2.2.2.2.2.2.2.2.2.2.2.2.1 a.2.2.2.2.2.2.2.2.2.2.2.2.2.2.2.2.1 a.2.2.2.2.2.2.2.2.2.2.2.2.2.2.2.2.2.1
noncomputable def O_73_95_0_0{R:Type}:Orc R:=orL T_73_95_0_0 (l_73_95_0_0 FU) Y_73_95_0_0
theorem OK_73_95_0_0{R:Type}:okF (R:=R) sm_73 1 (nf 95 0) O_73_95_0_0:=lp0 T_73_95_0_0 l_73_95_0_0 (fun R K k a=>S_73_95_0_0 (fun p0 p1 p2 p3 p4 p5 p6 p7 p8 p9 p10 p11 p12 p13 p14 p15 p16 p17=>K (p0,p1,p2,p3,p4,p5,p6,p7,p8,p9,p10,p11,p12,p13,p14,p15,p16,p17,())) k a.1 a.2.1 a.2.2.1 a.2.2.2.1 a.2.2.2.2.1 a.2.2.2.2.2.1 a.2.2.2.2.2.2.1 a.2.2.2.2.2.2.2.1 a.2.2.2.2.2.2.2.2.1 a.2.2.2.2.2.2.2.2.2.1 a.2.2.2.2.2.2.2.2.2.2.1 a.2.2.2.2.2.2.2.2.2.2.2.1 a.2.2.2.2.2.2.2.2.2.2.2.2.1 a.2.2.2.2.2.2.2.2.2.2.2.2.2.1 a.2.2.2.2.2.2.2.2.2.2.2.2.2.2.1 a.2.2.2.2.2.2.2.2.2.2.2.2.2.2.2.1 a.2.2.2.2.2.2.2.2.2.2.2.2.2.2.2.2.1 a.2.2.2.2.2.2.2.2.2.2.2.2.2.2.2.2.2.1) Y_73_95_0_0 (fun _ _ _=>by kernel_rfl) (fun _ _ _=>by
 unfold S_73_95_0_0
 repeat' first|apply gdN|apply condN|rfl) (ok0 _)
noncomputable def g_73_95{R:Type}:List CV->List Blk->(CV->List Blk->Option R)->Option R:=evFnL sm_73 FU (ovr noO (evFn sm_73 fns FU 1)) (mkT (fB fns 95) [O_73_95_0_0]) (fO fns 95)
theorem g_73_95_ok{R:Type}(args:List CV)(hp:List Blk)(k:CV->List Blk->Option R)(r:R)(h:g_73_95 args hp k=some r):evFn sm_73 fns FU 2 95 args hp k=some r:=runG noO_ok (os:=[O_73_95_0_0]) ⟨OK_73_95_0_0,trivial⟩ h
noncomputable def ov_73_94{R:Type}:Nat->Option (List CV->List Blk->(CV->List Blk->Option R)->Option R):=fun f'=>bif Nat.beq f' 95 then some g_73_95 else none
theorem ov_73_94_ok{R:Type}:OvrOK (R:=R) ov_73_94 (evFn sm_73 fns FU 2):=by
 intro f' g h args hp k r hg
 dsimp only[ov_73_94]at h
 by_cases h95:f'=95
 ·subst h95
  injection h with h
  subst h
  exact evFn_le 0 (g_73_95_ok _ _ _ _ hg)
 rw[nbeq_ne h95,cond_false]at h
 cases h
noncomputable def g_73_94{R:Type}:List CV->List Blk->(CV->List Blk->Option R)->Option R:=evFnL sm_73 FU (ovr ov_73_94 (evFn sm_73 fns FU 2)) (mkT (fB fns 94) []) (fO fns 94)
theorem g_73_94_ok{R:Type}(args:List CV)(hp:List Blk)(k:CV->List Blk->Option R)(r:R)(h:g_73_94 args hp k=some r):evFn sm_73 fns FU 3 94 args hp k=some r:=runG ov_73_94_ok (os:=[]) trivial h
noncomputable def ov_73_73{R:Type}:Nat->Option (List CV->List Blk->(CV->List Blk->Option R)->Option R):=fun f'=>bif Nat.beq f' 94 then some g_73_94 else bif Nat.beq f' 95 then some g_73_95 else none
theorem ov_73_73_ok{R:Type}:OvrOK (R:=R) ov_73_73 (evFn sm_73 fns FU 3):=by
 intro f' g h args hp k r hg
 dsimp only[ov_73_73]at h
 by_cases h94:f'=94
 ·subst h94
  injection h with h
  subst h
  exact evFn_le 0 (g_73_94_ok _ _ _ _ hg)
 rw[nbeq_ne h94,cond_false]at h
 by_cases h95:f'=95
 ·subst h95
  injection h with h
  subst h
  exact evFn_le 1 (g_73_95_ok _ _ _ _ hg)
 rw[nbeq_ne h95,cond_false]at h
 cases h
noncomputable def F_73(a0:((List Int)×((List Int)×(Int×Unit))))(a1:Int)(a2:(Int×(Int×Unit))):Option (((List Int)×((List Int)×(Int×Unit)))×(Int×(Int×Unit))×Int×Unit) :=
 gd (p_93 a0 a2 a1 (↑(length (a0.2.1)):Int)) (bif(v_93 a0 a2 a1 (↑(length (a0.2.1)):Int)).1 !=0 then some (([],[],0,PUnit.unit),(0,0,PUnit.unit),(v_93 a0 a2 a1 (↑(length (a0.2.1)):Int)).1,PUnit.unit)else gd (inB a1 (length (a0.2.1))) (bif getD (a0.2.1) (toNat a1) 0==a0.2.2.1 then some (([],[],0,PUnit.unit),(0,0,PUnit.unit),19,PUnit.unit)else gd (room (length (a0.1)) 4) (gd (room (length (a0.2.1)) 8) (bif a2.1==0 then some ((a0.1,a0.2.1,a0.2.2.1,PUnit.unit),a2,18,PUnit.unit)else bif a2.1==1 then gd (sl3 (wrap i64 (a1*64)) (wrap i64 (wrap i64 (a1+1)*64)) (↑(length (a0.1)):Int)) (B_73_95_0_0 (L_73_95_0_0 4611686018427387904 (a2.2.1) (toNat (wrap i64 (a1*64))) (toNat (wrap i64 (wrap i64 (a1+1)*64))-toNat (wrap i64 (a1*64))) (↑(toNat (wrap i64 (wrap i64 (a1+1)*64))-toNat (wrap i64 (a1*64))):Int) 0 a0 a1 a2 (0,PUnit.unit) (0,0,PUnit.unit) a0 (0,a2.2) (0,PUnit.unit) (0,0,PUnit.unit) (a0.1) (a0.2.1) (a0.2.2.1,PUnit.unit) (a0.2.2.1,PUnit.unit)) fun y26 y27 y28 y29 y30 y31 y32 y33 y34 y35 y36 y37 y38=>gd (inB y27 (length y36)) (gd (decide (toNat y27<length y36)&&true) (gd (inB y27 (length y36)) (gd (decide (toNat y27<length y36)&&true&&true) (some ((y35,List.set y36 (toNat y27) (wrap i64 (getD y36 (toNat y27) (0:Int)+(1:Int))),y37),y32,18,PUnit.unit))))))else gd (sl3 (wrap i64 (a1*64)) (wrap i64 (wrap i64 (a1+1)*64)) (↑(length (a0.1)):Int)) (B_73_95_0_0 (L_73_95_0_0 4611686018427387904 4294967295 (toNat (wrap i64 (a1*64))) (toNat (wrap i64 (wrap i64 (a1+1)*64))-toNat (wrap i64 (a1*64))) (↑(toNat (wrap i64 (wrap i64 (a1+1)*64))-toNat (wrap i64 (a1*64))):Int) 0 a0 a1 a2 (0,PUnit.unit) (0,0,PUnit.unit) a0 (wrap i64 (a2.1-1),a2.2) (0,PUnit.unit) (0,0,PUnit.unit) (a0.1) (a0.2.1) (a0.2.2.1,PUnit.unit) (a0.2.2.1,PUnit.unit)) fun y39 y40 y41 y42 y43 y44 y45 y46 y47 y48 y49 y50 y51=>gd (inB y40 (length y49)) (gd (decide (toNat y40<length y49)&&true) (gd (inB y40 (length y49)) (gd (decide (toNat y40<length y49)&&true&&true) (some ((y48,List.set y49 (toNat y40) (wrap i64 (getD y49 (toNat y40) (0:Int)+(1:Int))),y50),y45,0,PUnit.unit))))))))))
noncomputable def Sp.p_73(a0:((List Int)×((List Int)×(Int×Unit))))(a1:Int)(a2:(Int×(Int×Unit))):Bool:=(F_73 a0 a1 a2).isSome
noncomputable def Sp.v_73(a0:((List Int)×((List Int)×(Int×Unit))))(a1:Int)(a2:(Int×(Int×Unit))):((List Int)×((List Int)×(Int×Unit)))×(Int×(Int×Unit))×Int×Unit:=(F_73 a0 a1 a2).getD (dfH R_73)
noncomputable def s_73:Summ:=ownS A_73 26 [] Zy73_0 [Zy73_1,(.int .i64)] (fun x=>p_73 x.1 x.2.1 x.2.2.1) (fun x=>v_73 x.1 x.2.1 x.2.2.1)
theorem pv_73(a0:((List Int)×((List Int)×(Int×Unit))))(a1:Int)(a2:(Int×(Int×Unit))){y:((List Int)×((List Int)×(Int×Unit)))×(Int×(Int×Unit))×Int×Unit}(h:F_73 a0 a1 a2=some y):p_73 a0 a1 a2=true/\v_73 a0 a1 a2=y:=pvG h
theorem run_73(x:HDen A_73)(y:HDen R_73)(h:F_73 x.1 x.2.1 x.2.2.1=some y):evFn sm_73 fns FU 4 73 (ofH A_73 x) [] (ownK 26 [] Zy73_0 [Zy73_1,(.int .i64)])=some y:=runG ov_73_73_ok (os:=[]) trivial (Eq.trans (by kernel_rfl) h)
end
noncomputable section
abbrev A_74:List Ty:=[(.pair (.slice (.int .u32)) (.pair (.slice (.int .i64)) (.pair (.int .i64) .unit))),(.int .i64),(.int .u32),(.pair (.int .i64) (.pair (.int .u32) .unit))]
abbrev R_74:List Ty:=[(.pair (.slice (.int .u32)) (.pair (.slice (.int .i64)) (.pair (.int .i64) .unit))),(.pair (.int .i64) (.pair (.int .u32) .unit)),(.int .i64)]
noncomputable def sm_74:Nat->Option Summ:=smL [(31,s_31),(90,s_90),(93,s_93)]
noncomputable def F_74(a0:((List Int)×((List Int)×(Int×Unit))))(a1 a2:Int)(a3:(Int×(Int×Unit))):Option (((List Int)×((List Int)×(Int×Unit)))×(Int×(Int×Unit))×Int×Unit) :=
 gd (p_93 a0 a3 a1 (↑(length (a0.1)):Int)) (bif(v_93 a0 a3 a1 (↑(length (a0.1)):Int)).1 !=0 then some (([],[],0,PUnit.unit),(0,0,PUnit.unit),(v_93 a0 a3 a1 (↑(length (a0.1)):Int)).1,PUnit.unit)else gd (room (length (a0.1)) 4) (gd (room (length (a0.2.1)) 8) (bif a3.1==0 then some ((a0.1,a0.2.1,a0.2.2.1,PUnit.unit),a3,18,PUnit.unit)else bif a3.1==1 then gd (inB a1 (length (a0.1))) (gd (decide (toNat a1<length (a0.1))&&true) (gd (inB a1 (length (a0.1))) (gd (decide (toNat a1<length (a0.1))&&true&&true) (some ((List.set (a0.1) (toNat a1) (Sp.andnI u32 (getD (a0.1) (toNat a1) 0) (Sp.andnI u32 (a3.2.1) a2)),a0.2.1,a0.2.2.1,PUnit.unit),(0,a3.2),18,PUnit.unit)))))else gd (inB a1 (length (a0.1))) (gd (decide (toNat a1<length (a0.1))&&true) (gd (inB a1 (length (a0.1))) (gd (decide (toNat a1<length (a0.1))&&true&&true) (some ((List.set (a0.1) (toNat a1) (Sp.andnI u32 (getD (a0.1) (toNat a1) 0) (Sp.andnI u32 4294967295 a2)),a0.2.1,a0.2.2.1,PUnit.unit),(wrap i64 (a3.1-1),a3.2),0,PUnit.unit))))))))
noncomputable def Sp.p_74(a0:((List Int)×((List Int)×(Int×Unit))))(a1 a2:Int)(a3:(Int×(Int×Unit))):Bool:=(F_74 a0 a1 a2 a3).isSome
noncomputable def Sp.v_74(a0:((List Int)×((List Int)×(Int×Unit))))(a1 a2:Int)(a3:(Int×(Int×Unit))):((List Int)×((List Int)×(Int×Unit)))×(Int×(Int×Unit))×Int×Unit:=(F_74 a0 a1 a2 a3).getD (dfH R_74)
noncomputable def s_74:Summ:=ownS A_74 26 [] (.pair (.slice (.int .u32)) (.pair (.slice (.int .i64)) (.pair (.int .i64) .unit))) [(.pair (.int .i64) (.pair (.int .u32) .unit)),(.int .i64)] (fun x=>p_74 x.1 x.2.1 x.2.2.1 x.2.2.2.1) (fun x=>v_74 x.1 x.2.1 x.2.2.1 x.2.2.2.1)
theorem pv_74(a0:((List Int)×((List Int)×(Int×Unit))))(a1 a2:Int)(a3:(Int×(Int×Unit))){y:((List Int)×((List Int)×(Int×Unit)))×(Int×(Int×Unit))×Int×Unit}(h:F_74 a0 a1 a2 a3=some y):p_74 a0 a1 a2 a3=true/\v_74 a0 a1 a2 a3=y:=pvG h
theorem run_74(x:HDen A_74)(y:HDen R_74)(h:F_74 x.1 x.2.1 x.2.2.1 x.2.2.2.1=some y):evFn sm_74 fns FU 4 74 (ofH A_74 x) [] (ownK 26 [] (.pair (.slice (.int .u32)) (.pair (.slice (.int .i64)) (.pair (.int .i64) .unit))) [(.pair (.int .i64) (.pair (.int .u32) .unit)),(.int .i64)])=some y:=runG noO_ok (os:=[]) trivial (Eq.trans (by kernel_rfl) h)
end
noncomputable section
abbrev Zt47_0:Type:=Int×Int×Unit
abbrev Zt47_1:Type:=List Int×Int×Unit
abbrev Zy47_2:Ty:=(.pair (.pair (.slice (.int .u32)) (.pair (.slice (.int .i64)) (.pair (.int .i64) .unit))) (.pair (.int .i64) (.pair (.int .i64) .unit)))
abbrev Zy47_3:Ty:=(.pair (.int .i64) (.pair (.int .u32) .unit))
abbrev Zy47_4:Ty:=(.pair (.int .i64) (.pair (.int .i64) .unit))
abbrev Zy47_5:Ty:=(.slice (.pair .bool (.pair (.int .i64) (.pair (.int .u32) .unit))))
abbrev Zt47_6:Type:=List (Bool×Int×Int×Unit)
abbrev A_47:List Ty:=[(.pair (.pair (.slice (.int .u32)) (.pair (.slice (.int .i64)) (.pair (.int .i64) .unit))) (.pair (.int .i64) (.pair (.int .i64) .unit))),(.slice (.pair .bool (.pair (.int .i64) (.pair (.int .u32) .unit)))),(.pair (.int .i64) (.pair (.int .u32) .unit))]
abbrev R_47:List Ty:=[(.pair (.pair (.slice (.int .u32)) (.pair (.slice (.int .i64)) (.pair (.int .i64) .unit))) (.pair (.int .i64) (.pair (.int .i64) .unit))),(.pair (.int .i64) (.pair (.int .u32) .unit)),(.int .i64)]
noncomputable def sm_47:Nat->Option Summ:=smL [(69,s_69),(73,s_73),(74,s_74)]
noncomputable def T_47_1:PS:=⟨61,[(3,.kc (.ptr 0 [])),(5,.kc (.ptr 2 [])),(6,.kc (.ptr 3 [])),(7,.kc (.ptr 6 [])),(11,.hv (.int .i64)),(16,.hv Zy47_5),(17,.hv (.int .i64)),(18,.hv (.int .i64))],[.mem (.pr (.pr (.kc (.whole 1)) (.hv (.pair (.slice (.int .i64)) (.pair (.int .i64) .unit)))) (.hv Zy47_4)),.vec 26 (.int .u32),.mem (.hv Zy47_3),.mem (.pr (.pr (.kc (.whole 4)) (.pr (.kc (.whole 5)) (.hv (.pair (.int .i64) .unit)))) (.hv Zy47_4)),.vec 26 (.int .u32),.vec 3 (.int .i64),.mem (.hv Zy47_3)],0⟩
inductive Sp.E_47_1 where
 |e0 (p0:Int) (p4:Zt47_1) (p5:Zt47_0) (p6:List Int) (p7:Zt47_0)
 |e1 (p0:Int)
 |e2 (p0:Int) (p1:Zt47_6) (p2 p3:Int) (p4:Zt47_1) (p5:Zt47_0) (p6:List Int) (p7:Zt47_0) (p8:Int×Unit) (p9:Zt47_0) (p10 p11:List Int) (p12:Zt47_0)
noncomputable def Sp.B_47_1{R:Type}(r:Option E_47_1)(k0:Int->Zt47_1->Zt47_0->List Int->Zt47_0->Option R)(k1:Int->Option R)(k2:Int->Zt47_6->Int->Int->Zt47_1->Zt47_0->List Int->Zt47_0->(Int×Unit)->Zt47_0->List Int->List Int->Zt47_0->Option R):Option R:=match r with
 |none=>none
 |some (.e0 p0 p4 p5 p6 p7)=>k0 p0 p4 p5 p6 p7
 |some (.e1 p0)=>k1 p0
 |some (.e2 p0 p1 p2 p3 p4 p5 p6 p7 p8 p9 p10 p11 p12)=>k2 p0 p1 p2 p3 p4 p5 p6 p7 p8 p9 p10 p11 p12
theorem Bn_47_1{A R:Type}{r:Option E_47_1}{f:A->Option R}{k0:Int->Zt47_1->Zt47_0->List Int->Zt47_0->Option A}{k1:Int->Option A}{k2:Int->Zt47_6->Int->Int->Zt47_1->Zt47_0->List Int->Zt47_0->(Int×Unit)->Zt47_0->List Int->List Int->Zt47_0->Option A}{l0:Int->Zt47_1->Zt47_0->List Int->Zt47_0->Option R}{l1:Int->Option R}{l2:Int->Zt47_6->Int->Int->Zt47_1->Zt47_0->List Int->Zt47_0->(Int×Unit)->Zt47_0->List Int->List Int->Zt47_0->Option R}(h0:∀p0 p4 p5 p6 p7,(k0 p0 p4 p5 p6 p7).bind f=l0 p0 p4 p5 p6 p7)(h1:∀p0,(k1 p0).bind f=l1 p0)(h2:∀p0 p1 p2 p3 p4 p5 p6 p7 p8 p9 p10 p11 p12,(k2 p0 p1 p2 p3 p4 p5 p6 p7 p8 p9 p10 p11 p12).bind f=l2 p0 p1 p2 p3 p4 p5 p6 p7 p8 p9 p10 p11 p12):(B_47_1 r k0 k1 k2).bind f=B_47_1 r l0 l1 l2:=by
 cases r with
 |none=>rfl
 |some e=>cases e<;>first|apply h0|apply h1|apply h2
noncomputable def Y_47_1{R:Type}(k:Ex->St->Option R):E_47_1->Option R
 | .e0 p0 p4 p5 p6 p7=>k Ex.ret (sx 61 [(6,CV.ptr 0 []),(7,CV.ptr 2 []),(8,CV.int i64 p0)] [Blk.mem (CV.pair (CV.pair (CV.whole 1) (CV.pure (Ty.pair (Ty.slice (Ty.int i64)) (Ty.pair (Ty.int i64) Ty.unit)) p4)) (CV.pure (Ty.pair (Ty.int i64) (Ty.pair (Ty.int i64) Ty.unit)) p5)),Blk.vec 26 (Ty.int u32) p6,Blk.mem (CV.pure (Ty.pair (Ty.int i64) (Ty.pair (Ty.int u32) Ty.unit)) p7)])
 | .e1 p0=>k Ex.ret (sx 61 [(6,CV.ptr 0 []),(7,CV.ptr 3 []),(8,CV.int i64 p0)] [Blk.mem (CV.pair (CV.pair (CV.whole 1) (CV.pair (CV.whole 2) (CV.pure (Ty.pair (Ty.int i64) Ty.unit) ((0,PUnit.unit):(Int×Unit))))) (CV.pure (Ty.pair (Ty.int i64) (Ty.pair (Ty.int i64) Ty.unit)) ((0,0,PUnit.unit):(Int×(Int×Unit))))),Blk.vec 26 (Ty.int u32) [],Blk.vec 3 (Ty.int i64) [],Blk.mem (CV.pure (Ty.pair (Ty.int i64) (Ty.pair (Ty.int u32) Ty.unit)) ((0,0,PUnit.unit):(Int×(Int×Unit))))])
 | .e2 p0 p1 p2 p3 p4 p5 p6 p7 p8 p9 p10 p11 p12=>k Ex.normal (sx 61 [(3,CV.ptr 0 []),(5,CV.ptr 2 []),(6,CV.ptr 3 []),(7,CV.ptr 6 []),(11,CV.int i64 p0),(16,CV.pure (Ty.slice (Ty.pair Ty.bool (Ty.pair (Ty.int i64) (Ty.pair (Ty.int u32) Ty.unit)))) p1),(17,CV.int i64 p2),(18,CV.int i64 p3),(48,CV.int i64 p0),(49,CV.bool false),(53,CV.int i64 p0),(54,CV.bool false)] [Blk.mem (CV.pair (CV.pair (CV.whole 1) (CV.pure (Ty.pair (Ty.slice (Ty.int i64)) (Ty.pair (Ty.int i64) Ty.unit)) p4)) (CV.pure (Ty.pair (Ty.int i64) (Ty.pair (Ty.int i64) Ty.unit)) p5)),Blk.vec 26 (Ty.int u32) p6,Blk.mem (CV.pure (Ty.pair (Ty.int i64) (Ty.pair (Ty.int u32) Ty.unit)) p7),Blk.mem (CV.pair (CV.pair (CV.whole 4) (CV.pair (CV.whole 5) (CV.pure (Ty.pair (Ty.int i64) Ty.unit) p8))) (CV.pure (Ty.pair (Ty.int i64) (Ty.pair (Ty.int i64) Ty.unit)) p9)),Blk.vec 26 (Ty.int u32) p10,Blk.vec 3 (Ty.int i64) p11,Blk.mem (CV.pure (Ty.pair (Ty.int i64) (Ty.pair (Ty.int u32) Ty.unit)) p12)])
noncomputable def Sp.S_47_1{R:Type}(k:E_47_1->Option R)(p0:Int)(p1:List (Bool×Int×Int×Unit))(p2 p3:Int)(p4:List Int×Int×Unit)(p5:Int×Int×Unit)(p6:List Int)(p7:Int×Int×Unit)(p8:Int×Unit)(p9:Int×Int×Unit)(p10 p11:List Int)(p12:Int×Int×Unit):Option R:=
 bif p0==18 then k (E_47_1.e0 p0 p4 p5 p6 p7)else bif p0 !=0 then k (E_47_1.e1 p0)else k (E_47_1.e2 p0 p1 p2 p3 p4 p5 p6 p7 p8 p9 p10 p11 p12)
noncomputable def Sp.J_47_1(p0:Int)(p1:List (Bool×Int×Int×Unit))(p2 p3:Int)(p4:List Int×Int×Unit)(p5:Int×Int×Unit)(p6:List Int)(p7:Int×Int×Unit)(p8:Int×Unit)(p9:Int×Int×Unit)(p10 p11:List Int)(p12:Int×Int×Unit):Option E_47_1:=S_47_1 some p0 p1 p2 p3 p4 p5 p6 p7 p8 p9 p10 p11 p12
noncomputable def O_47_1{R:Type}:Orc R:=orL T_47_1 (fun a=>J_47_1 a.1 a.2.1 a.2.2.1 a.2.2.2.1 a.2.2.2.2.1 a.2.2.2.2.2.1 a.2.2.2.2.2.2.1 a.2.2.2.2.2.2.2.1 a.2.2.2.2.2.2.2.2.1 a.2.2.2.2.2.2.2.2.2.1 a.2.2.2.2.2.2.2.2.2.2.1 a.2.2.2.2.2.2.2.2.2.2.2.1 a.2.2.2.2.2.2.2.2.2.2.2.2.1) Y_47_1
theorem OK_47_1{R:Type}:okF (R:=R) sm_47 0 (ni (nf 47 0) 0) O_47_1:=jp noO_ok (os:=[]) trivial T_47_1 (fun R k a=>S_47_1 k a.1 a.2.1 a.2.2.1 a.2.2.2.1 a.2.2.2.2.1 a.2.2.2.2.2.1 a.2.2.2.2.2.2.1 a.2.2.2.2.2.2.2.1 a.2.2.2.2.2.2.2.2.1 a.2.2.2.2.2.2.2.2.2.1 a.2.2.2.2.2.2.2.2.2.2.1 a.2.2.2.2.2.2.2.2.2.2.2.1 a.2.2.2.2.2.2.2.2.2.2.2.2.1) Y_47_1 (fun k a=>by kernel_rfl) (fun Y a=>by
 unfold S_47_1
 repeat' first|apply gdN|apply condN|rfl) (ok0 _)
noncomputable def T_47_0:PS:=⟨61,[(3,.kc (.ptr 0 [])),(5,.kc (.ptr 2 [])),(6,.kc (.ptr 3 [])),(7,.kc (.ptr 6 [])),(16,.hv Zy47_5),(17,.hv (.int .i64)),(18,.hv (.int .i64))],[.mem (.pr (.pr (.kc (.whole 1)) (.hv (.pair (.slice (.int .i64)) (.pair (.int .i64) .unit)))) (.hv Zy47_4)),.vec 26 (.int .u32),.mem (.hv Zy47_3),.mem (.pr (.pr (.kc (.whole 4)) (.pr (.kc (.whole 5)) (.hv (.pair (.int .i64) .unit)))) (.hv Zy47_4)),.vec 26 (.int .u32),.vec 3 (.int .i64),.mem (.hv Zy47_3)],0⟩
inductive Sp.E_47_0 where
 |e0 (y38:Int) (y39:Zt47_1) (y40:Zt47_0) (y41:List Int) (y42:Zt47_0)
 |e1 (y43:Int)
 |e2 (p3:Zt47_1) (p4:Zt47_0) (p5:List Int) (p6:Zt47_0) (p7:Int×Unit) (p8:Zt47_0) (p9 p10:List Int) (p11:Zt47_0)
noncomputable def Sp.B_47_0{R:Type}(r:Option E_47_0)(k0:Int->Zt47_1->Zt47_0->List Int->Zt47_0->Option R)(k1:Int->Option R)(k2:Zt47_1->Zt47_0->List Int->Zt47_0->(Int×Unit)->Zt47_0->List Int->List Int->Zt47_0->Option R):Option R:=match r with
 |none=>none
 |some (.e0 y38 y39 y40 y41 y42)=>k0 y38 y39 y40 y41 y42
 |some (.e1 y43)=>k1 y43
 |some (.e2 p3 p4 p5 p6 p7 p8 p9 p10 p11)=>k2 p3 p4 p5 p6 p7 p8 p9 p10 p11
noncomputable def Y_47_0{R:Type}(k:Ex->St->Option R):E_47_0->Option R
 | .e0 y38 y39 y40 y41 y42=>k Ex.ret (sx 61 [(6,CV.ptr 0 []),(7,CV.ptr 2 []),(8,CV.int i64 y38)] [Blk.mem (CV.pair (CV.pair (CV.whole 1) (CV.pure (Ty.pair (Ty.slice (Ty.int i64)) (Ty.pair (Ty.int i64) Ty.unit)) y39)) (CV.pure (Ty.pair (Ty.int i64) (Ty.pair (Ty.int i64) Ty.unit)) y40)),Blk.vec 26 (Ty.int u32) y41,Blk.mem (CV.pure (Ty.pair (Ty.int i64) (Ty.pair (Ty.int u32) Ty.unit)) y42)])
 | .e1 y43=>k Ex.ret (sx 61 [(6,CV.ptr 0 []),(7,CV.ptr 3 []),(8,CV.int i64 y43)] [Blk.mem (CV.pair (CV.pair (CV.whole 1) (CV.pair (CV.whole 2) (CV.pure (Ty.pair (Ty.int i64) Ty.unit) ((0,PUnit.unit):(Int×Unit))))) (CV.pure (Ty.pair (Ty.int i64) (Ty.pair (Ty.int i64) Ty.unit)) ((0,0,PUnit.unit):(Int×(Int×Unit))))),Blk.vec 26 (Ty.int u32) [],Blk.vec 3 (Ty.int i64) [],Blk.mem (CV.pure (Ty.pair (Ty.int i64) (Ty.pair (Ty.int u32) Ty.unit)) ((0,0,PUnit.unit):(Int×(Int×Unit))))])
 | .e2 p3 p4 p5 p6 p7 p8 p9 p10 p11=>k (Ex.exit 0) (sx 61 [(3,CV.ptr 0 []),(5,CV.ptr 2 []),(6,CV.ptr 3 []),(7,CV.ptr 6 [])] [Blk.mem (CV.pair (CV.pair (CV.whole 1) (CV.pure (Ty.pair (Ty.slice (Ty.int i64)) (Ty.pair (Ty.int i64) Ty.unit)) p3)) (CV.pure (Ty.pair (Ty.int i64) (Ty.pair (Ty.int i64) Ty.unit)) p4)),Blk.vec 26 (Ty.int u32) p5,Blk.mem (CV.pure (Ty.pair (Ty.int i64) (Ty.pair (Ty.int u32) Ty.unit)) p6),Blk.mem (CV.pair (CV.pair (CV.whole 4) (CV.pair (CV.whole 5) (CV.pure (Ty.pair (Ty.int i64) Ty.unit) p7))) (CV.pure (Ty.pair (Ty.int i64) (Ty.pair (Ty.int i64) Ty.unit)) p8)),Blk.vec 26 (Ty.int u32) p9,Blk.vec 3 (Ty.int i64) p10,Blk.mem (CV.pure (Ty.pair (Ty.int i64) (Ty.pair (Ty.int u32) Ty.unit)) p11)])
noncomputable def Sp.S_47_0{R:Type}(K:(List (Bool×Int×Int×Unit))->Int->Int->(List Int×Int×Unit)->(Int×Int×Unit)->List Int->(Int×Int×Unit)->(Int×Unit)->(Int×Int×Unit)->List Int->List Int->(Int×Int×Unit)->Option R)(k:E_47_0->Option R)(p0:List (Bool×Int×Int×Unit))(p1 p2:Int)(p3:List Int×Int×Unit)(p4:Int×Int×Unit)(p5:List Int)(p6:Int×Int×Unit)(p7:Int×Unit)(p8:Int×Int×Unit)(p9 p10:List Int)(p11:Int×Int×Unit):Option R:=
 bif decide (p2<p1)then gd (inB p2 (length p0)) (bif(getD p0 (toNat p2) Zd0).1 then gd (p_73 (p5,p3) ((getD p0 (toNat p2) Zd0).2.1) p6) (B_47_1 (J_47_1 ((v_73 (p5,p3) ((getD p0 (toNat p2) Zd0).2.1) p6).2.2.1) p0 p1 p2 ((v_73 (p5,p3) ((getD p0 (toNat p2) Zd0).2.1) p6).1.2) p4 ((v_73 (p5,p3) ((getD p0 (toNat p2) Zd0).2.1) p6).1.1) ((v_73 (p5,p3) ((getD p0 (toNat p2) Zd0).2.1) p6).2.1) p7 p8 p9 p10 p11) (fun y38 y39 y40 y41 y42=>k (E_47_0.e0 y38 y39 y40 y41 y42)) (fun y43=>k (E_47_0.e1 y43)) fun y44 y45 y46 y47 y48 y49 y50 y51 y52 y53 y54 y55 y56=>K y45 y46 (wrap i64 (y47+1)) y48 y49 y50 y51 y52 y53 y54 y55 y56)else gd (p_74 (p5,p3) ((getD p0 (toNat p2) Zd0).2.1) ((getD p0 (toNat p2) Zd0).2.2.1) p6) (B_47_1 (J_47_1 ((v_74 (p5,p3) ((getD p0 (toNat p2) Zd0).2.1) ((getD p0 (toNat p2) Zd0).2.2.1) p6).2.2.1) p0 p1 p2 ((v_74 (p5,p3) ((getD p0 (toNat p2) Zd0).2.1) ((getD p0 (toNat p2) Zd0).2.2.1) p6).1.2) p4 ((v_74 (p5,p3) ((getD p0 (toNat p2) Zd0).2.1) ((getD p0 (toNat p2) Zd0).2.2.1) p6).1.1) ((v_74 (p5,p3) ((getD p0 (toNat p2) Zd0).2.1) ((getD p0 (toNat p2) Zd0).2.2.1) p6).2.1) p7 p8 p9 p10 p11) (fun y57 y58 y59 y60 y61=>k (E_47_0.e0 y57 y58 y59 y60 y61)) (fun y62=>k (E_47_0.e1 y62)) fun y63 y64 y65 y66 y67 y68 y69 y70 y71 y72 y73 y74 y75=>K y64 y65 (wrap i64 (y66+1)) y67 y68 y69 y70 y71 y72 y73 y74 y75))else k (E_47_0.e2 p3 p4 p5 p6 p7 p8 p9 p10 p11)
noncomputable def Sp.L_47_0:Nat->(List (Bool×Int×Int×Unit))->Int->Int->(List Int×Int×Unit)->(Int×Int×Unit)->List Int->(Int×Int×Unit)->(Int×Unit)->(Int×Int×Unit)->List Int->List Int->(Int×Int×Unit)->Option E_47_0
 |0,_,_,_,_,_,_,_,_,_,_,_,_=>none
 |m+1,p0,p1,p2,p3,p4,p5,p6,p7,p8,p9,p10,p11=>S_47_0 (L_47_0 m) some p0 p1 p2 p3 p4 p5 p6 p7 p8 p9 p10 p11
noncomputable def l_47_0(m:Nat)(a:T_47_0.E):Option E_47_0:=L_47_0 m a.1 a.2.1 a.2.2.1 a.2.2.2.1 a.2.2.2.2.1 a.2.2.2.2.2.1 a.2.2.2.2.2.2.1 a.2.2.2.2.2.2.2.1 a.2.2.2.2.2.2.2.2.1 a.2.2.2.2.2.2.2.2.2.1 a.2.2.2.2.2.2.2.2.2.2.1 a.2.2.2.2.2.2.2.2.2.2.2.1
noncomputable def O_47_0{R:Type}:Orc R:=orL T_47_0 (l_47_0 FU) Y_47_0
theorem OK_47_0{R:Type}:okF (R:=R) sm_47 0 (nf 47 0) O_47_0:=lp noO_ok (os:=[O_47_1]) ⟨OK_47_1,trivial⟩ T_47_0 l_47_0 (fun R K k a=>S_47_0 (fun p0 p1 p2 p3 p4 p5 p6 p7 p8 p9 p10 p11=>K (p0,p1,p2,p3,p4,p5,p6,p7,p8,p9,p10,p11,())) k a.1 a.2.1 a.2.2.1 a.2.2.2.1 a.2.2.2.2.1 a.2.2.2.2.2.1 a.2.2.2.2.2.2.1 a.2.2.2.2.2.2.2.1 a.2.2.2.2.2.2.2.2.1 a.2.2.2.2.2.2.2.2.2.1 a.2.2.2.2.2.2.2.2.2.2.1 a.2.2.2.2.2.2.2.2.2.2.2.1) Y_47_0 (fun _=>rfl) (fun _ _=>rfl) (fun k K a=>by kernel_rfl) (fun Y K a=>by
 unfold S_47_0
 repeat' first|apply gdN|apply condN|(apply Bn_47_1<;>intros)|rfl) (ok0 _)
noncomputable def F_47(a0:(((List Int)×((List Int)×(Int×Unit)))×(Int×(Int×Unit))))(a1:(List (Bool×(Int×(Int×Unit)))))(a2:(Int×(Int×Unit))):Option ((((List Int)×((List Int)×(Int×Unit)))×(Int×(Int×Unit)))×(Int×(Int×Unit))×Int×Unit) :=
 gd (p_69 (a0.1)) (B_47_0 (L_47_0 4611686018427387904 a1 (↑(length a1):Int) 0 ((v_69 (a0.1)).1.2) (a0.2) ((v_69 (a0.1)).1.1) a2 (0,PUnit.unit) (0,0,PUnit.unit) [] [] (0,0,PUnit.unit)) (fun y15 y16 y17 y18 y19=>some (((y18,y16),y17),y19,y15,PUnit.unit)) (fun y20=>some ((([],[],0,PUnit.unit),0,0,PUnit.unit),(0,0,PUnit.unit),y20,PUnit.unit)) fun y21 y22 y23 y24 y25 y26 y27 y28 y29=>some (((y23,y21),y22),y24,0,PUnit.unit))
noncomputable def Sp.p_47(a0:(((List Int)×((List Int)×(Int×Unit)))×(Int×(Int×Unit))))(a1:(List (Bool×(Int×(Int×Unit)))))(a2:(Int×(Int×Unit))):Bool:=(F_47 a0 a1 a2).isSome
noncomputable def Sp.v_47(a0:(((List Int)×((List Int)×(Int×Unit)))×(Int×(Int×Unit))))(a1:(List (Bool×(Int×(Int×Unit)))))(a2:(Int×(Int×Unit))):(((List Int)×((List Int)×(Int×Unit)))×(Int×(Int×Unit)))×(Int×(Int×Unit))×Int×Unit:=(F_47 a0 a1 a2).getD (dfH R_47)
noncomputable def s_47:Summ:=ownS A_47 26 [] Zy47_2 [Zy47_3,(.int .i64)] (fun x=>p_47 x.1 x.2.1 x.2.2.1) (fun x=>v_47 x.1 x.2.1 x.2.2.1)
theorem pv_47(a0:(((List Int)×((List Int)×(Int×Unit)))×(Int×(Int×Unit))))(a1:(List (Bool×(Int×(Int×Unit)))))(a2:(Int×(Int×Unit))){y:(((List Int)×((List Int)×(Int×Unit)))×(Int×(Int×Unit)))×(Int×(Int×Unit))×Int×Unit}(h:F_47 a0 a1 a2=some y):p_47 a0 a1 a2=true/\v_47 a0 a1 a2=y:=pvG h
theorem run_47(x:HDen A_47)(y:HDen R_47)(h:F_47 x.1 x.2.1 x.2.2.1=some y):evFn sm_47 fns FU 1 47 (ofH A_47 x) [] (ownK 26 [] Zy47_2 [Zy47_3,(.int .i64)])=some y:=runG noO_ok (os:=[O_47_0]) ⟨OK_47_0,trivial⟩ (Eq.trans (by kernel_rfl) h)
end
noncomputable section
abbrev A_48:List Ty:=[(.int .i64),(.slice (.int .u32))]
abbrev R_48:List Ty:=[(.slice (.pair .bool (.pair (.int .i64) (.pair (.int .u32) .unit))))]
noncomputable def sm_48:Nat->Option Summ:=smL []
noncomputable def T_48_0:PS:=⟨25,[(0,.hv (.int .i64)),(5,.kc (.whole 0)),(8,.hv (.slice (.int .u32))),(9,.hv (.int .i64)),(10,.hv (.int .i64))],[.vec 106 (.pair .bool (.pair (.int .i64) (.pair (.int .u32) .unit)))],0⟩
inductive Sp.E_48_0 where
 |e0 (p4:List (Bool×Int×Int×Unit))
noncomputable def Sp.B_48_0{R:Type}(r:Option E_48_0)(k0:(List (Bool×Int×Int×Unit))->Option R):Option R:=match r with
 |none=>none
 |some (.e0 p4)=>k0 p4
noncomputable def Y_48_0{R:Type}(k:Ex->St->Option R):E_48_0->Option R
 | .e0 p4=>k (Ex.exit 0) (sx 25 [(5,CV.whole 0)] [Blk.vec 106 (Ty.pair Ty.bool (Ty.pair (Ty.int i64) (Ty.pair (Ty.int u32) Ty.unit))) p4])
noncomputable def Sp.S_48_0{R:Type}(K:Int->List Int->Int->Int->(List (Bool×Int×Int×Unit))->Option R)(k:E_48_0->Option R)(p0:Int)(p1:List Int)(p2 p3:Int)(p4:List (Bool×Int×Int×Unit)):Option R:=
 bif decide (p3<p2)then gd (inB p3 (length p1)) (gd (room (length p4+1) 24) (K p0 p1 p2 (wrap i64 (p3+1)) (p4++[(false,wrap i64 (p0+p3),getD p1 (toNat p3) 0,PUnit.unit)])))else k (E_48_0.e0 p4)
noncomputable def Sp.L_48_0:Nat->Int->List Int->Int->Int->(List (Bool×Int×Int×Unit))->Option E_48_0
 |0,_,_,_,_,_=>none
 |m+1,p0,p1,p2,p3,p4=>S_48_0 (L_48_0 m) some p0 p1 p2 p3 p4
noncomputable def l_48_0(m:Nat)(a:T_48_0.E):Option E_48_0:=L_48_0 m a.1 a.2.1 a.2.2.1 a.2.2.2.1 a.2.2.2.2.1
noncomputable def O_48_0{R:Type}:Orc R:=orL T_48_0 (l_48_0 FU) Y_48_0
theorem OK_48_0{R:Type}:okF (R:=R) sm_48 0 (nf 48 0) O_48_0:=lp0 T_48_0 l_48_0 (fun R K k a=>S_48_0 (fun p0 p1 p2 p3 p4=>K (p0,p1,p2,p3,p4,())) k a.1 a.2.1 a.2.2.1 a.2.2.2.1 a.2.2.2.2.1) Y_48_0 (fun _ _ _=>by kernel_rfl) (fun _ _ _=>by
 unfold S_48_0
 repeat' first|apply gdN|apply condN|rfl) (ok0 _)
noncomputable def F_48(a0:Int)(a1:(List Int)):Option ((List (Bool×(Int×(Int×Unit))))×Unit) :=
 B_48_0 (L_48_0 4611686018427387904 a0 a1 (↑(length a1):Int) 0 []) fun y1=>some (y1,PUnit.unit)
noncomputable def Sp.p_48(a0:Int)(a1:(List Int)):Bool:=(F_48 a0 a1).isSome
noncomputable def Sp.v_48(a0:Int)(a1:(List Int)):(List (Bool×(Int×(Int×Unit))))×Unit:=(F_48 a0 a1).getD (dfH R_48)
noncomputable def s_48:Summ:=shS A_48 R_48 (fun x=>p_48 x.1 x.2.1) (fun x=>v_48 x.1 x.2.1)
theorem pv_48(a0:Int)(a1:(List Int)){y:(List (Bool×(Int×(Int×Unit))))×Unit}(h:F_48 a0 a1=some y):p_48 a0 a1=true/\v_48 a0 a1=y:=pvG h
theorem run_48(x:HDen A_48)(y:HDen R_48)(h:F_48 x.1 x.2.1=some y):rnF sm_48 1 48 A_48 R_48 x y:=runG noO_ok (os:=[O_48_0]) ⟨OK_48_0,trivial⟩ (Eq.trans (by kernel_rfl) h)
end
noncomputable section
abbrev A_61:List Ty:=[(.slice (.pair (.int .i64) (.pair (.slice (.int .u32)) .unit))),(.int .i64),(.slice (.int .u32))]
abbrev R_61:List Ty:=[(.slice (.pair (.int .i64) (.pair (.slice (.int .u32)) .unit)))]
noncomputable def sm_61:Nat->Option Summ:=smL [(31,s_31),(86,s_86)]
noncomputable def T_61_84_0_0:PS:=⟨49,[(0,.kc (.whole 0)),(1,.hv (.int .i64)),(2,.kc (.clo 85 (.pure .unit PUnit.unit))),(8,.hv (.int .i64)),(9,.hv (.int .i64)),(10,.hv (.int .i64))],[.vec 59 (.pair (.int .i64) (.pair (.slice (.int .u32)) .unit))],1⟩
inductive Sp.E_61_84_0_0 where
 |e0 (p0 p1 p2:Int) (p4:List (Int×List Int×Unit))
noncomputable def Sp.B_61_84_0_0{R:Type}(r:Option E_61_84_0_0)(k0:Int->Int->Int->(List (Int×List Int×Unit))->Option R):Option R:=match r with
 |none=>none
 |some (.e0 p0 p1 p2 p4)=>k0 p0 p1 p2 p4
noncomputable def Y_61_84_0_0{R:Type}(k:Ex->St->Option R):E_61_84_0_0->Option R
 | .e0 p0 p1 p2 p4=>k (Ex.exit 0) (sx 49 [(0,CV.whole 0),(1,CV.int i64 p0),(2,CV.clo 85 (CV.pure Ty.unit PUnit.unit)),(8,CV.int i64 p1),(9,CV.int i64 p2)] [Blk.vec 59 (Ty.pair (Ty.int i64) (Ty.pair (Ty.slice (Ty.int u32)) Ty.unit)) p4] 1)
noncomputable def Sp.S_61_84_0_0{R:Type}(K:Int->Int->Int->Int->(List (Int×List Int×Unit))->Option R)(k:E_61_84_0_0->Option R)(p0 p1 p2 p3:Int)(p4:List (Int×List Int×Unit)):Option R:=
 bif decide (p2<p3)then gd (inB (wrap i64 (Int.fdiv (wrap u64 (wrap i64 (p2+p3))) 2)) (length p4)) (gd (decide (toNat (wrap i64 (Int.fdiv (wrap u64 (wrap i64 (p2+p3))) 2))<length p4)&&true) (bif decide (wrap i64 ((getD p4 (toNat (wrap i64 (Int.fdiv (wrap u64 (wrap i64 (p2+p3))) 2))) Zd1).1-p0)<0)then K p0 p1 (wrap i64 (wrap i64 (Int.fdiv (wrap u64 (wrap i64 (p2+p3))) 2)+1)) p3 p4 else K p0 p1 p2 (wrap i64 (Int.fdiv (wrap u64 (wrap i64 (p2+p3))) 2)) p4))else k (E_61_84_0_0.e0 p0 p1 p2 p4)
noncomputable def Sp.L_61_84_0_0:Nat->Int->Int->Int->Int->(List (Int×List Int×Unit))->Option E_61_84_0_0
 |0,_,_,_,_,_=>none
 |m+1,p0,p1,p2,p3,p4=>S_61_84_0_0 (L_61_84_0_0 m) some p0 p1 p2 p3 p4
noncomputable def l_61_84_0_0(m:Nat)(a:T_61_84_0_0.E):Option E_61_84_0_0:=L_61_84_0_0 m a.1 a.2.1 a.2.2.1 a.2.2.2.1 a.2.2.2.2.1
noncomputable def O_61_84_0_0{R:Type}:Orc R:=orL T_61_84_0_0 (l_61_84_0_0 FU) Y_61_84_0_0
theorem OK_61_84_0_0{R:Type}:okF (R:=R) sm_61 2 (nf 84 0) O_61_84_0_0:=lp0 T_61_84_0_0 l_61_84_0_0 (fun R K k a=>S_61_84_0_0 (fun p0 p1 p2 p3 p4=>K (p0,p1,p2,p3,p4,())) k a.1 a.2.1 a.2.2.1 a.2.2.2.1 a.2.2.2.2.1) Y_61_84_0_0 (fun _ _ _=>by kernel_rfl) (fun _ _ _=>by
 unfold S_61_84_0_0
 repeat' first|apply gdN|apply condN|rfl) (ok0 _)
noncomputable def g_61_84{R:Type}:List CV->List Blk->(CV->List Blk->Option R)->Option R:=evFnL sm_61 FU (ovr noO (evFn sm_61 fns FU 2)) (mkT (fB fns 84) [O_61_84_0_0]) (fO fns 84)
theorem g_61_84_ok{R:Type}(args:List CV)(hp:List Blk)(k:CV->List Blk->Option R)(r:R)(h:g_61_84 args hp k=some r):evFn sm_61 fns FU 3 84 args hp k=some r:=runG noO_ok (os:=[O_61_84_0_0]) ⟨OK_61_84_0_0,trivial⟩ h
noncomputable def ov_61_61{R:Type}:Nat->Option (List CV->List Blk->(CV->List Blk->Option R)->Option R):=fun f'=>bif Nat.beq f' 84 then some g_61_84 else none
theorem ov_61_61_ok{R:Type}:OvrOK (R:=R) ov_61_61 (evFn sm_61 fns FU 3):=by
 intro f' g h args hp k r hg
 dsimp only[ov_61_61]at h
 by_cases h84:f'=84
 ·subst h84
  injection h with h
  subst h
  exact evFn_le 0 (g_61_84_ok _ _ _ _ hg)
 rw[nbeq_ne h84,cond_false]at h
 cases h
noncomputable def F_61(a0:(List (Int×((List Int)×Unit))))(a1:Int)(a2:(List Int)):Option ((List (Int×((List Int)×Unit)))×Unit) :=
 B_61_84_0_0 (L_61_84_0_0 4611686018427387904 a1 (↑(length a0):Int) 0 (↑(length a0):Int) a0) fun y4 y5 y6 y7=>bif decide (y6<y5)then gd (inB y6 (length y7)) (gd (decide (toNat y6<length y7)&&true) (gd (room (length a2) 4) (bif wrap i64 ((getD y7 (toNat y6) Zd1).1-y4)==0 then gd (inB y6 (length y7)) (gd (decide (toNat y6<length y7)&&true&&true) (some (List.set y7 (toNat y6) (a1,a2,PUnit.unit),PUnit.unit)))else gd (decide (0<=y6)&&decide (y6<=(↑(length y7):Int))&&room (length y7+1) 32) (some (take (toNat y6) y7++([(a1,a2,PUnit.unit)]++drop (toNat y6) y7),PUnit.unit)))))else gd (room (length a2) 4) (gd (decide (0<=y6)&&decide (y6<=(↑(length y7):Int))&&room (length y7+1) 32) (some (take (toNat y6) y7++([(a1,a2,PUnit.unit)]++drop (toNat y6) y7),PUnit.unit)))
noncomputable def Sp.p_61(a0:(List (Int×((List Int)×Unit))))(a1:Int)(a2:(List Int)):Bool:=(F_61 a0 a1 a2).isSome
noncomputable def Sp.v_61(a0:(List (Int×((List Int)×Unit))))(a1:Int)(a2:(List Int)):(List (Int×((List Int)×Unit)))×Unit:=(F_61 a0 a1 a2).getD (dfH R_61)
noncomputable def s_61:Summ:=ooM 59 (.pair (.int .i64) (.pair (.slice (.int .u32)) .unit)) [(.int .i64),(.slice (.int .u32))] (fun xs x=>p_61 xs x.1 x.2.1) (fun xs x=>(v_61 xs x.1 x.2.1).1)
theorem pv_61(a0:(List (Int×((List Int)×Unit))))(a1:Int)(a2:(List Int)){y:(List (Int×((List Int)×Unit)))×Unit}(h:F_61 a0 a1 a2=some y):p_61 a0 a1 a2=true/\v_61 a0 a1 a2=y:=pvG h
theorem run_61(xs:List (Ty.den (.pair (.int .i64) (.pair (.slice (.int .u32)) .unit))))(x:HDen [(.int .i64),(.slice (.int .u32))])(y:HDen R_61)(h:F_61 xs x.1 x.2.1=some y):evFn sm_61 fns FU 4 61 (.whole 0::ofH [(.int .i64),(.slice (.int .u32))] x) [.vec 59 (.pair (.int .i64) (.pair (.slice (.int .u32)) .unit)) xs] (ownK 59 [] (.slice (.pair (.int .i64) (.pair (.slice (.int .u32)) .unit))) [])=some y:=runG ov_61_61_ok (os:=[]) trivial (Eq.trans (by kernel_rfl) h)
theorem runJ_61(xs:List (Ty.den (.pair (.int .i64) (.pair (.slice (.int .u32)) .unit))))(x:HDen [(.int .i64),(.slice (.int .u32))])(y:HDen R_61)(h:F_61 xs x.1 x.2.1=some y):evFn sm_61 fns FU 4 61 (.whole 0::ofJ [(.int .i64),(.slice (.int .u32))] x) [.vec 59 (.pair (.int .i64) (.pair (.slice (.int .u32)) .unit)) xs] (ownK 59 [] (.slice (.pair (.int .i64) (.pair (.slice (.int .u32)) .unit))) [])=some y:=runG ov_61_61_ok (os:=[]) trivial (Eq.trans (by kernel_rfl) h)
end
noncomputable section
abbrev A_82:List Ty:=[(.slice (.int .u32))]
abbrev R_82:List Ty:=[(.int .i64)]
noncomputable def sm_82:Nat->Option Summ:=smL []
noncomputable def T_82_0:PS:=⟨26,[(3,.hv (.int .i64)),(6,.hv (.slice (.int .u32))),(7,.hv (.int .i64)),(8,.hv (.int .i64))],[],0⟩
inductive Sp.E_82_0 where
 |e0 (p0:Int)
noncomputable def Sp.B_82_0{R:Type}(r:Option E_82_0)(k0:Int->Option R):Option R:=match r with
 |none=>none
 |some (.e0 p0)=>k0 p0
noncomputable def Y_82_0{R:Type}(k:Ex->St->Option R):E_82_0->Option R
 | .e0 p0=>k (Ex.exit 0) (sx 26 [(3,CV.int i64 p0)] [])
noncomputable def Sp.S_82_0{R:Type}(K:Int->List Int->Int->Int->Option R)(k:E_82_0->Option R)(p0:Int)(p1:List Int)(p2 p3:Int):Option R:=
 bif decide (p3<p2)then gd (inB p3 (length p1)) (K (Int.tmod (wrap i64 (wrap i64 (wrap i64 (31*p0)+wrap i64 (Int.fdiv (getD p1 (toNat p3) 0) 65536))+wrap i64 (7*wrap i64 (Sp.andI u32 (getD p1 (toNat p3) 0) 65535)))) 65536) p1 p2 (wrap i64 (p3+1)))else k (E_82_0.e0 p0)
noncomputable def Sp.L_82_0:Nat->Int->List Int->Int->Int->Option E_82_0
 |0,_,_,_,_=>none
 |m+1,p0,p1,p2,p3=>S_82_0 (L_82_0 m) some p0 p1 p2 p3
noncomputable def l_82_0(m:Nat)(a:T_82_0.E):Option E_82_0:=L_82_0 m a.1 a.2.1 a.2.2.1 a.2.2.2.1
noncomputable def O_82_0{R:Type}:Orc R:=orL T_82_0 (l_82_0 FU) Y_82_0
theorem OK_82_0{R:Type}:okF (R:=R) sm_82 0 (nf 82 0) O_82_0:=lp0 T_82_0 l_82_0 (fun R K k a=>S_82_0 (fun p0 p1 p2 p3=>K (p0,p1,p2,p3,())) k a.1 a.2.1 a.2.2.1 a.2.2.2.1) Y_82_0 (fun _ _ _=>by kernel_rfl) (fun _ _ _=>by
 unfold S_82_0
 repeat' first|apply gdN|apply condN|rfl) (ok0 _)
noncomputable def F_82(a0:(List Int)):Option (Int×Unit) :=
 B_82_0 (L_82_0 4611686018427387904 0 a0 (↑(length a0):Int) 0) fun y1=>some (y1,PUnit.unit)
noncomputable def Sp.p_82(a0:(List Int)):Bool:=(F_82 a0).isSome
noncomputable def Sp.v_82(a0:(List Int)):Int×Unit:=(F_82 a0).getD (dfH R_82)
noncomputable def s_82:Summ:=shJN A_82 R_82 (fun x=>p_82 x.1) (fun x=>v_82 x.1)
theorem pv_82(a0:(List Int)){y:Int×Unit}(h:F_82 a0=some y):p_82 a0=true/\v_82 a0=y:=pvG h
theorem run_82(x:HDen A_82)(y:HDen R_82)(h:F_82 x.1=some y):rnF sm_82 1 82 A_82 R_82 x y:=runG noO_ok (os:=[O_82_0]) ⟨OK_82_0,trivial⟩ (Eq.trans (by kernel_rfl) h)
end
noncomputable section
abbrev Zt58_0:Type:=Int×Int×Unit
abbrev Zt58_1:Type:=List (Int×List Int×Unit)
abbrev Zy58_2:Ty:=(.pair (.int .i64) (.pair (.int .i64) .unit))
abbrev Zy58_3:Ty:=(.pair (.int .i64) (.pair (.slice (.int .u32)) .unit))
abbrev Zy58_4:Ty:=(.pair (.slice (.pair (.int .i64) (.pair (.slice (.int .u32)) .unit))) (.pair (.int .i64) (.pair (.int .i64) .unit)))
abbrev Zt58_5:Type:=Int×(Int×Unit)
abbrev Zt58_6:Type:=(List (Int×((List Int)×Unit)))
abbrev A_58:List Ty:=[(.pair (.pair (.slice (.int .u32)) (.pair (.slice (.int .i64)) (.pair (.int .i64) .unit))) (.pair (.int .i64) (.pair (.int .i64) .unit))),(.int .i64)]
abbrev R_58:List Ty:=[(.pair (.slice (.pair (.int .i64) (.pair (.slice (.int .u32)) .unit))) (.pair (.int .i64) (.pair (.int .i64) .unit)))]
noncomputable def sm_58:Nat->Option Summ:=smL [(49,s_49),(61,s_61),(82,s_82),(83,s_83),(100,s_100)]
noncomputable def T_58_101_1_0:PS:=⟨89,[(0,.yl 4 58 (.kc (.pair .junk (.pair .junk (.pair .junk (.pair .junk (.pair .junk (.pair .junk (.pair (.ptr 2 []) (.pair .junk (.pair .junk (.pair .junk (.pair .junk (.pair .junk (.pair .junk (.pair .junk (.pair .junk (.pair .junk (.pair .junk (.pair .junk (.pair .junk (.pair .junk (.pair .junk (.pair .junk (.pair .junk (.pair .junk (.pair .junk (.pair .junk (.pair .junk (.pair .junk (.pair .junk (.pair .junk (.pair .junk (.pair .junk (.pair .junk (.pair .junk (.pair .junk (.pair .junk (.pair .junk (.pair .junk (.pair .junk (.pair .junk (.pair .junk (.pair .junk (.pair .junk (.pure .unit PUnit.unit)))))))))))))))))))))))))))))))))))))))))))))),(1,.kc (.ptr 3 [])),(3,.hv (.int .i64)),(6,.hv (.int .i64)),(7,.kc (.ptr 5 []))],[.mem (.pr (.pr (.js (.int .u32)) (.pr (.js (.int .i64)) (.hv (.pair (.int .i64) .unit)))) (.hv Zy58_2)),.mem (.pr (.kc (.nil 59 Zy58_3)) (.hv Zy58_2)),.mem (.pr (.kc (.nil 59 Zy58_3)) (.hv Zy58_2)),.mem (.js (.int .u32)),.gh 0,.mem (.pr (.hv (.int .i64)) (.pr (.js (.int .u32)) (.kc (.pure .unit PUnit.unit))))],5⟩
inductive Sp.E_58_101_1_0 where
 |e0 (p0 p1:Int) (p2 p3:List Int) (p4:Int×Unit) (p5 p6 p7:Zt58_0) (p8:List Int) (p9:Int) (p10:List Int)
 |e1 (p0 p1:Int) (p2 p3:List Int) (p4:Int×Unit) (p5 p6 p7:Zt58_0) (p8:List Int) (p9:Int) (p10:List Int)
noncomputable def Sp.B_58_101_1_0{R:Type}(r:Option E_58_101_1_0)(k0 k1:Int->Int->List Int->List Int->(Int×Unit)->Zt58_0->Zt58_0->Zt58_0->List Int->Int->List Int->Option R):Option R:=match r with
 |none=>none
 |some (.e0 p0 p1 p2 p3 p4 p5 p6 p7 p8 p9 p10)=>k0 p0 p1 p2 p3 p4 p5 p6 p7 p8 p9 p10
 |some (.e1 p0 p1 p2 p3 p4 p5 p6 p7 p8 p9 p10)=>k1 p0 p1 p2 p3 p4 p5 p6 p7 p8 p9 p10
theorem Bn_58_101_1_0{A R:Type}{r:Option E_58_101_1_0}{f:A->Option R}{k0:Int->Int->List Int->List Int->(Int×Unit)->Zt58_0->Zt58_0->Zt58_0->List Int->Int->List Int->Option A}{k1:Int->Int->List Int->List Int->(Int×Unit)->Zt58_0->Zt58_0->Zt58_0->List Int->Int->List Int->Option A}{l0:Int->Int->List Int->List Int->(Int×Unit)->Zt58_0->Zt58_0->Zt58_0->List Int->Int->List Int->Option R}{l1:Int->Int->List Int->List Int->(Int×Unit)->Zt58_0->Zt58_0->Zt58_0->List Int->Int->List Int->Option R}(h0:∀p0 p1 p2 p3 p4 p5 p6 p7 p8 p9 p10,(k0 p0 p1 p2 p3 p4 p5 p6 p7 p8 p9 p10).bind f=l0 p0 p1 p2 p3 p4 p5 p6 p7 p8 p9 p10)(h1:∀p0 p1 p2 p3 p4 p5 p6 p7 p8 p9 p10,(k1 p0 p1 p2 p3 p4 p5 p6 p7 p8 p9 p10).bind f=l1 p0 p1 p2 p3 p4 p5 p6 p7 p8 p9 p10):(B_58_101_1_0 r k0 k1).bind f=B_58_101_1_0 r l0 l1:=by
 cases r with
 |none=>rfl
 |some e=>cases e<;>first|apply h0|apply h1
noncomputable def Y_58_101_1_0{R:Type}(k:Ex->St->Option R):E_58_101_1_0->Option R
 | .e0 p0 p1 p2 p3 p4 p5 p6 p7 p8 p9 p10=>k Ex.normal (sx 89 [(0,CV.yld 4 58 (CV.pair CV.junk (CV.pair CV.junk (CV.pair CV.junk (CV.pair CV.junk (CV.pair CV.junk (CV.pair CV.junk (CV.pair (CV.ptr 2 []) (CV.pair CV.junk (CV.pair CV.junk (CV.pair CV.junk (CV.pair CV.junk (CV.pair CV.junk (CV.pair CV.junk (CV.pair CV.junk (CV.pair CV.junk (CV.pair CV.junk (CV.pair CV.junk (CV.pair CV.junk (CV.pair CV.junk (CV.pair CV.junk (CV.pair CV.junk (CV.pair CV.junk (CV.pair CV.junk (CV.pair CV.junk (CV.pair CV.junk (CV.pair CV.junk (CV.pair CV.junk (CV.pair CV.junk (CV.pair CV.junk (CV.pair CV.junk (CV.pair CV.junk (CV.pair CV.junk (CV.pair CV.junk (CV.pair CV.junk (CV.pair CV.junk (CV.pair CV.junk (CV.pair CV.junk (CV.pair CV.junk (CV.pair CV.junk (CV.pair CV.junk (CV.pair CV.junk (CV.pair CV.junk (CV.pair CV.junk (CV.pure Ty.unit PUnit.unit))))))))))))))))))))))))))))))))))))))))))))),(1,CV.ptr 3 []),(3,CV.int i64 (wrap i64 (p0+wrap i64 (p1+2)))),(6,CV.int i64 p1),(7,CV.ptr 5 []),(80,CV.int i64 p0),(81,CV.int i64 p1),(82,CV.int i64 (wrap i64 (p1+2))),(83,CV.int i64 (wrap i64 (p0+wrap i64 (p1+2)))),(84,CV.yld 4 58 (CV.pair CV.junk (CV.pair CV.junk (CV.pair CV.junk (CV.pair CV.junk (CV.pair CV.junk (CV.pair CV.junk (CV.pair (CV.ptr 2 []) (CV.pair CV.junk (CV.pair CV.junk (CV.pair CV.junk (CV.pair CV.junk (CV.pair CV.junk (CV.pair CV.junk (CV.pair CV.junk (CV.pair CV.junk (CV.pair CV.junk (CV.pair CV.junk (CV.pair CV.junk (CV.pair CV.junk (CV.pair CV.junk (CV.pair CV.junk (CV.pair CV.junk (CV.pair CV.junk (CV.pair CV.junk (CV.pair CV.junk (CV.pair CV.junk (CV.pair CV.junk (CV.pair CV.junk (CV.pair CV.junk (CV.pair CV.junk (CV.pair CV.junk (CV.pair CV.junk (CV.pair CV.junk (CV.pair CV.junk (CV.pair CV.junk (CV.pair CV.junk (CV.pair CV.junk (CV.pair CV.junk (CV.pair CV.junk (CV.pair CV.junk (CV.pair CV.junk (CV.pair CV.junk (CV.pair CV.junk (CV.pure Ty.unit PUnit.unit))))))))))))))))))))))))))))))))))))))))))))),(85,CV.int i64 (wrap i64 (p0+wrap i64 (p1+2)))),(86,CV.pair (CV.int i64 p9) (CV.pair (CV.jsl (Ty.int u32) p10) (CV.pure Ty.unit PUnit.unit))),(87,CV.bool true),(88,CV.bool false)] [Blk.mem (CV.pair (CV.pair (CV.jsl (Ty.int u32) p2) (CV.pair (CV.jsl (Ty.int i64) p3) (CV.pure (Ty.pair (Ty.int i64) Ty.unit) p4))) (CV.pure (Ty.pair (Ty.int i64) (Ty.pair (Ty.int i64) Ty.unit)) p5)),Blk.mem (CV.pair (CV.nil 59 (Ty.pair (Ty.int i64) (Ty.pair (Ty.slice (Ty.int u32)) Ty.unit))) (CV.pure (Ty.pair (Ty.int i64) (Ty.pair (Ty.int i64) Ty.unit)) p6)),Blk.mem (CV.pair (CV.whole 6) (CV.pure (Ty.pair (Ty.int i64) (Ty.pair (Ty.int i64) Ty.unit)) ((wrap i64 (p0+wrap i64 (p1+2)),p7.2):(Zt58_5)))),Blk.mem (CV.jsl (Ty.int u32) p8),Blk.ghost 0,Blk.mem (CV.pair (CV.int i64 p9) (CV.pair (CV.jsl (Ty.int u32) p10) (CV.pure Ty.unit PUnit.unit))),Blk.vec 59 (Ty.pair (Ty.int i64) (Ty.pair (Ty.slice (Ty.int u32)) Ty.unit)) (((v_61 [] p9 p10).1):Zt58_6)] 5)
 | .e1 p0 p1 p2 p3 p4 p5 p6 p7 p8 p9 p10=>k Ex.normal (sx 89 [(0,CV.yld 4 58 (CV.pair CV.junk (CV.pair CV.junk (CV.pair CV.junk (CV.pair CV.junk (CV.pair CV.junk (CV.pair CV.junk (CV.pair (CV.ptr 2 []) (CV.pair CV.junk (CV.pair CV.junk (CV.pair CV.junk (CV.pair CV.junk (CV.pair CV.junk (CV.pair CV.junk (CV.pair CV.junk (CV.pair CV.junk (CV.pair CV.junk (CV.pair CV.junk (CV.pair CV.junk (CV.pair CV.junk (CV.pair CV.junk (CV.pair CV.junk (CV.pair CV.junk (CV.pair CV.junk (CV.pair CV.junk (CV.pair CV.junk (CV.pair CV.junk (CV.pair CV.junk (CV.pair CV.junk (CV.pair CV.junk (CV.pair CV.junk (CV.pair CV.junk (CV.pair CV.junk (CV.pair CV.junk (CV.pair CV.junk (CV.pair CV.junk (CV.pair CV.junk (CV.pair CV.junk (CV.pair CV.junk (CV.pair CV.junk (CV.pair CV.junk (CV.pair CV.junk (CV.pair CV.junk (CV.pair CV.junk (CV.pure Ty.unit PUnit.unit))))))))))))))))))))))))))))))))))))))))))))),(1,CV.ptr 3 []),(3,CV.int i64 (wrap i64 (p0+wrap i64 (p1+2)))),(6,CV.int i64 p1),(7,CV.ptr 5 []),(80,CV.int i64 p0),(81,CV.int i64 p1),(82,CV.int i64 (wrap i64 (p1+2))),(83,CV.int i64 (wrap i64 (p0+wrap i64 (p1+2)))),(84,CV.yld 4 58 (CV.pair CV.junk (CV.pair CV.junk (CV.pair CV.junk (CV.pair CV.junk (CV.pair CV.junk (CV.pair CV.junk (CV.pair (CV.ptr 2 []) (CV.pair CV.junk (CV.pair CV.junk (CV.pair CV.junk (CV.pair CV.junk (CV.pair CV.junk (CV.pair CV.junk (CV.pair CV.junk (CV.pair CV.junk (CV.pair CV.junk (CV.pair CV.junk (CV.pair CV.junk (CV.pair CV.junk (CV.pair CV.junk (CV.pair CV.junk (CV.pair CV.junk (CV.pair CV.junk (CV.pair CV.junk (CV.pair CV.junk (CV.pair CV.junk (CV.pair CV.junk (CV.pair CV.junk (CV.pair CV.junk (CV.pair CV.junk (CV.pair CV.junk (CV.pair CV.junk (CV.pair CV.junk (CV.pair CV.junk (CV.pair CV.junk (CV.pair CV.junk (CV.pair CV.junk (CV.pair CV.junk (CV.pair CV.junk (CV.pair CV.junk (CV.pair CV.junk (CV.pair CV.junk (CV.pair CV.junk (CV.pure Ty.unit PUnit.unit))))))))))))))))))))))))))))))))))))))))))))),(85,CV.int i64 (wrap i64 (p0+wrap i64 (p1+2)))),(86,CV.pair (CV.int i64 p9) (CV.pair (CV.jsl (Ty.int u32) p10) (CV.pure Ty.unit PUnit.unit))),(87,CV.bool true),(88,CV.bool false)] [Blk.mem (CV.pair (CV.pair (CV.jsl (Ty.int u32) p2) (CV.pair (CV.jsl (Ty.int i64) p3) (CV.pure (Ty.pair (Ty.int i64) Ty.unit) p4))) (CV.pure (Ty.pair (Ty.int i64) (Ty.pair (Ty.int i64) Ty.unit)) p5)),Blk.mem (CV.pair (CV.nil 59 (Ty.pair (Ty.int i64) (Ty.pair (Ty.slice (Ty.int u32)) Ty.unit))) (CV.pure (Ty.pair (Ty.int i64) (Ty.pair (Ty.int i64) Ty.unit)) p6)),Blk.mem (CV.pair (CV.nil 59 (Ty.pair (Ty.int i64) (Ty.pair (Ty.slice (Ty.int u32)) Ty.unit))) (CV.pure (Ty.pair (Ty.int i64) (Ty.pair (Ty.int i64) Ty.unit)) ((wrap i64 (p0+wrap i64 (p1+2)),p7.2):(Zt58_5)))),Blk.mem (CV.jsl (Ty.int u32) p8),Blk.ghost 0,Blk.mem (CV.pair (CV.int i64 p9) (CV.pair (CV.jsl (Ty.int u32) p10) (CV.pure Ty.unit PUnit.unit)))] 5)
noncomputable def Sp.S_58_101_1_0{R:Type}(k:E_58_101_1_0->Option R)(p0 p1:Int)(p2 p3:List Int)(p4:Int×Unit)(p5 p6 p7:Int×Int×Unit)(p8:List Int)(p9:Int)(p10:List Int):Option R:=
 bif decide (p9>=0)then gd (p_61 [] p9 p10) (k (E_58_101_1_0.e0 p0 p1 p2 p3 p4 p5 p6 p7 p8 p9 p10))else k (E_58_101_1_0.e1 p0 p1 p2 p3 p4 p5 p6 p7 p8 p9 p10)
noncomputable def Sp.J_58_101_1_0(p0 p1:Int)(p2 p3:List Int)(p4:Int×Unit)(p5 p6 p7:Int×Int×Unit)(p8:List Int)(p9:Int)(p10:List Int):Option E_58_101_1_0:=S_58_101_1_0 some p0 p1 p2 p3 p4 p5 p6 p7 p8 p9 p10
noncomputable def O_58_101_1_0{R:Type}:Orc R:=orL T_58_101_1_0 (fun a=>J_58_101_1_0 a.1 a.2.1 a.2.2.1 a.2.2.2.1 a.2.2.2.2.1 a.2.2.2.2.2.1 a.2.2.2.2.2.2.1 a.2.2.2.2.2.2.2.1 a.2.2.2.2.2.2.2.2.1 a.2.2.2.2.2.2.2.2.2.1 a.2.2.2.2.2.2.2.2.2.2.1) Y_58_101_1_0
theorem OK_58_101_1_0{R:Type}:okF (R:=R) sm_58 2 (ni (nf 101 0) 0) O_58_101_1_0:=jp noO_ok (os:=[]) trivial T_58_101_1_0 (fun R k a=>S_58_101_1_0 k a.1 a.2.1 a.2.2.1 a.2.2.2.1 a.2.2.2.2.1 a.2.2.2.2.2.1 a.2.2.2.2.2.2.1 a.2.2.2.2.2.2.2.1 a.2.2.2.2.2.2.2.2.1 a.2.2.2.2.2.2.2.2.2.1 a.2.2.2.2.2.2.2.2.2.2.1) Y_58_101_1_0 (fun k a=>by kernel_rfl) (fun Y a=>by
 unfold S_58_101_1_0
 repeat' first|apply gdN|apply condN|rfl) (ok0 _)
noncomputable def T_58_101_1_1:PS:=⟨89,[(0,.yl 4 58 (.kc (.pair .junk (.pair .junk (.pair .junk (.pair .junk (.pair .junk (.pair .junk (.pair (.ptr 2 []) (.pair .junk (.pair .junk (.pair .junk (.pair .junk (.pair .junk (.pair .junk (.pair .junk (.pair .junk (.pair .junk (.pair .junk (.pair .junk (.pair .junk (.pair .junk (.pair .junk (.pair .junk (.pair .junk (.pair .junk (.pair .junk (.pair .junk (.pair .junk (.pair .junk (.pair .junk (.pair .junk (.pair .junk (.pair .junk (.pair .junk (.pair .junk (.pair .junk (.pair .junk (.pair .junk (.pair .junk (.pair .junk (.pair .junk (.pair .junk (.pair .junk (.pair .junk (.pure .unit PUnit.unit)))))))))))))))))))))))))))))))))))))))))))))),(1,.kc (.ptr 3 [])),(3,.hv (.int .i64)),(6,.hv (.int .i64)),(7,.kc (.ptr 5 []))],[.mem (.pr (.pr (.js (.int .u32)) (.pr (.js (.int .i64)) (.hv (.pair (.int .i64) .unit)))) (.hv Zy58_2)),.mem (.pr (.kc (.nil 59 Zy58_3)) (.hv Zy58_2)),.mem (.pr (.kc (.nil 59 Zy58_3)) (.hv Zy58_2)),.mem (.js (.int .u32)),.gh 0,.mem (.pr (.hv (.int .i64)) (.kc (.pair (.whole 6) (.pure .unit PUnit.unit)))),.vec 26 (.int .u32)],5⟩
inductive Sp.E_58_101_1_1 where
 |e0 (p0 p1:Int) (p2 p3:List Int) (p4:Int×Unit) (p5 p6 p7:Zt58_0) (p8:List Int) (p9:Int) (p10:List Int)
 |e1 (p0 p1:Int) (p2 p3:List Int) (p4:Int×Unit) (p5 p6 p7:Zt58_0) (p8:List Int) (p9:Int) (p10:List Int)
noncomputable def Sp.B_58_101_1_1{R:Type}(r:Option E_58_101_1_1)(k0 k1:Int->Int->List Int->List Int->(Int×Unit)->Zt58_0->Zt58_0->Zt58_0->List Int->Int->List Int->Option R):Option R:=match r with
 |none=>none
 |some (.e0 p0 p1 p2 p3 p4 p5 p6 p7 p8 p9 p10)=>k0 p0 p1 p2 p3 p4 p5 p6 p7 p8 p9 p10
 |some (.e1 p0 p1 p2 p3 p4 p5 p6 p7 p8 p9 p10)=>k1 p0 p1 p2 p3 p4 p5 p6 p7 p8 p9 p10
theorem Bn_58_101_1_1{A R:Type}{r:Option E_58_101_1_1}{f:A->Option R}{k0:Int->Int->List Int->List Int->(Int×Unit)->Zt58_0->Zt58_0->Zt58_0->List Int->Int->List Int->Option A}{k1:Int->Int->List Int->List Int->(Int×Unit)->Zt58_0->Zt58_0->Zt58_0->List Int->Int->List Int->Option A}{l0:Int->Int->List Int->List Int->(Int×Unit)->Zt58_0->Zt58_0->Zt58_0->List Int->Int->List Int->Option R}{l1:Int->Int->List Int->List Int->(Int×Unit)->Zt58_0->Zt58_0->Zt58_0->List Int->Int->List Int->Option R}(h0:∀p0 p1 p2 p3 p4 p5 p6 p7 p8 p9 p10,(k0 p0 p1 p2 p3 p4 p5 p6 p7 p8 p9 p10).bind f=l0 p0 p1 p2 p3 p4 p5 p6 p7 p8 p9 p10)(h1:∀p0 p1 p2 p3 p4 p5 p6 p7 p8 p9 p10,(k1 p0 p1 p2 p3 p4 p5 p6 p7 p8 p9 p10).bind f=l1 p0 p1 p2 p3 p4 p5 p6 p7 p8 p9 p10):(B_58_101_1_1 r k0 k1).bind f=B_58_101_1_1 r l0 l1:=by
 cases r with
 |none=>rfl
 |some e=>cases e<;>first|apply h0|apply h1
noncomputable def Y_58_101_1_1{R:Type}(k:Ex->St->Option R):E_58_101_1_1->Option R
 | .e0 p0 p1 p2 p3 p4 p5 p6 p7 p8 p9 p10=>k Ex.normal (sx 89 [(0,CV.yld 4 58 (CV.pair CV.junk (CV.pair CV.junk (CV.pair CV.junk (CV.pair CV.junk (CV.pair CV.junk (CV.pair CV.junk (CV.pair (CV.ptr 2 []) (CV.pair CV.junk (CV.pair CV.junk (CV.pair CV.junk (CV.pair CV.junk (CV.pair CV.junk (CV.pair CV.junk (CV.pair CV.junk (CV.pair CV.junk (CV.pair CV.junk (CV.pair CV.junk (CV.pair CV.junk (CV.pair CV.junk (CV.pair CV.junk (CV.pair CV.junk (CV.pair CV.junk (CV.pair CV.junk (CV.pair CV.junk (CV.pair CV.junk (CV.pair CV.junk (CV.pair CV.junk (CV.pair CV.junk (CV.pair CV.junk (CV.pair CV.junk (CV.pair CV.junk (CV.pair CV.junk (CV.pair CV.junk (CV.pair CV.junk (CV.pair CV.junk (CV.pair CV.junk (CV.pair CV.junk (CV.pair CV.junk (CV.pair CV.junk (CV.pair CV.junk (CV.pair CV.junk (CV.pair CV.junk (CV.pair CV.junk (CV.pure Ty.unit PUnit.unit))))))))))))))))))))))))))))))))))))))))))))),(1,CV.ptr 3 []),(3,CV.int i64 (wrap i64 (p0+wrap i64 (p1+2)))),(6,CV.int i64 p1),(7,CV.ptr 5 []),(80,CV.int i64 p0),(81,CV.int i64 p1),(82,CV.int i64 (wrap i64 (p1+2))),(83,CV.int i64 (wrap i64 (p0+wrap i64 (p1+2)))),(84,CV.yld 4 58 (CV.pair CV.junk (CV.pair CV.junk (CV.pair CV.junk (CV.pair CV.junk (CV.pair CV.junk (CV.pair CV.junk (CV.pair (CV.ptr 2 []) (CV.pair CV.junk (CV.pair CV.junk (CV.pair CV.junk (CV.pair CV.junk (CV.pair CV.junk (CV.pair CV.junk (CV.pair CV.junk (CV.pair CV.junk (CV.pair CV.junk (CV.pair CV.junk (CV.pair CV.junk (CV.pair CV.junk (CV.pair CV.junk (CV.pair CV.junk (CV.pair CV.junk (CV.pair CV.junk (CV.pair CV.junk (CV.pair CV.junk (CV.pair CV.junk (CV.pair CV.junk (CV.pair CV.junk (CV.pair CV.junk (CV.pair CV.junk (CV.pair CV.junk (CV.pair CV.junk (CV.pair CV.junk (CV.pair CV.junk (CV.pair CV.junk (CV.pair CV.junk (CV.pair CV.junk (CV.pair CV.junk (CV.pair CV.junk (CV.pair CV.junk (CV.pair CV.junk (CV.pair CV.junk (CV.pair CV.junk (CV.pure Ty.unit PUnit.unit))))))))))))))))))))))))))))))))))))))))))))),(85,CV.int i64 (wrap i64 (p0+wrap i64 (p1+2)))),(86,CV.pair (CV.int i64 p9) (CV.pair (CV.whole 6) (CV.pure Ty.unit PUnit.unit))),(87,CV.bool true),(88,CV.bool false)] [Blk.mem (CV.pair (CV.pair (CV.jsl (Ty.int u32) p2) (CV.pair (CV.jsl (Ty.int i64) p3) (CV.pure (Ty.pair (Ty.int i64) Ty.unit) p4))) (CV.pure (Ty.pair (Ty.int i64) (Ty.pair (Ty.int i64) Ty.unit)) p5)),Blk.mem (CV.pair (CV.nil 59 (Ty.pair (Ty.int i64) (Ty.pair (Ty.slice (Ty.int u32)) Ty.unit))) (CV.pure (Ty.pair (Ty.int i64) (Ty.pair (Ty.int i64) Ty.unit)) p6)),Blk.mem (CV.pair (CV.whole 7) (CV.pure (Ty.pair (Ty.int i64) (Ty.pair (Ty.int i64) Ty.unit)) ((wrap i64 (p0+wrap i64 (p1+2)),p7.2):(Zt58_5)))),Blk.mem (CV.jsl (Ty.int u32) p8),Blk.ghost 0,Blk.mem (CV.pair (CV.int i64 p9) (CV.pair (CV.whole 6) (CV.pure Ty.unit PUnit.unit))),Blk.fvec 26 (Ty.int u32) p10,Blk.vec 59 (Ty.pair (Ty.int i64) (Ty.pair (Ty.slice (Ty.int u32)) Ty.unit)) (((v_61 [] p9 p10).1):Zt58_6)] 5)
 | .e1 p0 p1 p2 p3 p4 p5 p6 p7 p8 p9 p10=>k Ex.normal (sx 89 [(0,CV.yld 4 58 (CV.pair CV.junk (CV.pair CV.junk (CV.pair CV.junk (CV.pair CV.junk (CV.pair CV.junk (CV.pair CV.junk (CV.pair (CV.ptr 2 []) (CV.pair CV.junk (CV.pair CV.junk (CV.pair CV.junk (CV.pair CV.junk (CV.pair CV.junk (CV.pair CV.junk (CV.pair CV.junk (CV.pair CV.junk (CV.pair CV.junk (CV.pair CV.junk (CV.pair CV.junk (CV.pair CV.junk (CV.pair CV.junk (CV.pair CV.junk (CV.pair CV.junk (CV.pair CV.junk (CV.pair CV.junk (CV.pair CV.junk (CV.pair CV.junk (CV.pair CV.junk (CV.pair CV.junk (CV.pair CV.junk (CV.pair CV.junk (CV.pair CV.junk (CV.pair CV.junk (CV.pair CV.junk (CV.pair CV.junk (CV.pair CV.junk (CV.pair CV.junk (CV.pair CV.junk (CV.pair CV.junk (CV.pair CV.junk (CV.pair CV.junk (CV.pair CV.junk (CV.pair CV.junk (CV.pair CV.junk (CV.pure Ty.unit PUnit.unit))))))))))))))))))))))))))))))))))))))))))))),(1,CV.ptr 3 []),(3,CV.int i64 (wrap i64 (p0+wrap i64 (p1+2)))),(6,CV.int i64 p1),(7,CV.ptr 5 []),(80,CV.int i64 p0),(81,CV.int i64 p1),(82,CV.int i64 (wrap i64 (p1+2))),(83,CV.int i64 (wrap i64 (p0+wrap i64 (p1+2)))),(84,CV.yld 4 58 (CV.pair CV.junk (CV.pair CV.junk (CV.pair CV.junk (CV.pair CV.junk (CV.pair CV.junk (CV.pair CV.junk (CV.pair (CV.ptr 2 []) (CV.pair CV.junk (CV.pair CV.junk (CV.pair CV.junk (CV.pair CV.junk (CV.pair CV.junk (CV.pair CV.junk (CV.pair CV.junk (CV.pair CV.junk (CV.pair CV.junk (CV.pair CV.junk (CV.pair CV.junk (CV.pair CV.junk (CV.pair CV.junk (CV.pair CV.junk (CV.pair CV.junk (CV.pair CV.junk (CV.pair CV.junk (CV.pair CV.junk (CV.pair CV.junk (CV.pair CV.junk (CV.pair CV.junk (CV.pair CV.junk (CV.pair CV.junk (CV.pair CV.junk (CV.pair CV.junk (CV.pair CV.junk (CV.pair CV.junk (CV.pair CV.junk (CV.pair CV.junk (CV.pair CV.junk (CV.pair CV.junk (CV.pair CV.junk (CV.pair CV.junk (CV.pair CV.junk (CV.pair CV.junk (CV.pair CV.junk (CV.pure Ty.unit PUnit.unit))))))))))))))))))))))))))))))))))))))))))))),(85,CV.int i64 (wrap i64 (p0+wrap i64 (p1+2)))),(86,CV.pair (CV.int i64 p9) (CV.pair (CV.whole 6) (CV.pure Ty.unit PUnit.unit))),(87,CV.bool true),(88,CV.bool false)] [Blk.mem (CV.pair (CV.pair (CV.jsl (Ty.int u32) p2) (CV.pair (CV.jsl (Ty.int i64) p3) (CV.pure (Ty.pair (Ty.int i64) Ty.unit) p4))) (CV.pure (Ty.pair (Ty.int i64) (Ty.pair (Ty.int i64) Ty.unit)) p5)),Blk.mem (CV.pair (CV.nil 59 (Ty.pair (Ty.int i64) (Ty.pair (Ty.slice (Ty.int u32)) Ty.unit))) (CV.pure (Ty.pair (Ty.int i64) (Ty.pair (Ty.int i64) Ty.unit)) p6)),Blk.mem (CV.pair (CV.nil 59 (Ty.pair (Ty.int i64) (Ty.pair (Ty.slice (Ty.int u32)) Ty.unit))) (CV.pure (Ty.pair (Ty.int i64) (Ty.pair (Ty.int i64) Ty.unit)) ((wrap i64 (p0+wrap i64 (p1+2)),p7.2):(Zt58_5)))),Blk.mem (CV.jsl (Ty.int u32) p8),Blk.ghost 0,Blk.mem (CV.pair (CV.int i64 p9) (CV.pair (CV.whole 6) (CV.pure Ty.unit PUnit.unit))),Blk.vec 26 (Ty.int u32) p10] 5)
noncomputable def Sp.S_58_101_1_1{R:Type}(k:E_58_101_1_1->Option R)(p0 p1:Int)(p2 p3:List Int)(p4:Int×Unit)(p5 p6 p7:Int×Int×Unit)(p8:List Int)(p9:Int)(p10:List Int):Option R:=
 bif decide (p9>=0)then gd (p_61 [] p9 p10) (k (E_58_101_1_1.e0 p0 p1 p2 p3 p4 p5 p6 p7 p8 p9 p10))else k (E_58_101_1_1.e1 p0 p1 p2 p3 p4 p5 p6 p7 p8 p9 p10)
noncomputable def Sp.J_58_101_1_1(p0 p1:Int)(p2 p3:List Int)(p4:Int×Unit)(p5 p6 p7:Int×Int×Unit)(p8:List Int)(p9:Int)(p10:List Int):Option E_58_101_1_1:=S_58_101_1_1 some p0 p1 p2 p3 p4 p5 p6 p7 p8 p9 p10
noncomputable def O_58_101_1_1{R:Type}:Orc R:=orL T_58_101_1_1 (fun a=>J_58_101_1_1 a.1 a.2.1 a.2.2.1 a.2.2.2.1 a.2.2.2.2.1 a.2.2.2.2.2.1 a.2.2.2.2.2.2.1 a.2.2.2.2.2.2.2.1 a.2.2.2.2.2.2.2.2.1 a.2.2.2.2.2.2.2.2.2.1 a.2.2.2.2.2.2.2.2.2.2.1) Y_58_101_1_1 O_58_101_1_0
theorem OK_58_101_1_1{R:Type}:okF (R:=R) sm_58 2 (ni (nf 101 0) 0) O_58_101_1_1:=jp noO_ok (os:=[]) trivial T_58_101_1_1 (fun R k a=>S_58_101_1_1 k a.1 a.2.1 a.2.2.1 a.2.2.2.1 a.2.2.2.2.1 a.2.2.2.2.2.1 a.2.2.2.2.2.2.1 a.2.2.2.2.2.2.2.1 a.2.2.2.2.2.2.2.2.1 a.2.2.2.2.2.2.2.2.2.1 a.2.2.2.2.2.2.2.2.2.2.1) Y_58_101_1_1 (fun k a=>by kernel_rfl) (fun Y a=>by
 unfold S_58_101_1_1
 repeat' first|apply gdN|apply condN|rfl) OK_58_101_1_0
noncomputable def T_58_101_1_2:PS:=⟨89,[(0,.yl 4 58 (.kc (.pair .junk (.pair .junk (.pair .junk (.pair .junk (.pair .junk (.pair .junk (.pair (.ptr 2 []) (.pair .junk (.pair .junk (.pair .junk (.pair .junk (.pair .junk (.pair .junk (.pair .junk (.pair .junk (.pair .junk (.pair .junk (.pair .junk (.pair .junk (.pair .junk (.pair .junk (.pair .junk (.pair .junk (.pair .junk (.pair .junk (.pair .junk (.pair .junk (.pair .junk (.pair .junk (.pair .junk (.pair .junk (.pair .junk (.pair .junk (.pair .junk (.pair .junk (.pair .junk (.pair .junk (.pair .junk (.pair .junk (.pair .junk (.pair .junk (.pair .junk (.pair .junk (.pure .unit PUnit.unit)))))))))))))))))))))))))))))))))))))))))))))),(1,.kc (.ptr 3 [])),(3,.hv (.int .i64)),(6,.hv (.int .i64)),(7,.kc (.ptr 5 []))],[.mem (.pr (.pr (.js (.int .u32)) (.pr (.js (.int .i64)) (.hv (.pair (.int .i64) .unit)))) (.hv Zy58_2)),.mem (.pr (.kc (.nil 59 Zy58_3)) (.hv Zy58_2)),.mem (.pr (.kc (.whole 6)) (.hv Zy58_2)),.mem (.js (.int .u32)),.gh 0,.mem (.pr (.hv (.int .i64)) (.pr (.js (.int .u32)) (.kc (.pure .unit PUnit.unit)))),.vec 59 Zy58_3],5⟩
inductive Sp.E_58_101_1_2 where
 |e0 (p0 p1:Int) (p2 p3:List Int) (p4:Int×Unit) (p5 p6 p7:Zt58_0) (p8:List Int) (p9:Int) (p10:List Int) (p11:Zt58_1)
 |e1 (p0 p1:Int) (p2 p3:List Int) (p4:Int×Unit) (p5 p6 p7:Zt58_0) (p8:List Int) (p9:Int) (p10:List Int) (p11:Zt58_1)
noncomputable def Sp.B_58_101_1_2{R:Type}(r:Option E_58_101_1_2)(k0 k1:Int->Int->List Int->List Int->(Int×Unit)->Zt58_0->Zt58_0->Zt58_0->List Int->Int->List Int->Zt58_1->Option R):Option R:=match r with
 |none=>none
 |some (.e0 p0 p1 p2 p3 p4 p5 p6 p7 p8 p9 p10 p11)=>k0 p0 p1 p2 p3 p4 p5 p6 p7 p8 p9 p10 p11
 |some (.e1 p0 p1 p2 p3 p4 p5 p6 p7 p8 p9 p10 p11)=>k1 p0 p1 p2 p3 p4 p5 p6 p7 p8 p9 p10 p11
theorem Bn_58_101_1_2{A R:Type}{r:Option E_58_101_1_2}{f:A->Option R}{k0:Int->Int->List Int->List Int->(Int×Unit)->Zt58_0->Zt58_0->Zt58_0->List Int->Int->List Int->Zt58_1->Option A}{k1:Int->Int->List Int->List Int->(Int×Unit)->Zt58_0->Zt58_0->Zt58_0->List Int->Int->List Int->Zt58_1->Option A}{l0:Int->Int->List Int->List Int->(Int×Unit)->Zt58_0->Zt58_0->Zt58_0->List Int->Int->List Int->Zt58_1->Option R}{l1:Int->Int->List Int->List Int->(Int×Unit)->Zt58_0->Zt58_0->Zt58_0->List Int->Int->List Int->Zt58_1->Option R}(h0:∀p0 p1 p2 p3 p4 p5 p6 p7 p8 p9 p10 p11,(k0 p0 p1 p2 p3 p4 p5 p6 p7 p8 p9 p10 p11).bind f=l0 p0 p1 p2 p3 p4 p5 p6 p7 p8 p9 p10 p11)(h1:∀p0 p1 p2 p3 p4 p5 p6 p7 p8 p9 p10 p11,(k1 p0 p1 p2 p3 p4 p5 p6 p7 p8 p9 p10 p11).bind f=l1 p0 p1 p2 p3 p4 p5 p6 p7 p8 p9 p10 p11):(B_58_101_1_2 r k0 k1).bind f=B_58_101_1_2 r l0 l1:=by
 cases r with
 |none=>rfl
 |some e=>cases e<;>first|apply h0|apply h1
noncomputable def Y_58_101_1_2{R:Type}(k:Ex->St->Option R):E_58_101_1_2->Option R
 | .e0 p0 p1 p2 p3 p4 p5 p6 p7 p8 p9 p10 p11=>k Ex.normal (sx 89 [(0,CV.yld 4 58 (CV.pair CV.junk (CV.pair CV.junk (CV.pair CV.junk (CV.pair CV.junk (CV.pair CV.junk (CV.pair CV.junk (CV.pair (CV.ptr 2 []) (CV.pair CV.junk (CV.pair CV.junk (CV.pair CV.junk (CV.pair CV.junk (CV.pair CV.junk (CV.pair CV.junk (CV.pair CV.junk (CV.pair CV.junk (CV.pair CV.junk (CV.pair CV.junk (CV.pair CV.junk (CV.pair CV.junk (CV.pair CV.junk (CV.pair CV.junk (CV.pair CV.junk (CV.pair CV.junk (CV.pair CV.junk (CV.pair CV.junk (CV.pair CV.junk (CV.pair CV.junk (CV.pair CV.junk (CV.pair CV.junk (CV.pair CV.junk (CV.pair CV.junk (CV.pair CV.junk (CV.pair CV.junk (CV.pair CV.junk (CV.pair CV.junk (CV.pair CV.junk (CV.pair CV.junk (CV.pair CV.junk (CV.pair CV.junk (CV.pair CV.junk (CV.pair CV.junk (CV.pair CV.junk (CV.pair CV.junk (CV.pure Ty.unit PUnit.unit))))))))))))))))))))))))))))))))))))))))))))),(1,CV.ptr 3 []),(3,CV.int i64 (wrap i64 (p0+wrap i64 (p1+2)))),(6,CV.int i64 p1),(7,CV.ptr 5 []),(80,CV.int i64 p0),(81,CV.int i64 p1),(82,CV.int i64 (wrap i64 (p1+2))),(83,CV.int i64 (wrap i64 (p0+wrap i64 (p1+2)))),(84,CV.yld 4 58 (CV.pair CV.junk (CV.pair CV.junk (CV.pair CV.junk (CV.pair CV.junk (CV.pair CV.junk (CV.pair CV.junk (CV.pair (CV.ptr 2 []) (CV.pair CV.junk (CV.pair CV.junk (CV.pair CV.junk (CV.pair CV.junk (CV.pair CV.junk (CV.pair CV.junk (CV.pair CV.junk (CV.pair CV.junk (CV.pair CV.junk (CV.pair CV.junk (CV.pair CV.junk (CV.pair CV.junk (CV.pair CV.junk (CV.pair CV.junk (CV.pair CV.junk (CV.pair CV.junk (CV.pair CV.junk (CV.pair CV.junk (CV.pair CV.junk (CV.pair CV.junk (CV.pair CV.junk (CV.pair CV.junk (CV.pair CV.junk (CV.pair CV.junk (CV.pair CV.junk (CV.pair CV.junk (CV.pair CV.junk (CV.pair CV.junk (CV.pair CV.junk (CV.pair CV.junk (CV.pair CV.junk (CV.pair CV.junk (CV.pair CV.junk (CV.pair CV.junk (CV.pair CV.junk (CV.pair CV.junk (CV.pure Ty.unit PUnit.unit))))))))))))))))))))))))))))))))))))))))))))),(85,CV.int i64 (wrap i64 (p0+wrap i64 (p1+2)))),(86,CV.pair (CV.int i64 p9) (CV.pair (CV.jsl (Ty.int u32) p10) (CV.pure Ty.unit PUnit.unit))),(87,CV.bool true),(88,CV.bool false)] [Blk.mem (CV.pair (CV.pair (CV.jsl (Ty.int u32) p2) (CV.pair (CV.jsl (Ty.int i64) p3) (CV.pure (Ty.pair (Ty.int i64) Ty.unit) p4))) (CV.pure (Ty.pair (Ty.int i64) (Ty.pair (Ty.int i64) Ty.unit)) p5)),Blk.mem (CV.pair (CV.nil 59 (Ty.pair (Ty.int i64) (Ty.pair (Ty.slice (Ty.int u32)) Ty.unit))) (CV.pure (Ty.pair (Ty.int i64) (Ty.pair (Ty.int i64) Ty.unit)) p6)),Blk.mem (CV.pair (CV.whole 7) (CV.pure (Ty.pair (Ty.int i64) (Ty.pair (Ty.int i64) Ty.unit)) ((wrap i64 (p0+wrap i64 (p1+2)),p7.2):(Zt58_5)))),Blk.mem (CV.jsl (Ty.int u32) p8),Blk.ghost 0,Blk.mem (CV.pair (CV.int i64 p9) (CV.pair (CV.jsl (Ty.int u32) p10) (CV.pure Ty.unit PUnit.unit))),Blk.dead,Blk.vec 59 (Ty.pair (Ty.int i64) (Ty.pair (Ty.slice (Ty.int u32)) Ty.unit)) (((v_61 p11 p9 p10).1):Zt58_6)] 5)
 | .e1 p0 p1 p2 p3 p4 p5 p6 p7 p8 p9 p10 p11=>k Ex.normal (sx 89 [(0,CV.yld 4 58 (CV.pair CV.junk (CV.pair CV.junk (CV.pair CV.junk (CV.pair CV.junk (CV.pair CV.junk (CV.pair CV.junk (CV.pair (CV.ptr 2 []) (CV.pair CV.junk (CV.pair CV.junk (CV.pair CV.junk (CV.pair CV.junk (CV.pair CV.junk (CV.pair CV.junk (CV.pair CV.junk (CV.pair CV.junk (CV.pair CV.junk (CV.pair CV.junk (CV.pair CV.junk (CV.pair CV.junk (CV.pair CV.junk (CV.pair CV.junk (CV.pair CV.junk (CV.pair CV.junk (CV.pair CV.junk (CV.pair CV.junk (CV.pair CV.junk (CV.pair CV.junk (CV.pair CV.junk (CV.pair CV.junk (CV.pair CV.junk (CV.pair CV.junk (CV.pair CV.junk (CV.pair CV.junk (CV.pair CV.junk (CV.pair CV.junk (CV.pair CV.junk (CV.pair CV.junk (CV.pair CV.junk (CV.pair CV.junk (CV.pair CV.junk (CV.pair CV.junk (CV.pair CV.junk (CV.pair CV.junk (CV.pure Ty.unit PUnit.unit))))))))))))))))))))))))))))))))))))))))))))),(1,CV.ptr 3 []),(3,CV.int i64 (wrap i64 (p0+wrap i64 (p1+2)))),(6,CV.int i64 p1),(7,CV.ptr 5 []),(80,CV.int i64 p0),(81,CV.int i64 p1),(82,CV.int i64 (wrap i64 (p1+2))),(83,CV.int i64 (wrap i64 (p0+wrap i64 (p1+2)))),(84,CV.yld 4 58 (CV.pair CV.junk (CV.pair CV.junk (CV.pair CV.junk (CV.pair CV.junk (CV.pair CV.junk (CV.pair CV.junk (CV.pair (CV.ptr 2 []) (CV.pair CV.junk (CV.pair CV.junk (CV.pair CV.junk (CV.pair CV.junk (CV.pair CV.junk (CV.pair CV.junk (CV.pair CV.junk (CV.pair CV.junk (CV.pair CV.junk (CV.pair CV.junk (CV.pair CV.junk (CV.pair CV.junk (CV.pair CV.junk (CV.pair CV.junk (CV.pair CV.junk (CV.pair CV.junk (CV.pair CV.junk (CV.pair CV.junk (CV.pair CV.junk (CV.pair CV.junk (CV.pair CV.junk (CV.pair CV.junk (CV.pair CV.junk (CV.pair CV.junk (CV.pair CV.junk (CV.pair CV.junk (CV.pair CV.junk (CV.pair CV.junk (CV.pair CV.junk (CV.pair CV.junk (CV.pair CV.junk (CV.pair CV.junk (CV.pair CV.junk (CV.pair CV.junk (CV.pair CV.junk (CV.pair CV.junk (CV.pure Ty.unit PUnit.unit))))))))))))))))))))))))))))))))))))))))))))),(85,CV.int i64 (wrap i64 (p0+wrap i64 (p1+2)))),(86,CV.pair (CV.int i64 p9) (CV.pair (CV.jsl (Ty.int u32) p10) (CV.pure Ty.unit PUnit.unit))),(87,CV.bool true),(88,CV.bool false)] [Blk.mem (CV.pair (CV.pair (CV.jsl (Ty.int u32) p2) (CV.pair (CV.jsl (Ty.int i64) p3) (CV.pure (Ty.pair (Ty.int i64) Ty.unit) p4))) (CV.pure (Ty.pair (Ty.int i64) (Ty.pair (Ty.int i64) Ty.unit)) p5)),Blk.mem (CV.pair (CV.nil 59 (Ty.pair (Ty.int i64) (Ty.pair (Ty.slice (Ty.int u32)) Ty.unit))) (CV.pure (Ty.pair (Ty.int i64) (Ty.pair (Ty.int i64) Ty.unit)) p6)),Blk.mem (CV.pair (CV.whole 6) (CV.pure (Ty.pair (Ty.int i64) (Ty.pair (Ty.int i64) Ty.unit)) ((wrap i64 (p0+wrap i64 (p1+2)),p7.2):(Zt58_5)))),Blk.mem (CV.jsl (Ty.int u32) p8),Blk.ghost 0,Blk.mem (CV.pair (CV.int i64 p9) (CV.pair (CV.jsl (Ty.int u32) p10) (CV.pure Ty.unit PUnit.unit))),Blk.vec 59 (Ty.pair (Ty.int i64) (Ty.pair (Ty.slice (Ty.int u32)) Ty.unit)) p11] 5)
noncomputable def Sp.S_58_101_1_2{R:Type}(k:E_58_101_1_2->Option R)(p0 p1:Int)(p2 p3:List Int)(p4:Int×Unit)(p5 p6 p7:Int×Int×Unit)(p8:List Int)(p9:Int)(p10:List Int)(p11:List (Int×List Int×Unit)):Option R:=
 bif decide (p9>=0)then gd (p_61 p11 p9 p10) (k (E_58_101_1_2.e0 p0 p1 p2 p3 p4 p5 p6 p7 p8 p9 p10 p11))else k (E_58_101_1_2.e1 p0 p1 p2 p3 p4 p5 p6 p7 p8 p9 p10 p11)
noncomputable def Sp.J_58_101_1_2(p0 p1:Int)(p2 p3:List Int)(p4:Int×Unit)(p5 p6 p7:Int×Int×Unit)(p8:List Int)(p9:Int)(p10:List Int)(p11:List (Int×List Int×Unit)):Option E_58_101_1_2:=S_58_101_1_2 some p0 p1 p2 p3 p4 p5 p6 p7 p8 p9 p10 p11
noncomputable def O_58_101_1_2{R:Type}:Orc R:=orL T_58_101_1_2 (fun a=>J_58_101_1_2 a.1 a.2.1 a.2.2.1 a.2.2.2.1 a.2.2.2.2.1 a.2.2.2.2.2.1 a.2.2.2.2.2.2.1 a.2.2.2.2.2.2.2.1 a.2.2.2.2.2.2.2.2.1 a.2.2.2.2.2.2.2.2.2.1 a.2.2.2.2.2.2.2.2.2.2.1 a.2.2.2.2.2.2.2.2.2.2.2.1) Y_58_101_1_2 O_58_101_1_1
theorem OK_58_101_1_2{R:Type}:okF (R:=R) sm_58 2 (ni (nf 101 0) 0) O_58_101_1_2:=jp noO_ok (os:=[]) trivial T_58_101_1_2 (fun R k a=>S_58_101_1_2 k a.1 a.2.1 a.2.2.1 a.2.2.2.1 a.2.2.2.2.1 a.2.2.2.2.2.1 a.2.2.2.2.2.2.1 a.2.2.2.2.2.2.2.1 a.2.2.2.2.2.2.2.2.1 a.2.2.2.2.2.2.2.2.2.1 a.2.2.2.2.2.2.2.2.2.2.1 a.2.2.2.2.2.2.2.2.2.2.2.1) Y_58_101_1_2 (fun k a=>by kernel_rfl) (fun Y a=>by
 unfold S_58_101_1_2
 repeat' first|apply gdN|apply condN|rfl) OK_58_101_1_1
noncomputable def T_58_101_1_3:PS:=⟨89,[(0,.yl 4 58 (.kc (.pair .junk (.pair .junk (.pair .junk (.pair .junk (.pair .junk (.pair .junk (.pair (.ptr 2 []) (.pair .junk (.pair .junk (.pair .junk (.pair .junk (.pair .junk (.pair .junk (.pair .junk (.pair .junk (.pair .junk (.pair .junk (.pair .junk (.pair .junk (.pair .junk (.pair .junk (.pair .junk (.pair .junk (.pair .junk (.pair .junk (.pair .junk (.pair .junk (.pair .junk (.pair .junk (.pair .junk (.pair .junk (.pair .junk (.pair .junk (.pair .junk (.pair .junk (.pair .junk (.pair .junk (.pair .junk (.pair .junk (.pair .junk (.pair .junk (.pair .junk (.pair .junk (.pure .unit PUnit.unit)))))))))))))))))))))))))))))))))))))))))))))),(1,.kc (.ptr 3 [])),(3,.hv (.int .i64)),(6,.hv (.int .i64)),(7,.kc (.ptr 5 []))],[.mem (.pr (.pr (.js (.int .u32)) (.pr (.js (.int .i64)) (.hv (.pair (.int .i64) .unit)))) (.hv Zy58_2)),.mem (.pr (.kc (.nil 59 Zy58_3)) (.hv Zy58_2)),.mem (.pr (.kc (.whole 7)) (.hv Zy58_2)),.mem (.js (.int .u32)),.gh 0,.mem (.pr (.hv (.int .i64)) (.kc (.pair (.whole 6) (.pure .unit PUnit.unit)))),.vec 26 (.int .u32),.vec 59 Zy58_3],5⟩
inductive Sp.E_58_101_1_3 where
 |e0 (p0 p1:Int) (p2 p3:List Int) (p4:Int×Unit) (p5 p6 p7:Zt58_0) (p8:List Int) (p9:Int) (p10:List Int) (p11:Zt58_1)
 |e1 (p0 p1:Int) (p2 p3:List Int) (p4:Int×Unit) (p5 p6 p7:Zt58_0) (p8:List Int) (p9:Int) (p10:List Int) (p11:Zt58_1)
noncomputable def Sp.B_58_101_1_3{R:Type}(r:Option E_58_101_1_3)(k0 k1:Int->Int->List Int->List Int->(Int×Unit)->Zt58_0->Zt58_0->Zt58_0->List Int->Int->List Int->Zt58_1->Option R):Option R:=match r with
 |none=>none
 |some (.e0 p0 p1 p2 p3 p4 p5 p6 p7 p8 p9 p10 p11)=>k0 p0 p1 p2 p3 p4 p5 p6 p7 p8 p9 p10 p11
 |some (.e1 p0 p1 p2 p3 p4 p5 p6 p7 p8 p9 p10 p11)=>k1 p0 p1 p2 p3 p4 p5 p6 p7 p8 p9 p10 p11
theorem Bn_58_101_1_3{A R:Type}{r:Option E_58_101_1_3}{f:A->Option R}{k0:Int->Int->List Int->List Int->(Int×Unit)->Zt58_0->Zt58_0->Zt58_0->List Int->Int->List Int->Zt58_1->Option A}{k1:Int->Int->List Int->List Int->(Int×Unit)->Zt58_0->Zt58_0->Zt58_0->List Int->Int->List Int->Zt58_1->Option A}{l0:Int->Int->List Int->List Int->(Int×Unit)->Zt58_0->Zt58_0->Zt58_0->List Int->Int->List Int->Zt58_1->Option R}{l1:Int->Int->List Int->List Int->(Int×Unit)->Zt58_0->Zt58_0->Zt58_0->List Int->Int->List Int->Zt58_1->Option R}(h0:∀p0 p1 p2 p3 p4 p5 p6 p7 p8 p9 p10 p11,(k0 p0 p1 p2 p3 p4 p5 p6 p7 p8 p9 p10 p11).bind f=l0 p0 p1 p2 p3 p4 p5 p6 p7 p8 p9 p10 p11)(h1:∀p0 p1 p2 p3 p4 p5 p6 p7 p8 p9 p10 p11,(k1 p0 p1 p2 p3 p4 p5 p6 p7 p8 p9 p10 p11).bind f=l1 p0 p1 p2 p3 p4 p5 p6 p7 p8 p9 p10 p11):(B_58_101_1_3 r k0 k1).bind f=B_58_101_1_3 r l0 l1:=by
 cases r with
 |none=>rfl
 |some e=>cases e<;>first|apply h0|apply h1
noncomputable def Y_58_101_1_3{R:Type}(k:Ex->St->Option R):E_58_101_1_3->Option R
 | .e0 p0 p1 p2 p3 p4 p5 p6 p7 p8 p9 p10 p11=>k Ex.normal (sx 89 [(0,CV.yld 4 58 (CV.pair CV.junk (CV.pair CV.junk (CV.pair CV.junk (CV.pair CV.junk (CV.pair CV.junk (CV.pair CV.junk (CV.pair (CV.ptr 2 []) (CV.pair CV.junk (CV.pair CV.junk (CV.pair CV.junk (CV.pair CV.junk (CV.pair CV.junk (CV.pair CV.junk (CV.pair CV.junk (CV.pair CV.junk (CV.pair CV.junk (CV.pair CV.junk (CV.pair CV.junk (CV.pair CV.junk (CV.pair CV.junk (CV.pair CV.junk (CV.pair CV.junk (CV.pair CV.junk (CV.pair CV.junk (CV.pair CV.junk (CV.pair CV.junk (CV.pair CV.junk (CV.pair CV.junk (CV.pair CV.junk (CV.pair CV.junk (CV.pair CV.junk (CV.pair CV.junk (CV.pair CV.junk (CV.pair CV.junk (CV.pair CV.junk (CV.pair CV.junk (CV.pair CV.junk (CV.pair CV.junk (CV.pair CV.junk (CV.pair CV.junk (CV.pair CV.junk (CV.pair CV.junk (CV.pair CV.junk (CV.pure Ty.unit PUnit.unit))))))))))))))))))))))))))))))))))))))))))))),(1,CV.ptr 3 []),(3,CV.int i64 (wrap i64 (p0+wrap i64 (p1+2)))),(6,CV.int i64 p1),(7,CV.ptr 5 []),(80,CV.int i64 p0),(81,CV.int i64 p1),(82,CV.int i64 (wrap i64 (p1+2))),(83,CV.int i64 (wrap i64 (p0+wrap i64 (p1+2)))),(84,CV.yld 4 58 (CV.pair CV.junk (CV.pair CV.junk (CV.pair CV.junk (CV.pair CV.junk (CV.pair CV.junk (CV.pair CV.junk (CV.pair (CV.ptr 2 []) (CV.pair CV.junk (CV.pair CV.junk (CV.pair CV.junk (CV.pair CV.junk (CV.pair CV.junk (CV.pair CV.junk (CV.pair CV.junk (CV.pair CV.junk (CV.pair CV.junk (CV.pair CV.junk (CV.pair CV.junk (CV.pair CV.junk (CV.pair CV.junk (CV.pair CV.junk (CV.pair CV.junk (CV.pair CV.junk (CV.pair CV.junk (CV.pair CV.junk (CV.pair CV.junk (CV.pair CV.junk (CV.pair CV.junk (CV.pair CV.junk (CV.pair CV.junk (CV.pair CV.junk (CV.pair CV.junk (CV.pair CV.junk (CV.pair CV.junk (CV.pair CV.junk (CV.pair CV.junk (CV.pair CV.junk (CV.pair CV.junk (CV.pair CV.junk (CV.pair CV.junk (CV.pair CV.junk (CV.pair CV.junk (CV.pair CV.junk (CV.pure Ty.unit PUnit.unit))))))))))))))))))))))))))))))))))))))))))))),(85,CV.int i64 (wrap i64 (p0+wrap i64 (p1+2)))),(86,CV.pair (CV.int i64 p9) (CV.pair (CV.whole 6) (CV.pure Ty.unit PUnit.unit))),(87,CV.bool true),(88,CV.bool false)] [Blk.mem (CV.pair (CV.pair (CV.jsl (Ty.int u32) p2) (CV.pair (CV.jsl (Ty.int i64) p3) (CV.pure (Ty.pair (Ty.int i64) Ty.unit) p4))) (CV.pure (Ty.pair (Ty.int i64) (Ty.pair (Ty.int i64) Ty.unit)) p5)),Blk.mem (CV.pair (CV.nil 59 (Ty.pair (Ty.int i64) (Ty.pair (Ty.slice (Ty.int u32)) Ty.unit))) (CV.pure (Ty.pair (Ty.int i64) (Ty.pair (Ty.int i64) Ty.unit)) p6)),Blk.mem (CV.pair (CV.whole 8) (CV.pure (Ty.pair (Ty.int i64) (Ty.pair (Ty.int i64) Ty.unit)) ((wrap i64 (p0+wrap i64 (p1+2)),p7.2):(Zt58_5)))),Blk.mem (CV.jsl (Ty.int u32) p8),Blk.ghost 0,Blk.mem (CV.pair (CV.int i64 p9) (CV.pair (CV.whole 6) (CV.pure Ty.unit PUnit.unit))),Blk.fvec 26 (Ty.int u32) p10,Blk.dead,Blk.vec 59 (Ty.pair (Ty.int i64) (Ty.pair (Ty.slice (Ty.int u32)) Ty.unit)) (((v_61 p11 p9 p10).1):Zt58_6)] 5)
 | .e1 p0 p1 p2 p3 p4 p5 p6 p7 p8 p9 p10 p11=>k Ex.normal (sx 89 [(0,CV.yld 4 58 (CV.pair CV.junk (CV.pair CV.junk (CV.pair CV.junk (CV.pair CV.junk (CV.pair CV.junk (CV.pair CV.junk (CV.pair (CV.ptr 2 []) (CV.pair CV.junk (CV.pair CV.junk (CV.pair CV.junk (CV.pair CV.junk (CV.pair CV.junk (CV.pair CV.junk (CV.pair CV.junk (CV.pair CV.junk (CV.pair CV.junk (CV.pair CV.junk (CV.pair CV.junk (CV.pair CV.junk (CV.pair CV.junk (CV.pair CV.junk (CV.pair CV.junk (CV.pair CV.junk (CV.pair CV.junk (CV.pair CV.junk (CV.pair CV.junk (CV.pair CV.junk (CV.pair CV.junk (CV.pair CV.junk (CV.pair CV.junk (CV.pair CV.junk (CV.pair CV.junk (CV.pair CV.junk (CV.pair CV.junk (CV.pair CV.junk (CV.pair CV.junk (CV.pair CV.junk (CV.pair CV.junk (CV.pair CV.junk (CV.pair CV.junk (CV.pair CV.junk (CV.pair CV.junk (CV.pair CV.junk (CV.pure Ty.unit PUnit.unit))))))))))))))))))))))))))))))))))))))))))))),(1,CV.ptr 3 []),(3,CV.int i64 (wrap i64 (p0+wrap i64 (p1+2)))),(6,CV.int i64 p1),(7,CV.ptr 5 []),(80,CV.int i64 p0),(81,CV.int i64 p1),(82,CV.int i64 (wrap i64 (p1+2))),(83,CV.int i64 (wrap i64 (p0+wrap i64 (p1+2)))),(84,CV.yld 4 58 (CV.pair CV.junk (CV.pair CV.junk (CV.pair CV.junk (CV.pair CV.junk (CV.pair CV.junk (CV.pair CV.junk (CV.pair (CV.ptr 2 []) (CV.pair CV.junk (CV.pair CV.junk (CV.pair CV.junk (CV.pair CV.junk (CV.pair CV.junk (CV.pair CV.junk (CV.pair CV.junk (CV.pair CV.junk (CV.pair CV.junk (CV.pair CV.junk (CV.pair CV.junk (CV.pair CV.junk (CV.pair CV.junk (CV.pair CV.junk (CV.pair CV.junk (CV.pair CV.junk (CV.pair CV.junk (CV.pair CV.junk (CV.pair CV.junk (CV.pair CV.junk (CV.pair CV.junk (CV.pair CV.junk (CV.pair CV.junk (CV.pair CV.junk (CV.pair CV.junk (CV.pair CV.junk (CV.pair CV.junk (CV.pair CV.junk (CV.pair CV.junk (CV.pair CV.junk (CV.pair CV.junk (CV.pair CV.junk (CV.pair CV.junk (CV.pair CV.junk (CV.pair CV.junk (CV.pair CV.junk (CV.pure Ty.unit PUnit.unit))))))))))))))))))))))))))))))))))))))))))))),(85,CV.int i64 (wrap i64 (p0+wrap i64 (p1+2)))),(86,CV.pair (CV.int i64 p9) (CV.pair (CV.whole 6) (CV.pure Ty.unit PUnit.unit))),(87,CV.bool true),(88,CV.bool false)] [Blk.mem (CV.pair (CV.pair (CV.jsl (Ty.int u32) p2) (CV.pair (CV.jsl (Ty.int i64) p3) (CV.pure (Ty.pair (Ty.int i64) Ty.unit) p4))) (CV.pure (Ty.pair (Ty.int i64) (Ty.pair (Ty.int i64) Ty.unit)) p5)),Blk.mem (CV.pair (CV.nil 59 (Ty.pair (Ty.int i64) (Ty.pair (Ty.slice (Ty.int u32)) Ty.unit))) (CV.pure (Ty.pair (Ty.int i64) (Ty.pair (Ty.int i64) Ty.unit)) p6)),Blk.mem (CV.pair (CV.whole 7) (CV.pure (Ty.pair (Ty.int i64) (Ty.pair (Ty.int i64) Ty.unit)) ((wrap i64 (p0+wrap i64 (p1+2)),p7.2):(Zt58_5)))),Blk.mem (CV.jsl (Ty.int u32) p8),Blk.ghost 0,Blk.mem (CV.pair (CV.int i64 p9) (CV.pair (CV.whole 6) (CV.pure Ty.unit PUnit.unit))),Blk.vec 26 (Ty.int u32) p10,Blk.vec 59 (Ty.pair (Ty.int i64) (Ty.pair (Ty.slice (Ty.int u32)) Ty.unit)) p11] 5)
noncomputable def Sp.S_58_101_1_3{R:Type}(k:E_58_101_1_3->Option R)(p0 p1:Int)(p2 p3:List Int)(p4:Int×Unit)(p5 p6 p7:Int×Int×Unit)(p8:List Int)(p9:Int)(p10:List Int)(p11:List (Int×List Int×Unit)):Option R:=
 bif decide (p9>=0)then gd (p_61 p11 p9 p10) (k (E_58_101_1_3.e0 p0 p1 p2 p3 p4 p5 p6 p7 p8 p9 p10 p11))else k (E_58_101_1_3.e1 p0 p1 p2 p3 p4 p5 p6 p7 p8 p9 p10 p11)
noncomputable def Sp.J_58_101_1_3(p0 p1:Int)(p2 p3:List Int)(p4:Int×Unit)(p5 p6 p7:Int×Int×Unit)(p8:List Int)(p9:Int)(p10:List Int)(p11:List (Int×List Int×Unit)):Option E_58_101_1_3:=S_58_101_1_3 some p0 p1 p2 p3 p4 p5 p6 p7 p8 p9 p10 p11
noncomputable def O_58_101_1_3{R:Type}:Orc R:=orL T_58_101_1_3 (fun a=>J_58_101_1_3 a.1 a.2.1 a.2.2.1 a.2.2.2.1 a.2.2.2.2.1 a.2.2.2.2.2.1 a.2.2.2.2.2.2.1 a.2.2.2.2.2.2.2.1 a.2.2.2.2.2.2.2.2.1 a.2.2.2.2.2.2.2.2.2.1 a.2.2.2.2.2.2.2.2.2.2.1 a.2.2.2.2.2.2.2.2.2.2.2.1) Y_58_101_1_3 O_58_101_1_2
theorem OK_58_101_1_3{R:Type}:okF (R:=R) sm_58 2 (ni (nf 101 0) 0) O_58_101_1_3:=jp noO_ok (os:=[]) trivial T_58_101_1_3 (fun R k a=>S_58_101_1_3 k a.1 a.2.1 a.2.2.1 a.2.2.2.1 a.2.2.2.2.1 a.2.2.2.2.2.1 a.2.2.2.2.2.2.1 a.2.2.2.2.2.2.2.1 a.2.2.2.2.2.2.2.2.1 a.2.2.2.2.2.2.2.2.2.1 a.2.2.2.2.2.2.2.2.2.2.1 a.2.2.2.2.2.2.2.2.2.2.2.1) Y_58_101_1_3 (fun k a=>by kernel_rfl) (fun Y a=>by
 unfold S_58_101_1_3
 repeat' first|apply gdN|apply condN|rfl) OK_58_101_1_2
noncomputable def T_58_101_0_1:PS:=⟨89,[(0,.yl 4 58 (.kc (.pair .junk (.pair .junk (.pair .junk (.pair .junk (.pair .junk (.pair .junk (.pair (.ptr 2 []) (.pair .junk (.pair .junk (.pair .junk (.pair .junk (.pair .junk (.pair .junk (.pair .junk (.pair .junk (.pair .junk (.pair .junk (.pair .junk (.pair .junk (.pair .junk (.pair .junk (.pair .junk (.pair .junk (.pair .junk (.pair .junk (.pair .junk (.pair .junk (.pair .junk (.pair .junk (.pair .junk (.pair .junk (.pair .junk (.pair .junk (.pair .junk (.pair .junk (.pair .junk (.pair .junk (.pair .junk (.pair .junk (.pair .junk (.pair .junk (.pair .junk (.pair .junk (.pure .unit PUnit.unit)))))))))))))))))))))))))))))))))))))))))))))),(1,.kc (.ptr 3 [])),(3,.hv (.int .i64))],[.mem (.pr (.pr (.js (.int .u32)) (.pr (.js (.int .i64)) (.hv (.pair (.int .i64) .unit)))) (.hv Zy58_2)),.mem (.pr (.kc (.nil 59 Zy58_3)) (.hv Zy58_2)),.mem (.pr (.kc (.whole 5)) (.hv Zy58_2)),.mem (.js (.int .u32)),.gh 0,.vec 59 Zy58_3],5⟩
inductive Sp.E_58_101_0_1 where
 |e0 (p1 p2:List Int) (p3:Int×Unit) (p4 p5 p6:Zt58_0) (p7:List Int) (p8:Zt58_1)
 |e1 (p1 p2:List Int) (p3:Int×Unit) (p4 p5 p6:Zt58_0) (p7:List Int) (p8:Zt58_1)
noncomputable def Sp.B_58_101_0_1{R:Type}(r:Option E_58_101_0_1)(k0 k1:List Int->List Int->(Int×Unit)->Zt58_0->Zt58_0->Zt58_0->List Int->Zt58_1->Option R):Option R:=match r with
 |none=>none
 |some (.e0 p1 p2 p3 p4 p5 p6 p7 p8)=>k0 p1 p2 p3 p4 p5 p6 p7 p8
 |some (.e1 p1 p2 p3 p4 p5 p6 p7 p8)=>k1 p1 p2 p3 p4 p5 p6 p7 p8
noncomputable def Y_58_101_0_1{R:Type}(k:Ex->St->Option R):E_58_101_0_1->Option R
 | .e0 p1 p2 p3 p4 p5 p6 p7 p8=>k Ex.ret (sx 89 [] [Blk.mem (CV.pair (CV.pair (CV.jsl (Ty.int u32) p1) (CV.pair (CV.jsl (Ty.int i64) p2) (CV.pure (Ty.pair (Ty.int i64) Ty.unit) p3))) (CV.pure (Ty.pair (Ty.int i64) (Ty.pair (Ty.int i64) Ty.unit)) p4)),Blk.mem (CV.pair (CV.nil 59 (Ty.pair (Ty.int i64) (Ty.pair (Ty.slice (Ty.int u32)) Ty.unit))) (CV.pure (Ty.pair (Ty.int i64) (Ty.pair (Ty.int i64) Ty.unit)) p5)),Blk.mem (CV.pair (CV.whole 5) (CV.pure (Ty.pair (Ty.int i64) (Ty.pair (Ty.int i64) Ty.unit)) p6)),Blk.mem (CV.jsl (Ty.int u32) p7),Blk.ghost 0,Blk.vec 59 (Ty.pair (Ty.int i64) (Ty.pair (Ty.slice (Ty.int u32)) Ty.unit)) p8] 5)
 | .e1 p1 p2 p3 p4 p5 p6 p7 p8=>k (Ex.exit 0) (sx 89 [] [Blk.mem (CV.pair (CV.pair (CV.jsl (Ty.int u32) p1) (CV.pair (CV.jsl (Ty.int i64) p2) (CV.pure (Ty.pair (Ty.int i64) Ty.unit) p3))) (CV.pure (Ty.pair (Ty.int i64) (Ty.pair (Ty.int i64) Ty.unit)) p4)),Blk.mem (CV.pair (CV.nil 59 (Ty.pair (Ty.int i64) (Ty.pair (Ty.slice (Ty.int u32)) Ty.unit))) (CV.pure (Ty.pair (Ty.int i64) (Ty.pair (Ty.int i64) Ty.unit)) p5)),Blk.mem (CV.pair (CV.whole 5) (CV.pure (Ty.pair (Ty.int i64) (Ty.pair (Ty.int i64) Ty.unit)) p6)),Blk.mem (CV.jsl (Ty.int u32) p7),Blk.ghost 0,Blk.vec 59 (Ty.pair (Ty.int i64) (Ty.pair (Ty.slice (Ty.int u32)) Ty.unit)) p8] 5)
noncomputable def Sp.S_58_101_0_1{R:Type}(K:Int->List Int->List Int->(Int×Unit)->(Int×Int×Unit)->(Int×Int×Unit)->(Int×Int×Unit)->List Int->(List (Int×List Int×Unit))->Option R)(k:E_58_101_0_1->Option R)(p0:Int)(p1 p2:List Int)(p3:Int×Unit)(p4 p5 p6:Int×Int×Unit)(p7:List Int)(p8:List (Int×List Int×Unit)):Option R:=
 bif decide (p0<(↑(length p7):Int))then gd (inB p0 (length p7)) (gd (p_100 (getD p7 (toNat p0) 0)) (bif !(v_100 (getD p7 (toNat p0) 0)).2.1 then k (E_58_101_0_1.e0 p1 p2 p3 p4 p5 p6 p7 p8)else bif decide (wrap i64 (Int.tdiv ((v_100 (getD p7 (toNat p0) 0)).1) 256)>254)then k (E_58_101_0_1.e0 p1 p2 p3 p4 p5 p6 p7 p8)else bif decide (Int.tmod ((v_100 (getD p7 (toNat p0) 0)).1) (256:Int)>(24:Int))then k (E_58_101_0_1.e0 p1 p2 p3 p4 p5 p6 p7 p8)else bif decide (wrap i64 (wrap i64 (p0+Int.tmod ((v_100 (getD p7 (toNat p0) 0)).1) 256)+2)>(↑(length p7):Int))then k (E_58_101_0_1.e0 p1 p2 p3 p4 p5 p6 p7 p8)else gd (inB (wrap i64 (wrap i64 (p0+Int.tmod ((v_100 (getD p7 (toNat p0) 0)).1) 256)+1)) (length p7)) (gd (p_100 (getD p7 (toNat (wrap i64 (wrap i64 (p0+Int.tmod ((v_100 (getD p7 (toNat p0) 0)).1) 256)+1))) 0)) (bif(v_100 (getD p7 (toNat (wrap i64 (wrap i64 (p0+Int.tmod ((v_100 (getD p7 (toNat p0) 0)).1) 256)+1))) 0)).2.1 then gd (sl3 p0 (wrap i64 (wrap i64 (p0+Int.tmod ((v_100 (getD p7 (toNat p0) 0)).1) 256)+1)) (↑(length p7):Int)) (gd (p_82 (take (toNat (wrap i64 (wrap i64 (p0+Int.tmod ((v_100 (getD p7 (toNat p0) 0)).1) 256)+1))-toNat p0) (drop (toNat p0) p7))) (bif(v_100 (getD p7 (toNat (wrap i64 (wrap i64 (p0+Int.tmod ((v_100 (getD p7 (toNat p0) 0)).1) 256)+1))) 0)).1==(v_82 (take (toNat (wrap i64 (wrap i64 (p0+Int.tmod ((v_100 (getD p7 (toNat p0) 0)).1) 256)+1))-toNat p0) (drop (toNat p0) p7))).1 then gd (sl3 (wrap i64 (p0+1)) (wrap i64 (wrap i64 (p0+Int.tmod ((v_100 (getD p7 (toNat p0) 0)).1) 256)+1)) (↑(length p7):Int)) (B_58_101_1_2 (J_58_101_1_2 p0 (Int.tmod ((v_100 (getD p7 (toNat p0) 0)).1) 256) p1 p2 p3 p4 p5 p6 p7 (wrap i64 (Int.tdiv ((v_100 (getD p7 (toNat p0) 0)).1) 256)) (take (toNat (wrap i64 (wrap i64 (p0+Int.tmod ((v_100 (getD p7 (toNat p0) 0)).1) 256)+1))-toNat (wrap i64 (p0+1))) (drop (toNat (wrap i64 (p0+1))) p7)) p8) (fun y80 y81 y82 y83 y84 y85 y86 y87 y88 y89 y90 y91=>K (wrap i64 (y80+wrap i64 (y81+2))) y82 y83 y84 y85 y86 (wrap i64 (y80+wrap i64 (y81+2)),y87.2) y88 ((v_61 y91 y89 y90).1)) fun y92 y93 y94 y95 y96 y97 y98 y99 y100 y101 y102 y103=>K (wrap i64 (y92+wrap i64 (y93+2))) y94 y95 y96 y97 y98 (wrap i64 (y92+wrap i64 (y93+2)),y99.2) y100 y103)else B_58_101_1_3 (J_58_101_1_3 p0 (Int.tmod ((v_100 (getD p7 (toNat p0) 0)).1) 256) p1 p2 p3 p4 p5 p6 p7 (-1:Int) [] p8) (fun y104 y105 y106 y107 y108 y109 y110 y111 y112 y113 y114 y115=>K (wrap i64 (y104+wrap i64 (y105+2))) y106 y107 y108 y109 y110 (wrap i64 (y104+wrap i64 (y105+2)),y111.2) y112 ((v_61 y115 y113 y114).1)) fun y116 y117 y118 y119 y120 y121 y122 y123 y124 y125 y126 y127=>K (wrap i64 (y116+wrap i64 (y117+2))) y118 y119 y120 y121 y122 (wrap i64 (y116+wrap i64 (y117+2)),y123.2) y124 y127))else B_58_101_1_3 (J_58_101_1_3 p0 (Int.tmod ((v_100 (getD p7 (toNat p0) 0)).1) 256) p1 p2 p3 p4 p5 p6 p7 (-1:Int) [] p8) (fun y128 y129 y130 y131 y132 y133 y134 y135 y136 y137 y138 y139=>K (wrap i64 (y128+wrap i64 (y129+2))) y130 y131 y132 y133 y134 (wrap i64 (y128+wrap i64 (y129+2)),y135.2) y136 ((v_61 y139 y137 y138).1)) fun y140 y141 y142 y143 y144 y145 y146 y147 y148 y149 y150 y151=>K (wrap i64 (y140+wrap i64 (y141+2))) y142 y143 y144 y145 y146 (wrap i64 (y140+wrap i64 (y141+2)),y147.2) y148 y151))))else k (E_58_101_0_1.e1 p1 p2 p3 p4 p5 p6 p7 p8)
noncomputable def Sp.L_58_101_0_1:Nat->Int->List Int->List Int->(Int×Unit)->(Int×Int×Unit)->(Int×Int×Unit)->(Int×Int×Unit)->List Int->(List (Int×List Int×Unit))->Option E_58_101_0_1
 |0,_,_,_,_,_,_,_,_,_=>none
 |m+1,p0,p1,p2,p3,p4,p5,p6,p7,p8=>S_58_101_0_1 (L_58_101_0_1 m) some p0 p1 p2 p3 p4 p5 p6 p7 p8
noncomputable def l_58_101_0_1(m:Nat)(a:T_58_101_0_1.E):Option E_58_101_0_1:=L_58_101_0_1 m a.1 a.2.1 a.2.2.1 a.2.2.2.1 a.2.2.2.2.1 a.2.2.2.2.2.1 a.2.2.2.2.2.2.1 a.2.2.2.2.2.2.2.1 a.2.2.2.2.2.2.2.2.1
noncomputable def O_58_101_0_1{R:Type}:Orc R:=orL T_58_101_0_1 (l_58_101_0_1 FU) Y_58_101_0_1
theorem loop_58_101_0_1{R:Type}(k:Ex->St->Option R):∀m a,evLoopN (evCodeL sm_58 FU (ovr noO (evFn sm_58 fns FU 2)) (mkT (inner (nf 101 0)) [O_58_101_1_3]) (inner (nf 101 0))) (St.norm (lv (nf 101 0))) m (T_58_101_0_1.inst a) k=(l_58_101_0_1 m a).bind (Y_58_101_0_1 k):=lpN l_58_101_0_1 (fun R K k a=>S_58_101_0_1 (fun p0 p1 p2 p3 p4 p5 p6 p7 p8=>K (p0,p1,p2,p3,p4,p5,p6,p7,p8,())) k a.1 a.2.1 a.2.2.1 a.2.2.2.1 a.2.2.2.2.1 a.2.2.2.2.2.1 a.2.2.2.2.2.2.1 a.2.2.2.2.2.2.2.1 a.2.2.2.2.2.2.2.2.1) (fun _=>rfl) (fun _ _=>rfl) (fun K a=>by kernel_rfl) (fun K a=>by
 unfold S_58_101_0_1
 repeat' first|apply gdN|apply condN|(apply Bn_58_101_1_2<;>intros)|(apply Bn_58_101_1_3<;>intros)|rfl)
theorem OK_58_101_0_1{R:Type}:okF (R:=R) sm_58 2 (nf 101 0) O_58_101_0_1:=lp noO_ok (os:=[O_58_101_1_3]) ⟨OK_58_101_1_3,trivial⟩ T_58_101_0_1 l_58_101_0_1 (fun R K k a=>S_58_101_0_1 (fun p0 p1 p2 p3 p4 p5 p6 p7 p8=>K (p0,p1,p2,p3,p4,p5,p6,p7,p8,())) k a.1 a.2.1 a.2.2.1 a.2.2.2.1 a.2.2.2.2.1 a.2.2.2.2.2.1 a.2.2.2.2.2.2.1 a.2.2.2.2.2.2.2.1 a.2.2.2.2.2.2.2.2.1) Y_58_101_0_1 (fun _=>rfl) (fun _ _=>rfl) (fun k K a=>by kernel_rfl) (fun Y K a=>by
 unfold S_58_101_0_1
 repeat' first|apply gdN|apply condN|(apply Bn_58_101_1_2<;>intros)|(apply Bn_58_101_1_3<;>intros)|rfl) (ok0 _)
noncomputable def T_58_101_0_0:PS:=⟨89,[(0,.yl 4 58 (.kc (.pair .junk (.pair .junk (.pair .junk (.pair .junk (.pair .junk (.pair .junk (.pair (.ptr 2 []) (.pair .junk (.pair .junk (.pair .junk (.pair .junk (.pair .junk (.pair .junk (.pair .junk (.pair .junk (.pair .junk (.pair .junk (.pair .junk (.pair .junk (.pair .junk (.pair .junk (.pair .junk (.pair .junk (.pair .junk (.pair .junk (.pair .junk (.pair .junk (.pair .junk (.pair .junk (.pair .junk (.pair .junk (.pair .junk (.pair .junk (.pair .junk (.pair .junk (.pair .junk (.pair .junk (.pair .junk (.pair .junk (.pair .junk (.pair .junk (.pair .junk (.pair .junk (.pure .unit PUnit.unit)))))))))))))))))))))))))))))))))))))))))))))),(1,.kc (.ptr 3 [])),(3,.hv (.int .i64))],[.mem (.pr (.pr (.js (.int .u32)) (.pr (.js (.int .i64)) (.hv (.pair (.int .i64) .unit)))) (.hv Zy58_2)),.mem (.pr (.kc (.nil 59 Zy58_3)) (.hv Zy58_2)),.mem (.pr (.kc (.nil 59 Zy58_3)) (.hv Zy58_2)),.mem (.js (.int .u32)),.gh 0],5⟩
inductive Sp.E_58_101_0_0 where
 |e0 (p1 p2:List Int) (p3:Int×Unit) (p4 p5 p6:Zt58_0) (p7:List Int)
 |e1 (p1 p2:List Int) (p3:Int×Unit) (p4 p5 p6:Zt58_0) (p7:List Int)
 |e2 (p1 p2:List Int) (p3:Int×Unit) (p4 p5 p6:Zt58_0) (p7:List Int) (p8:Zt58_1)
 |e3 (p1 p2:List Int) (p3:Int×Unit) (p4 p5 p6:Zt58_0) (p7:List Int) (p8:Zt58_1)
noncomputable def Sp.B_58_101_0_0{R:Type}(r:Option E_58_101_0_0)(k0 k1:List Int->List Int->(Int×Unit)->Zt58_0->Zt58_0->Zt58_0->List Int->Option R)(k2 k3:List Int->List Int->(Int×Unit)->Zt58_0->Zt58_0->Zt58_0->List Int->Zt58_1->Option R):Option R:=match r with
 |none=>none
 |some (.e0 p1 p2 p3 p4 p5 p6 p7)=>k0 p1 p2 p3 p4 p5 p6 p7
 |some (.e1 p1 p2 p3 p4 p5 p6 p7)=>k1 p1 p2 p3 p4 p5 p6 p7
 |some (.e2 p1 p2 p3 p4 p5 p6 p7 p8)=>k2 p1 p2 p3 p4 p5 p6 p7 p8
 |some (.e3 p1 p2 p3 p4 p5 p6 p7 p8)=>k3 p1 p2 p3 p4 p5 p6 p7 p8
noncomputable def Y_58_101_0_0{R:Type}(k:Ex->St->Option R):E_58_101_0_0->Option R
 | .e0 p1 p2 p3 p4 p5 p6 p7=>k Ex.ret (sx 89 [] [Blk.mem (CV.pair (CV.pair (CV.jsl (Ty.int u32) p1) (CV.pair (CV.jsl (Ty.int i64) p2) (CV.pure (Ty.pair (Ty.int i64) Ty.unit) p3))) (CV.pure (Ty.pair (Ty.int i64) (Ty.pair (Ty.int i64) Ty.unit)) p4)),Blk.mem (CV.pair (CV.nil 59 (Ty.pair (Ty.int i64) (Ty.pair (Ty.slice (Ty.int u32)) Ty.unit))) (CV.pure (Ty.pair (Ty.int i64) (Ty.pair (Ty.int i64) Ty.unit)) p5)),Blk.mem (CV.pair (CV.nil 59 (Ty.pair (Ty.int i64) (Ty.pair (Ty.slice (Ty.int u32)) Ty.unit))) (CV.pure (Ty.pair (Ty.int i64) (Ty.pair (Ty.int i64) Ty.unit)) p6)),Blk.mem (CV.jsl (Ty.int u32) p7),Blk.ghost 0] 5)
 | .e1 p1 p2 p3 p4 p5 p6 p7=>k (Ex.exit 0) (sx 89 [] [Blk.mem (CV.pair (CV.pair (CV.jsl (Ty.int u32) p1) (CV.pair (CV.jsl (Ty.int i64) p2) (CV.pure (Ty.pair (Ty.int i64) Ty.unit) p3))) (CV.pure (Ty.pair (Ty.int i64) (Ty.pair (Ty.int i64) Ty.unit)) p4)),Blk.mem (CV.pair (CV.nil 59 (Ty.pair (Ty.int i64) (Ty.pair (Ty.slice (Ty.int u32)) Ty.unit))) (CV.pure (Ty.pair (Ty.int i64) (Ty.pair (Ty.int i64) Ty.unit)) p5)),Blk.mem (CV.pair (CV.nil 59 (Ty.pair (Ty.int i64) (Ty.pair (Ty.slice (Ty.int u32)) Ty.unit))) (CV.pure (Ty.pair (Ty.int i64) (Ty.pair (Ty.int i64) Ty.unit)) p6)),Blk.mem (CV.jsl (Ty.int u32) p7),Blk.ghost 0] 5)
 | .e2 p1 p2 p3 p4 p5 p6 p7 p8=>k Ex.ret (sx 89 [] [Blk.mem (CV.pair (CV.pair (CV.jsl (Ty.int u32) p1) (CV.pair (CV.jsl (Ty.int i64) p2) (CV.pure (Ty.pair (Ty.int i64) Ty.unit) p3))) (CV.pure (Ty.pair (Ty.int i64) (Ty.pair (Ty.int i64) Ty.unit)) p4)),Blk.mem (CV.pair (CV.nil 59 (Ty.pair (Ty.int i64) (Ty.pair (Ty.slice (Ty.int u32)) Ty.unit))) (CV.pure (Ty.pair (Ty.int i64) (Ty.pair (Ty.int i64) Ty.unit)) p5)),Blk.mem (CV.pair (CV.whole 5) (CV.pure (Ty.pair (Ty.int i64) (Ty.pair (Ty.int i64) Ty.unit)) p6)),Blk.mem (CV.jsl (Ty.int u32) p7),Blk.ghost 0,Blk.vec 59 (Ty.pair (Ty.int i64) (Ty.pair (Ty.slice (Ty.int u32)) Ty.unit)) p8] 5)
 | .e3 p1 p2 p3 p4 p5 p6 p7 p8=>k (Ex.exit 0) (sx 89 [] [Blk.mem (CV.pair (CV.pair (CV.jsl (Ty.int u32) p1) (CV.pair (CV.jsl (Ty.int i64) p2) (CV.pure (Ty.pair (Ty.int i64) Ty.unit) p3))) (CV.pure (Ty.pair (Ty.int i64) (Ty.pair (Ty.int i64) Ty.unit)) p4)),Blk.mem (CV.pair (CV.nil 59 (Ty.pair (Ty.int i64) (Ty.pair (Ty.slice (Ty.int u32)) Ty.unit))) (CV.pure (Ty.pair (Ty.int i64) (Ty.pair (Ty.int i64) Ty.unit)) p5)),Blk.mem (CV.pair (CV.whole 5) (CV.pure (Ty.pair (Ty.int i64) (Ty.pair (Ty.int i64) Ty.unit)) p6)),Blk.mem (CV.jsl (Ty.int u32) p7),Blk.ghost 0,Blk.vec 59 (Ty.pair (Ty.int i64) (Ty.pair (Ty.slice (Ty.int u32)) Ty.unit)) p8] 5)
noncomputable def Sp.S_58_101_0_0{R:Type}(K:Int->List Int->List Int->(Int×Unit)->(Int×Int×Unit)->(Int×Int×Unit)->(Int×Int×Unit)->List Int->Option R)(KB:Int->List Int->List Int->(Int×Unit)->(Int×Int×Unit)->(Int×Int×Unit)->(Int×Int×Unit)->List Int->(List (Int×List Int×Unit))->Option R)(k:E_58_101_0_0->Option R)(p0:Int)(p1 p2:List Int)(p3:Int×Unit)(p4 p5 p6:Int×Int×Unit)(p7:List Int):Option R:=
 bif decide (p0<(↑(length p7):Int))then gd (inB p0 (length p7)) (gd (p_100 (getD p7 (toNat p0) 0)) (bif !(v_100 (getD p7 (toNat p0) 0)).2.1 then k (E_58_101_0_0.e0 p1 p2 p3 p4 p5 p6 p7)else bif decide (wrap i64 (Int.tdiv ((v_100 (getD p7 (toNat p0) 0)).1) 256)>254)then k (E_58_101_0_0.e0 p1 p2 p3 p4 p5 p6 p7)else bif decide (Int.tmod ((v_100 (getD p7 (toNat p0) 0)).1) (256:Int)>(24:Int))then k (E_58_101_0_0.e0 p1 p2 p3 p4 p5 p6 p7)else bif decide (wrap i64 (wrap i64 (p0+Int.tmod ((v_100 (getD p7 (toNat p0) 0)).1) 256)+2)>(↑(length p7):Int))then k (E_58_101_0_0.e0 p1 p2 p3 p4 p5 p6 p7)else gd (inB (wrap i64 (wrap i64 (p0+Int.tmod ((v_100 (getD p7 (toNat p0) 0)).1) 256)+1)) (length p7)) (gd (p_100 (getD p7 (toNat (wrap i64 (wrap i64 (p0+Int.tmod ((v_100 (getD p7 (toNat p0) 0)).1) 256)+1))) 0)) (bif(v_100 (getD p7 (toNat (wrap i64 (wrap i64 (p0+Int.tmod ((v_100 (getD p7 (toNat p0) 0)).1) 256)+1))) 0)).2.1 then gd (sl3 p0 (wrap i64 (wrap i64 (p0+Int.tmod ((v_100 (getD p7 (toNat p0) 0)).1) 256)+1)) (↑(length p7):Int)) (gd (p_82 (take (toNat (wrap i64 (wrap i64 (p0+Int.tmod ((v_100 (getD p7 (toNat p0) 0)).1) 256)+1))-toNat p0) (drop (toNat p0) p7))) (bif(v_100 (getD p7 (toNat (wrap i64 (wrap i64 (p0+Int.tmod ((v_100 (getD p7 (toNat p0) 0)).1) 256)+1))) 0)).1==(v_82 (take (toNat (wrap i64 (wrap i64 (p0+Int.tmod ((v_100 (getD p7 (toNat p0) 0)).1) 256)+1))-toNat p0) (drop (toNat p0) p7))).1 then gd (sl3 (wrap i64 (p0+1)) (wrap i64 (wrap i64 (p0+Int.tmod ((v_100 (getD p7 (toNat p0) 0)).1) 256)+1)) (↑(length p7):Int)) (B_58_101_1_0 (J_58_101_1_0 p0 (Int.tmod ((v_100 (getD p7 (toNat p0) 0)).1) 256) p1 p2 p3 p4 p5 p6 p7 (wrap i64 (Int.tdiv ((v_100 (getD p7 (toNat p0) 0)).1) 256)) (take (toNat (wrap i64 (wrap i64 (p0+Int.tmod ((v_100 (getD p7 (toNat p0) 0)).1) 256)+1))-toNat (wrap i64 (p0+1))) (drop (toNat (wrap i64 (p0+1))) p7))) (fun y74 y75 y76 y77 y78 y79 y80 y81 y82 y83 y84=>KB (wrap i64 (y74+wrap i64 (y75+2))) y76 y77 y78 y79 y80 (wrap i64 (y74+wrap i64 (y75+2)),y81.2) y82 ((v_61 [] y83 y84).1)) fun y85 y86 y87 y88 y89 y90 y91 y92 y93 y94 y95=>K (wrap i64 (y85+wrap i64 (y86+2))) y87 y88 y89 y90 y91 (wrap i64 (y85+wrap i64 (y86+2)),y92.2) y93)else B_58_101_1_1 (J_58_101_1_1 p0 (Int.tmod ((v_100 (getD p7 (toNat p0) 0)).1) 256) p1 p2 p3 p4 p5 p6 p7 (-1:Int) []) (fun y96 y97 y98 y99 y100 y101 y102 y103 y104 y105 y106=>KB (wrap i64 (y96+wrap i64 (y97+2))) y98 y99 y100 y101 y102 (wrap i64 (y96+wrap i64 (y97+2)),y103.2) y104 ((v_61 [] y105 y106).1)) fun y107 y108 y109 y110 y111 y112 y113 y114 y115 y116 y117=>K (wrap i64 (y107+wrap i64 (y108+2))) y109 y110 y111 y112 y113 (wrap i64 (y107+wrap i64 (y108+2)),y114.2) y115))else B_58_101_1_1 (J_58_101_1_1 p0 (Int.tmod ((v_100 (getD p7 (toNat p0) 0)).1) 256) p1 p2 p3 p4 p5 p6 p7 (-1:Int) []) (fun y118 y119 y120 y121 y122 y123 y124 y125 y126 y127 y128=>KB (wrap i64 (y118+wrap i64 (y119+2))) y120 y121 y122 y123 y124 (wrap i64 (y118+wrap i64 (y119+2)),y125.2) y126 ((v_61 [] y127 y128).1)) fun y129 y130 y131 y132 y133 y134 y135 y136 y137 y138 y139=>K (wrap i64 (y129+wrap i64 (y130+2))) y131 y132 y133 y134 y135 (wrap i64 (y129+wrap i64 (y130+2)),y136.2) y137))))else k (E_58_101_0_0.e1 p1 p2 p3 p4 p5 p6 p7)
noncomputable def C_58_101_0_0:E_58_101_0_1->E_58_101_0_0
 | .e0 p1 p2 p3 p4 p5 p6 p7 p8=> .e2 p1 p2 p3 p4 p5 p6 p7 p8
 | .e1 p1 p2 p3 p4 p5 p6 p7 p8=> .e3 p1 p2 p3 p4 p5 p6 p7 p8
theorem BC_58_101_0_0(r:Option E_58_101_0_1):B_58_101_0_1 r (fun p1 p2 p3 p4 p5 p6 p7 p8=>some (E_58_101_0_0.e2 p1 p2 p3 p4 p5 p6 p7 p8)) (fun p1 p2 p3 p4 p5 p6 p7 p8=>some (E_58_101_0_0.e3 p1 p2 p3 p4 p5 p6 p7 p8))=r.bind fun e=>some (C_58_101_0_0 e):=by
 cases r with
 |none=>rfl
 |some e=>cases e<;>rfl
noncomputable def Sp.L_58_101_0_0:Nat->Int->List Int->List Int->(Int×Unit)->(Int×Int×Unit)->(Int×Int×Unit)->(Int×Int×Unit)->List Int->Option E_58_101_0_0
 |0,_,_,_,_,_,_,_,_=>none
 |m+1,p0,p1,p2,p3,p4,p5,p6,p7=>S_58_101_0_0 (L_58_101_0_0 m) (fun q0 q1 q2 q3 q4 q5 q6 q7 q8=>B_58_101_0_1 (L_58_101_0_1 m q0 q1 q2 q3 q4 q5 q6 q7 q8) (fun p1 p2 p3 p4 p5 p6 p7 p8=>some (E_58_101_0_0.e2 p1 p2 p3 p4 p5 p6 p7 p8)) (fun p1 p2 p3 p4 p5 p6 p7 p8=>some (E_58_101_0_0.e3 p1 p2 p3 p4 p5 p6 p7 p8))) some p0 p1 p2 p3 p4 p5 p6 p7
noncomputable def l_58_101_0_0(m:Nat)(a:T_58_101_0_0.E):Option E_58_101_0_0:=L_58_101_0_0 m a.1 a.2.1 a.2.2.1 a.2.2.2.1 a.2.2.2.2.1 a.2.2.2.2.2.1 a.2.2.2.2.2.2.1 a.2.2.2.2.2.2.2.1
noncomputable def O_58_101_0_0{R:Type}:Orc R:=orL T_58_101_0_0 (l_58_101_0_0 FU) Y_58_101_0_0 O_58_101_0_1
theorem OK_58_101_0_0{R:Type}:okF (R:=R) sm_58 2 (nf 101 0) O_58_101_0_0:=lp2 noO_ok (os:=[O_58_101_1_3]) ⟨OK_58_101_1_3,trivial⟩ T_58_101_0_0 T_58_101_0_1 l_58_101_0_0 l_58_101_0_1 (fun R K KB k a=>S_58_101_0_0 (fun p0 p1 p2 p3 p4 p5 p6 p7=>K (p0,p1,p2,p3,p4,p5,p6,p7,())) (fun q0 q1 q2 q3 q4 q5 q6 q7 q8=>KB (q0,q1,q2,q3,q4,q5,q6,q7,q8,())) k a.1 a.2.1 a.2.2.1 a.2.2.2.1 a.2.2.2.2.1 a.2.2.2.2.2.1 a.2.2.2.2.2.2.1 a.2.2.2.2.2.2.2.1) Y_58_101_0_0 Y_58_101_0_1 C_58_101_0_0 (fun _=>rfl) (fun m a=>by
 unfold l_58_101_0_0
 rw[L_58_101_0_0]
 simp only[BC_58_101_0_0]
 rfl) (fun k e=>by cases e<;>rfl) (fun k=>loop_58_101_0_1 k) (fun k K a=>by kernel_rfl) (fun Y K KB a=>by
 unfold S_58_101_0_0
 repeat' first|apply gdN|apply condN|(apply Bn_58_101_1_0<;>intros)|(apply Bn_58_101_1_1<;>intros)|rfl) OK_58_101_0_1
noncomputable def g_58_101{R:Type}:List CV->List Blk->(CV->List Blk->Option R)->Option R:=evFnL sm_58 FU (ovr noO (evFn sm_58 fns FU 2)) (mkT (fB fns 101) [O_58_101_0_0]) (fO fns 101)
theorem g_58_101_ok{R:Type}(args:List CV)(hp:List Blk)(k:CV->List Blk->Option R)(r:R)(h:g_58_101 args hp k=some r):evFn sm_58 fns FU 3 101 args hp k=some r:=runG noO_ok (os:=[O_58_101_0_0]) ⟨OK_58_101_0_0,trivial⟩ h
noncomputable def ov_58_79{R:Type}:Nat->Option (List CV->List Blk->(CV->List Blk->Option R)->Option R):=fun f'=>bif Nat.beq f' 101 then some g_58_101 else none
theorem ov_58_79_ok{R:Type}:OvrOK (R:=R) ov_58_79 (evFn sm_58 fns FU 3):=by
 intro f' g h args hp k r hg
 dsimp only[ov_58_79]at h
 by_cases h101:f'=101
 ·subst h101
  injection h with h
  subst h
  exact evFn_le 0 (g_58_101_ok _ _ _ _ hg)
 rw[nbeq_ne h101,cond_false]at h
 cases h
noncomputable def g_58_79{R:Type}:List CV->List Blk->(CV->List Blk->Option R)->Option R:=evFnL sm_58 FU (ovr ov_58_79 (evFn sm_58 fns FU 3)) (mkT (fB fns 79) []) (fO fns 79)
theorem g_58_79_ok{R:Type}(args:List CV)(hp:List Blk)(k:CV->List Blk->Option R)(r:R)(h:g_58_79 args hp k=some r):evFn sm_58 fns FU 4 79 args hp k=some r:=runG ov_58_79_ok (os:=[]) trivial h
noncomputable def T_58_102_0_0:PS:=⟨19,[(0,.js (.int .u32)),(1,.kc (.clo 81 (.pure .unit PUnit.unit))),(7,.hv (.int .i64)),(8,.hv (.int .i64))],[.mem (.pr (.pr (.js (.int .u32)) (.pr (.js (.int .i64)) (.hv (.pair (.int .i64) .unit)))) (.hv Zy58_2)),.mem (.pr (.kc (.nil 59 Zy58_3)) (.hv Zy58_2)),.mem (.pr (.kc (.nil 59 Zy58_3)) (.hv Zy58_2)),.mem (.js (.int .u32)),.dead],5⟩
inductive Sp.E_58_102_0_0 where
 |e0 (p2:Int) (p3 p4:List Int) (p5:Int×Unit) (p6 p7 p8:Zt58_0) (p9:List Int)
 |e1 (p3 p4:List Int) (p5:Int×Unit) (p6 p7 p8:Zt58_0) (p9:List Int)
noncomputable def Sp.B_58_102_0_0{R:Type}(r:Option E_58_102_0_0)(k0:Int->List Int->List Int->(Int×Unit)->Zt58_0->Zt58_0->Zt58_0->List Int->Option R)(k1:List Int->List Int->(Int×Unit)->Zt58_0->Zt58_0->Zt58_0->List Int->Option R):Option R:=match r with
 |none=>none
 |some (.e0 p2 p3 p4 p5 p6 p7 p8 p9)=>k0 p2 p3 p4 p5 p6 p7 p8 p9
 |some (.e1 p3 p4 p5 p6 p7 p8 p9)=>k1 p3 p4 p5 p6 p7 p8 p9
noncomputable def Y_58_102_0_0{R:Type}(k:Ex->St->Option R):E_58_102_0_0->Option R
 | .e0 p2 p3 p4 p5 p6 p7 p8 p9=>k Ex.ret (sx 19 [(4,CV.int i64 p2)] [Blk.mem (CV.pair (CV.pair (CV.jsl (Ty.int u32) p3) (CV.pair (CV.jsl (Ty.int i64) p4) (CV.pure (Ty.pair (Ty.int i64) Ty.unit) p5))) (CV.pure (Ty.pair (Ty.int i64) (Ty.pair (Ty.int i64) Ty.unit)) p6)),Blk.mem (CV.pair (CV.nil 59 (Ty.pair (Ty.int i64) (Ty.pair (Ty.slice (Ty.int u32)) Ty.unit))) (CV.pure (Ty.pair (Ty.int i64) (Ty.pair (Ty.int i64) Ty.unit)) p7)),Blk.mem (CV.pair (CV.nil 59 (Ty.pair (Ty.int i64) (Ty.pair (Ty.slice (Ty.int u32)) Ty.unit))) (CV.pure (Ty.pair (Ty.int i64) (Ty.pair (Ty.int i64) Ty.unit)) p8)),Blk.mem (CV.jsl (Ty.int u32) p9),Blk.dead] 5)
 | .e1 p3 p4 p5 p6 p7 p8 p9=>k (Ex.exit 0) (sx 19 [] [Blk.mem (CV.pair (CV.pair (CV.jsl (Ty.int u32) p3) (CV.pair (CV.jsl (Ty.int i64) p4) (CV.pure (Ty.pair (Ty.int i64) Ty.unit) p5))) (CV.pure (Ty.pair (Ty.int i64) (Ty.pair (Ty.int i64) Ty.unit)) p6)),Blk.mem (CV.pair (CV.nil 59 (Ty.pair (Ty.int i64) (Ty.pair (Ty.slice (Ty.int u32)) Ty.unit))) (CV.pure (Ty.pair (Ty.int i64) (Ty.pair (Ty.int i64) Ty.unit)) p7)),Blk.mem (CV.pair (CV.nil 59 (Ty.pair (Ty.int i64) (Ty.pair (Ty.slice (Ty.int u32)) Ty.unit))) (CV.pure (Ty.pair (Ty.int i64) (Ty.pair (Ty.int i64) Ty.unit)) p8)),Blk.mem (CV.jsl (Ty.int u32) p9),Blk.dead] 5)
noncomputable def Sp.S_58_102_0_0{R:Type}(K:List Int->Int->Int->List Int->List Int->(Int×Unit)->(Int×Int×Unit)->(Int×Int×Unit)->(Int×Int×Unit)->List Int->Option R)(k:E_58_102_0_0->Option R)(p0:List Int)(p1 p2:Int)(p3 p4:List Int)(p5:Int×Unit)(p6 p7 p8:Int×Int×Unit)(p9:List Int):Option R:=
 bif decide (p2<p1)then gd (inB p2 (length p0)) (bif getD p0 (toNat p2) (0:Int)!=(4294967295:Int)then k (E_58_102_0_0.e0 p2 p3 p4 p5 p6 p7 p8 p9)else K p0 p1 (wrap i64 (p2+1)) p3 p4 p5 p6 p7 p8 p9)else k (E_58_102_0_0.e1 p3 p4 p5 p6 p7 p8 p9)
noncomputable def Sp.L_58_102_0_0:Nat->List Int->Int->Int->List Int->List Int->(Int×Unit)->(Int×Int×Unit)->(Int×Int×Unit)->(Int×Int×Unit)->List Int->Option E_58_102_0_0
 |0,_,_,_,_,_,_,_,_,_,_=>none
 |m+1,p0,p1,p2,p3,p4,p5,p6,p7,p8,p9=>S_58_102_0_0 (L_58_102_0_0 m) some p0 p1 p2 p3 p4 p5 p6 p7 p8 p9
noncomputable def l_58_102_0_0(m:Nat)(a:T_58_102_0_0.E):Option E_58_102_0_0:=L_58_102_0_0 m a.1 a.2.1 a.2.2.1 a.2.2.2.1 a.2.2.2.2.1 a.2.2.2.2.2.1 a.2.2.2.2.2.2.1 a.2.2.2.2.2.2.2.1 a.2.2.2.2.2.2.2.2.1 a.2.2.2.2.2.2.2.2.2.1
noncomputable def O_58_102_0_0{R:Type}:Orc R:=orL T_58_102_0_0 (l_58_102_0_0 FU) Y_58_102_0_0
theorem OK_58_102_0_0{R:Type}:okF (R:=R) sm_58 2 (nf 102 0) O_58_102_0_0:=lp0 T_58_102_0_0 l_58_102_0_0 (fun R K k a=>S_58_102_0_0 (fun p0 p1 p2 p3 p4 p5 p6 p7 p8 p9=>K (p0,p1,p2,p3,p4,p5,p6,p7,p8,p9,())) k a.1 a.2.1 a.2.2.1 a.2.2.2.1 a.2.2.2.2.1 a.2.2.2.2.2.1 a.2.2.2.2.2.2.1 a.2.2.2.2.2.2.2.1 a.2.2.2.2.2.2.2.2.1 a.2.2.2.2.2.2.2.2.2.1) Y_58_102_0_0 (fun _ _ _=>by kernel_rfl) (fun _ _ _=>by
 unfold S_58_102_0_0
 repeat' first|apply gdN|apply condN|rfl) (ok0 _)
noncomputable def T_58_102_0_1:PS:=⟨19,[(0,.js (.int .u32)),(1,.kc (.clo 81 (.pure .unit PUnit.unit))),(7,.hv (.int .i64)),(8,.hv (.int .i64))],[.mem (.pr (.pr (.js (.int .u32)) (.pr (.js (.int .i64)) (.hv (.pair (.int .i64) .unit)))) (.hv Zy58_2)),.mem (.pr (.kc (.nil 59 Zy58_3)) (.hv Zy58_2)),.mem (.pr (.kc (.whole 5)) (.hv Zy58_2)),.mem (.js (.int .u32)),.dead,.vec 59 Zy58_3],6⟩
inductive Sp.E_58_102_0_1 where
 |e0 (p2:Int) (p3 p4:List Int) (p5:Int×Unit) (p6 p7 p8:Zt58_0) (p9:List Int) (p10:Zt58_1)
 |e1 (p3 p4:List Int) (p5:Int×Unit) (p6 p7 p8:Zt58_0) (p9:List Int) (p10:Zt58_1)
noncomputable def Sp.B_58_102_0_1{R:Type}(r:Option E_58_102_0_1)(k0:Int->List Int->List Int->(Int×Unit)->Zt58_0->Zt58_0->Zt58_0->List Int->Zt58_1->Option R)(k1:List Int->List Int->(Int×Unit)->Zt58_0->Zt58_0->Zt58_0->List Int->Zt58_1->Option R):Option R:=match r with
 |none=>none
 |some (.e0 p2 p3 p4 p5 p6 p7 p8 p9 p10)=>k0 p2 p3 p4 p5 p6 p7 p8 p9 p10
 |some (.e1 p3 p4 p5 p6 p7 p8 p9 p10)=>k1 p3 p4 p5 p6 p7 p8 p9 p10
noncomputable def Y_58_102_0_1{R:Type}(k:Ex->St->Option R):E_58_102_0_1->Option R
 | .e0 p2 p3 p4 p5 p6 p7 p8 p9 p10=>k Ex.ret (sx 19 [(4,CV.int i64 p2)] [Blk.mem (CV.pair (CV.pair (CV.jsl (Ty.int u32) p3) (CV.pair (CV.jsl (Ty.int i64) p4) (CV.pure (Ty.pair (Ty.int i64) Ty.unit) p5))) (CV.pure (Ty.pair (Ty.int i64) (Ty.pair (Ty.int i64) Ty.unit)) p6)),Blk.mem (CV.pair (CV.nil 59 (Ty.pair (Ty.int i64) (Ty.pair (Ty.slice (Ty.int u32)) Ty.unit))) (CV.pure (Ty.pair (Ty.int i64) (Ty.pair (Ty.int i64) Ty.unit)) p7)),Blk.mem (CV.pair (CV.whole 5) (CV.pure (Ty.pair (Ty.int i64) (Ty.pair (Ty.int i64) Ty.unit)) p8)),Blk.mem (CV.jsl (Ty.int u32) p9),Blk.dead,Blk.vec 59 (Ty.pair (Ty.int i64) (Ty.pair (Ty.slice (Ty.int u32)) Ty.unit)) p10] 6)
 | .e1 p3 p4 p5 p6 p7 p8 p9 p10=>k (Ex.exit 0) (sx 19 [] [Blk.mem (CV.pair (CV.pair (CV.jsl (Ty.int u32) p3) (CV.pair (CV.jsl (Ty.int i64) p4) (CV.pure (Ty.pair (Ty.int i64) Ty.unit) p5))) (CV.pure (Ty.pair (Ty.int i64) (Ty.pair (Ty.int i64) Ty.unit)) p6)),Blk.mem (CV.pair (CV.nil 59 (Ty.pair (Ty.int i64) (Ty.pair (Ty.slice (Ty.int u32)) Ty.unit))) (CV.pure (Ty.pair (Ty.int i64) (Ty.pair (Ty.int i64) Ty.unit)) p7)),Blk.mem (CV.pair (CV.whole 5) (CV.pure (Ty.pair (Ty.int i64) (Ty.pair (Ty.int i64) Ty.unit)) p8)),Blk.mem (CV.jsl (Ty.int u32) p9),Blk.dead,Blk.vec 59 (Ty.pair (Ty.int i64) (Ty.pair (Ty.slice (Ty.int u32)) Ty.unit)) p10] 6)
noncomputable def Sp.S_58_102_0_1{R:Type}(K:List Int->Int->Int->List Int->List Int->(Int×Unit)->(Int×Int×Unit)->(Int×Int×Unit)->(Int×Int×Unit)->List Int->(List (Int×List Int×Unit))->Option R)(k:E_58_102_0_1->Option R)(p0:List Int)(p1 p2:Int)(p3 p4:List Int)(p5:Int×Unit)(p6 p7 p8:Int×Int×Unit)(p9:List Int)(p10:List (Int×List Int×Unit)):Option R:=
 bif decide (p2<p1)then gd (inB p2 (length p0)) (bif getD p0 (toNat p2) (0:Int)!=(4294967295:Int)then k (E_58_102_0_1.e0 p2 p3 p4 p5 p6 p7 p8 p9 p10)else K p0 p1 (wrap i64 (p2+1)) p3 p4 p5 p6 p7 p8 p9 p10)else k (E_58_102_0_1.e1 p3 p4 p5 p6 p7 p8 p9 p10)
noncomputable def Sp.L_58_102_0_1:Nat->List Int->Int->Int->List Int->List Int->(Int×Unit)->(Int×Int×Unit)->(Int×Int×Unit)->(Int×Int×Unit)->List Int->(List (Int×List Int×Unit))->Option E_58_102_0_1
 |0,_,_,_,_,_,_,_,_,_,_,_=>none
 |m+1,p0,p1,p2,p3,p4,p5,p6,p7,p8,p9,p10=>S_58_102_0_1 (L_58_102_0_1 m) some p0 p1 p2 p3 p4 p5 p6 p7 p8 p9 p10
noncomputable def l_58_102_0_1(m:Nat)(a:T_58_102_0_1.E):Option E_58_102_0_1:=L_58_102_0_1 m a.1 a.2.1 a.2.2.1 a.2.2.2.1 a.2.2.2.2.1 a.2.2.2.2.2.1 a.2.2.2.2.2.2.1 a.2.2.2.2.2.2.2.1 a.2.2.2.2.2.2.2.2.1 a.2.2.2.2.2.2.2.2.2.1 a.2.2.2.2.2.2.2.2.2.2.1
noncomputable def O_58_102_0_1{R:Type}:Orc R:=orL T_58_102_0_1 (l_58_102_0_1 FU) Y_58_102_0_1 O_58_102_0_0
theorem OK_58_102_0_1{R:Type}:okF (R:=R) sm_58 2 (nf 102 0) O_58_102_0_1:=lp0 T_58_102_0_1 l_58_102_0_1 (fun R K k a=>S_58_102_0_1 (fun p0 p1 p2 p3 p4 p5 p6 p7 p8 p9 p10=>K (p0,p1,p2,p3,p4,p5,p6,p7,p8,p9,p10,())) k a.1 a.2.1 a.2.2.1 a.2.2.2.1 a.2.2.2.2.1 a.2.2.2.2.2.1 a.2.2.2.2.2.2.1 a.2.2.2.2.2.2.2.1 a.2.2.2.2.2.2.2.2.1 a.2.2.2.2.2.2.2.2.2.1 a.2.2.2.2.2.2.2.2.2.2.1) Y_58_102_0_1 (fun _ _ _=>by kernel_rfl) (fun _ _ _=>by
 unfold S_58_102_0_1
 repeat' first|apply gdN|apply condN|rfl) OK_58_102_0_0
noncomputable def g_58_102{R:Type}:List CV->List Blk->(CV->List Blk->Option R)->Option R:=evFnL sm_58 FU (ovr noO (evFn sm_58 fns FU 2)) (mkT (fB fns 102) [O_58_102_0_1]) (fO fns 102)
theorem g_58_102_ok{R:Type}(args:List CV)(hp:List Blk)(k:CV->List Blk->Option R)(r:R)(h:g_58_102 args hp k=some r):evFn sm_58 fns FU 3 102 args hp k=some r:=runG noO_ok (os:=[O_58_102_0_1]) ⟨OK_58_102_0_1,trivial⟩ h
noncomputable def ov_58_80{R:Type}:Nat->Option (List CV->List Blk->(CV->List Blk->Option R)->Option R):=fun f'=>bif Nat.beq f' 102 then some g_58_102 else none
theorem ov_58_80_ok{R:Type}:OvrOK (R:=R) ov_58_80 (evFn sm_58 fns FU 3):=by
 intro f' g h args hp k r hg
 dsimp only[ov_58_80]at h
 by_cases h102:f'=102
 ·subst h102
  injection h with h
  subst h
  exact evFn_le 0 (g_58_102_ok _ _ _ _ hg)
 rw[nbeq_ne h102,cond_false]at h
 cases h
noncomputable def g_58_80{R:Type}:List CV->List Blk->(CV->List Blk->Option R)->Option R:=evFnL sm_58 FU (ovr ov_58_80 (evFn sm_58 fns FU 3)) (mkT (fB fns 80) []) (fO fns 80)
theorem g_58_80_ok{R:Type}(args:List CV)(hp:List Blk)(k:CV->List Blk->Option R)(r:R)(h:g_58_80 args hp k=some r):evFn sm_58 fns FU 4 80 args hp k=some r:=runG ov_58_80_ok (os:=[]) trivial h
noncomputable def ov_58_58{R:Type}:Nat->Option (List CV->List Blk->(CV->List Blk->Option R)->Option R):=fun f'=>bif Nat.beq f' 79 then some g_58_79 else bif Nat.beq f' 80 then some g_58_80 else bif Nat.beq f' 101 then some g_58_101 else none
theorem ov_58_58_ok{R:Type}:OvrOK (R:=R) ov_58_58 (evFn sm_58 fns FU 4):=by
 intro f' g h args hp k r hg
 dsimp only[ov_58_58]at h
 by_cases h79:f'=79
 ·subst h79
  injection h with h
  subst h
  exact evFn_le 0 (g_58_79_ok _ _ _ _ hg)
 rw[nbeq_ne h79,cond_false]at h
 by_cases h80:f'=80
 ·subst h80
  injection h with h
  subst h
  exact evFn_le 0 (g_58_80_ok _ _ _ _ hg)
 rw[nbeq_ne h80,cond_false]at h
 by_cases h101:f'=101
 ·subst h101
  injection h with h
  subst h
  exact evFn_le 1 (g_58_101_ok _ _ _ _ hg)
 rw[nbeq_ne h101,cond_false]at h
 cases h
noncomputable def F_58(a0:(((List Int)×((List Int)×(Int×Unit)))×(Int×(Int×Unit))))(a1:Int):Option (((List (Int×((List Int)×Unit)))×(Int×(Int×Unit)))×Unit) :=
 gd (p_49 ((a0.1.1,a0.1.2.1,a0.1.2.2),a0.2) a1 0) (gd (p_83 ((a0.1.1,a0.1.2.1,a0.1.2.2),a0.2)) (gd (p_49 ((a0.1.1,a0.1.2.1,a0.1.2.2),a0.2) a1 ((v_83 ((a0.1.1,a0.1.2.1,a0.1.2.2),a0.2)).1)) (gd (sl3 ((v_49 ((a0.1.1,a0.1.2.1,a0.1.2.2),a0.2) a1 0).1) ((v_49 ((a0.1.1,a0.1.2.1,a0.1.2.2),a0.2) a1 ((v_83 ((a0.1.1,a0.1.2.1,a0.1.2.2),a0.2)).1)).1) (↑(length (a0.1.1)):Int)) (B_58_101_0_0 (L_58_101_0_0 4611686018427387904 1 (a0.1.1) (a0.1.2.1) (a0.1.2.2) (a0.2) (0,0,PUnit.unit) (1,0,PUnit.unit) (take (toNat ((v_49 ((a0.1.1,a0.1.2.1,a0.1.2.2),a0.2) a1 ((v_83 ((a0.1.1,a0.1.2.1,a0.1.2.2),a0.2)).1)).1)-toNat ((v_49 ((a0.1.1,a0.1.2.1,a0.1.2.2),a0.2) a1 0).1)) (drop (toNat ((v_49 ((a0.1.1,a0.1.2.1,a0.1.2.2),a0.2) a1 0).1)) (a0.1.1)))) (fun y94 y95 y96 y97 y98 y99 y100=>gd (sl3 (y99.1) (↑(length (take (toNat ((v_49 ((a0.1.1,a0.1.2.1,a0.1.2.2),a0.2) a1 ((v_83 ((a0.1.1,a0.1.2.1,a0.1.2.2),a0.2)).1)).1)-toNat ((v_49 ((a0.1.1,a0.1.2.1,a0.1.2.2),a0.2) a1 0).1)) (drop (toNat ((v_49 ((a0.1.1,a0.1.2.1,a0.1.2.2),a0.2) a1 0).1)) (a0.1.1)))):Int) (↑(length (take (toNat ((v_49 ((a0.1.1,a0.1.2.1,a0.1.2.2),a0.2) a1 ((v_83 ((a0.1.1,a0.1.2.1,a0.1.2.2),a0.2)).1)).1)-toNat ((v_49 ((a0.1.1,a0.1.2.1,a0.1.2.2),a0.2) a1 0).1)) (drop (toNat ((v_49 ((a0.1.1,a0.1.2.1,a0.1.2.2),a0.2) a1 0).1)) (a0.1.1)))):Int)) (B_58_102_0_0 (L_58_102_0_0 4611686018427387904 (drop (toNat (y99.1)) (take (toNat ((v_49 ((a0.1.1,a0.1.2.1,a0.1.2.2),a0.2) a1 ((v_83 ((a0.1.1,a0.1.2.1,a0.1.2.2),a0.2)).1)).1)-toNat ((v_49 ((a0.1.1,a0.1.2.1,a0.1.2.2),a0.2) a1 0).1)) (drop (toNat ((v_49 ((a0.1.1,a0.1.2.1,a0.1.2.2),a0.2) a1 0).1)) (a0.1.1)))) (↑(length (drop (toNat (y99.1)) (take (toNat ((v_49 ((a0.1.1,a0.1.2.1,a0.1.2.2),a0.2) a1 ((v_83 ((a0.1.1,a0.1.2.1,a0.1.2.2),a0.2)).1)).1)-toNat ((v_49 ((a0.1.1,a0.1.2.1,a0.1.2.2),a0.2) a1 0).1)) (drop (toNat ((v_49 ((a0.1.1,a0.1.2.1,a0.1.2.2),a0.2) a1 0).1)) (a0.1.1))))):Int) 0 y94 y95 y96 y97 y98 y99 y100) (fun y101 y102 y103 y104 y105 y106 y107 y108=>bif !decide (y101>=0)then some (([],y107.1,wrap i64 ((↑(length (take (toNat ((v_49 ((a0.1.1,a0.1.2.1,a0.1.2.2),a0.2) a1 ((v_83 ((a0.1.1,a0.1.2.1,a0.1.2.2),a0.2)).1)).1)-toNat ((v_49 ((a0.1.1,a0.1.2.1,a0.1.2.2),a0.2) a1 0).1)) (drop (toNat ((v_49 ((a0.1.1,a0.1.2.1,a0.1.2.2),a0.2) a1 0).1)) (a0.1.1)))):Int)-y107.1),y107.2.2),PUnit.unit)else some (([],y107),PUnit.unit)) fun y109 y110 y111 y112 y113 y114 y115=>some (([],y114.1,wrap i64 ((↑(length (take (toNat ((v_49 ((a0.1.1,a0.1.2.1,a0.1.2.2),a0.2) a1 ((v_83 ((a0.1.1,a0.1.2.1,a0.1.2.2),a0.2)).1)).1)-toNat ((v_49 ((a0.1.1,a0.1.2.1,a0.1.2.2),a0.2) a1 0).1)) (drop (toNat ((v_49 ((a0.1.1,a0.1.2.1,a0.1.2.2),a0.2) a1 0).1)) (a0.1.1)))):Int)-y114.1),y114.2.2),PUnit.unit))) (fun y116 y117 y118 y119 y120 y121 y122=>gd (sl3 (y121.1) (↑(length (take (toNat ((v_49 ((a0.1.1,a0.1.2.1,a0.1.2.2),a0.2) a1 ((v_83 ((a0.1.1,a0.1.2.1,a0.1.2.2),a0.2)).1)).1)-toNat ((v_49 ((a0.1.1,a0.1.2.1,a0.1.2.2),a0.2) a1 0).1)) (drop (toNat ((v_49 ((a0.1.1,a0.1.2.1,a0.1.2.2),a0.2) a1 0).1)) (a0.1.1)))):Int) (↑(length (take (toNat ((v_49 ((a0.1.1,a0.1.2.1,a0.1.2.2),a0.2) a1 ((v_83 ((a0.1.1,a0.1.2.1,a0.1.2.2),a0.2)).1)).1)-toNat ((v_49 ((a0.1.1,a0.1.2.1,a0.1.2.2),a0.2) a1 0).1)) (drop (toNat ((v_49 ((a0.1.1,a0.1.2.1,a0.1.2.2),a0.2) a1 0).1)) (a0.1.1)))):Int)) (B_58_102_0_0 (L_58_102_0_0 4611686018427387904 (drop (toNat (y121.1)) (take (toNat ((v_49 ((a0.1.1,a0.1.2.1,a0.1.2.2),a0.2) a1 ((v_83 ((a0.1.1,a0.1.2.1,a0.1.2.2),a0.2)).1)).1)-toNat ((v_49 ((a0.1.1,a0.1.2.1,a0.1.2.2),a0.2) a1 0).1)) (drop (toNat ((v_49 ((a0.1.1,a0.1.2.1,a0.1.2.2),a0.2) a1 0).1)) (a0.1.1)))) (↑(length (drop (toNat (y121.1)) (take (toNat ((v_49 ((a0.1.1,a0.1.2.1,a0.1.2.2),a0.2) a1 ((v_83 ((a0.1.1,a0.1.2.1,a0.1.2.2),a0.2)).1)).1)-toNat ((v_49 ((a0.1.1,a0.1.2.1,a0.1.2.2),a0.2) a1 0).1)) (drop (toNat ((v_49 ((a0.1.1,a0.1.2.1,a0.1.2.2),a0.2) a1 0).1)) (a0.1.1))))):Int) 0 y116 y117 y118 y119 y120 y121 y122) (fun y123 y124 y125 y126 y127 y128 y129 y130=>bif !decide (y123>=0)then some (([],y129.1,wrap i64 ((↑(length (take (toNat ((v_49 ((a0.1.1,a0.1.2.1,a0.1.2.2),a0.2) a1 ((v_83 ((a0.1.1,a0.1.2.1,a0.1.2.2),a0.2)).1)).1)-toNat ((v_49 ((a0.1.1,a0.1.2.1,a0.1.2.2),a0.2) a1 0).1)) (drop (toNat ((v_49 ((a0.1.1,a0.1.2.1,a0.1.2.2),a0.2) a1 0).1)) (a0.1.1)))):Int)-y129.1),y129.2.2),PUnit.unit)else some (([],y129),PUnit.unit)) fun y131 y132 y133 y134 y135 y136 y137=>some (([],y136.1,wrap i64 ((↑(length (take (toNat ((v_49 ((a0.1.1,a0.1.2.1,a0.1.2.2),a0.2) a1 ((v_83 ((a0.1.1,a0.1.2.1,a0.1.2.2),a0.2)).1)).1)-toNat ((v_49 ((a0.1.1,a0.1.2.1,a0.1.2.2),a0.2) a1 0).1)) (drop (toNat ((v_49 ((a0.1.1,a0.1.2.1,a0.1.2.2),a0.2) a1 0).1)) (a0.1.1)))):Int)-y136.1),y136.2.2),PUnit.unit))) (fun y138 y139 y140 y141 y142 y143 y144 y145=>gd (sl3 (y143.1) (↑(length (take (toNat ((v_49 ((a0.1.1,a0.1.2.1,a0.1.2.2),a0.2) a1 ((v_83 ((a0.1.1,a0.1.2.1,a0.1.2.2),a0.2)).1)).1)-toNat ((v_49 ((a0.1.1,a0.1.2.1,a0.1.2.2),a0.2) a1 0).1)) (drop (toNat ((v_49 ((a0.1.1,a0.1.2.1,a0.1.2.2),a0.2) a1 0).1)) (a0.1.1)))):Int) (↑(length (take (toNat ((v_49 ((a0.1.1,a0.1.2.1,a0.1.2.2),a0.2) a1 ((v_83 ((a0.1.1,a0.1.2.1,a0.1.2.2),a0.2)).1)).1)-toNat ((v_49 ((a0.1.1,a0.1.2.1,a0.1.2.2),a0.2) a1 0).1)) (drop (toNat ((v_49 ((a0.1.1,a0.1.2.1,a0.1.2.2),a0.2) a1 0).1)) (a0.1.1)))):Int)) (B_58_102_0_1 (L_58_102_0_1 4611686018427387904 (drop (toNat (y143.1)) (take (toNat ((v_49 ((a0.1.1,a0.1.2.1,a0.1.2.2),a0.2) a1 ((v_83 ((a0.1.1,a0.1.2.1,a0.1.2.2),a0.2)).1)).1)-toNat ((v_49 ((a0.1.1,a0.1.2.1,a0.1.2.2),a0.2) a1 0).1)) (drop (toNat ((v_49 ((a0.1.1,a0.1.2.1,a0.1.2.2),a0.2) a1 0).1)) (a0.1.1)))) (↑(length (drop (toNat (y143.1)) (take (toNat ((v_49 ((a0.1.1,a0.1.2.1,a0.1.2.2),a0.2) a1 ((v_83 ((a0.1.1,a0.1.2.1,a0.1.2.2),a0.2)).1)).1)-toNat ((v_49 ((a0.1.1,a0.1.2.1,a0.1.2.2),a0.2) a1 0).1)) (drop (toNat ((v_49 ((a0.1.1,a0.1.2.1,a0.1.2.2),a0.2) a1 0).1)) (a0.1.1))))):Int) 0 y138 y139 y140 y141 y142 y143 y144 y145) (fun y146 y147 y148 y149 y150 y151 y152 y153 y154=>bif !decide (y146>=0)then some ((y154,y152.1,wrap i64 ((↑(length (take (toNat ((v_49 ((a0.1.1,a0.1.2.1,a0.1.2.2),a0.2) a1 ((v_83 ((a0.1.1,a0.1.2.1,a0.1.2.2),a0.2)).1)).1)-toNat ((v_49 ((a0.1.1,a0.1.2.1,a0.1.2.2),a0.2) a1 0).1)) (drop (toNat ((v_49 ((a0.1.1,a0.1.2.1,a0.1.2.2),a0.2) a1 0).1)) (a0.1.1)))):Int)-y152.1),y152.2.2),PUnit.unit)else some ((y154,y152),PUnit.unit)) fun y155 y156 y157 y158 y159 y160 y161 y162=>some ((y162,y160.1,wrap i64 ((↑(length (take (toNat ((v_49 ((a0.1.1,a0.1.2.1,a0.1.2.2),a0.2) a1 ((v_83 ((a0.1.1,a0.1.2.1,a0.1.2.2),a0.2)).1)).1)-toNat ((v_49 ((a0.1.1,a0.1.2.1,a0.1.2.2),a0.2) a1 0).1)) (drop (toNat ((v_49 ((a0.1.1,a0.1.2.1,a0.1.2.2),a0.2) a1 0).1)) (a0.1.1)))):Int)-y160.1),y160.2.2),PUnit.unit))) fun y163 y164 y165 y166 y167 y168 y169 y170=>gd (sl3 (y168.1) (↑(length (take (toNat ((v_49 ((a0.1.1,a0.1.2.1,a0.1.2.2),a0.2) a1 ((v_83 ((a0.1.1,a0.1.2.1,a0.1.2.2),a0.2)).1)).1)-toNat ((v_49 ((a0.1.1,a0.1.2.1,a0.1.2.2),a0.2) a1 0).1)) (drop (toNat ((v_49 ((a0.1.1,a0.1.2.1,a0.1.2.2),a0.2) a1 0).1)) (a0.1.1)))):Int) (↑(length (take (toNat ((v_49 ((a0.1.1,a0.1.2.1,a0.1.2.2),a0.2) a1 ((v_83 ((a0.1.1,a0.1.2.1,a0.1.2.2),a0.2)).1)).1)-toNat ((v_49 ((a0.1.1,a0.1.2.1,a0.1.2.2),a0.2) a1 0).1)) (drop (toNat ((v_49 ((a0.1.1,a0.1.2.1,a0.1.2.2),a0.2) a1 0).1)) (a0.1.1)))):Int)) (B_58_102_0_1 (L_58_102_0_1 4611686018427387904 (drop (toNat (y168.1)) (take (toNat ((v_49 ((a0.1.1,a0.1.2.1,a0.1.2.2),a0.2) a1 ((v_83 ((a0.1.1,a0.1.2.1,a0.1.2.2),a0.2)).1)).1)-toNat ((v_49 ((a0.1.1,a0.1.2.1,a0.1.2.2),a0.2) a1 0).1)) (drop (toNat ((v_49 ((a0.1.1,a0.1.2.1,a0.1.2.2),a0.2) a1 0).1)) (a0.1.1)))) (↑(length (drop (toNat (y168.1)) (take (toNat ((v_49 ((a0.1.1,a0.1.2.1,a0.1.2.2),a0.2) a1 ((v_83 ((a0.1.1,a0.1.2.1,a0.1.2.2),a0.2)).1)).1)-toNat ((v_49 ((a0.1.1,a0.1.2.1,a0.1.2.2),a0.2) a1 0).1)) (drop (toNat ((v_49 ((a0.1.1,a0.1.2.1,a0.1.2.2),a0.2) a1 0).1)) (a0.1.1))))):Int) 0 y163 y164 y165 y166 y167 y168 y169 y170) (fun y171 y172 y173 y174 y175 y176 y177 y178 y179=>bif !decide (y171>=0)then some ((y179,y177.1,wrap i64 ((↑(length (take (toNat ((v_49 ((a0.1.1,a0.1.2.1,a0.1.2.2),a0.2) a1 ((v_83 ((a0.1.1,a0.1.2.1,a0.1.2.2),a0.2)).1)).1)-toNat ((v_49 ((a0.1.1,a0.1.2.1,a0.1.2.2),a0.2) a1 0).1)) (drop (toNat ((v_49 ((a0.1.1,a0.1.2.1,a0.1.2.2),a0.2) a1 0).1)) (a0.1.1)))):Int)-y177.1),y177.2.2),PUnit.unit)else some ((y179,y177),PUnit.unit)) fun y180 y181 y182 y183 y184 y185 y186 y187=>some ((y187,y185.1,wrap i64 ((↑(length (take (toNat ((v_49 ((a0.1.1,a0.1.2.1,a0.1.2.2),a0.2) a1 ((v_83 ((a0.1.1,a0.1.2.1,a0.1.2.2),a0.2)).1)).1)-toNat ((v_49 ((a0.1.1,a0.1.2.1,a0.1.2.2),a0.2) a1 0).1)) (drop (toNat ((v_49 ((a0.1.1,a0.1.2.1,a0.1.2.2),a0.2) a1 0).1)) (a0.1.1)))):Int)-y185.1),y185.2.2),PUnit.unit))))))
noncomputable def Sp.p_58(a0:(((List Int)×((List Int)×(Int×Unit)))×(Int×(Int×Unit))))(a1:Int):Bool:=(F_58 a0 a1).isSome
noncomputable def Sp.v_58(a0:(((List Int)×((List Int)×(Int×Unit)))×(Int×(Int×Unit))))(a1:Int):((List (Int×((List Int)×Unit)))×(Int×(Int×Unit)))×Unit:=(F_58 a0 a1).getD (dfH R_58)
noncomputable def s_58:Summ:=ownJ A_58 59 [] Zy58_4 [] (fun x=>p_58 x.1 x.2.1) (fun x=>v_58 x.1 x.2.1)
theorem pv_58(a0:(((List Int)×((List Int)×(Int×Unit)))×(Int×(Int×Unit))))(a1:Int){y:((List (Int×((List Int)×Unit)))×(Int×(Int×Unit)))×Unit}(h:F_58 a0 a1=some y):p_58 a0 a1=true/\v_58 a0 a1=y:=pvG h
theorem run_58(x:HDen A_58)(y:HDen R_58)(h:F_58 x.1 x.2.1=some y):evFn sm_58 fns FU 5 58 (ofJ A_58 x) [] (ownK 59 [] Zy58_4 [])=some y:=runG ov_58_58_ok (os:=[]) trivial (Eq.trans (by kernel_rfl) h)
end
noncomputable section
abbrev A_59:List Ty:=[(.int .i64),(.slice (.int .u32))]
abbrev R_59:List Ty:=[(.slice (.int .u32))]
noncomputable def sm_59:Nat->Option Summ:=smL [(50,s_50),(82,s_82)]
noncomputable def F_59(a0:Int)(a1:(List Int)):Option ((List Int)×Unit) :=
 gd (p_50 (wrap i64 (wrap i64 (256*a0)+(↑(length a1):Int)))) (gd (room (1+length a1) 4) (gd (p_82 ([(v_50 (wrap i64 (wrap i64 (256*a0)+(↑(length a1):Int)))).1]++a1)) (gd (p_50 ((v_82 ([(v_50 (wrap i64 (wrap i64 (256*a0)+(↑(length a1):Int)))).1]++a1)).1)) (gd (room (length ([(v_50 (wrap i64 (wrap i64 (256*a0)+(↑(length a1):Int)))).1]++a1)+1) 4) (some ([(v_50 (wrap i64 (wrap i64 (256*a0)+(↑(length a1):Int)))).1]++a1++[(v_50 ((v_82 ([(v_50 (wrap i64 (wrap i64 (256*a0)+(↑(length a1):Int)))).1]++a1)).1)).1],PUnit.unit))))))
noncomputable def Sp.p_59(a0:Int)(a1:(List Int)):Bool:=(F_59 a0 a1).isSome
noncomputable def Sp.v_59(a0:Int)(a1:(List Int)):(List Int)×Unit:=(F_59 a0 a1).getD (dfH R_59)
noncomputable def s_59:Summ:=shS A_59 R_59 (fun x=>p_59 x.1 x.2.1) (fun x=>v_59 x.1 x.2.1)
theorem pv_59(a0:Int)(a1:(List Int)){y:(List Int)×Unit}(h:F_59 a0 a1=some y):p_59 a0 a1=true/\v_59 a0 a1=y:=pvG h
theorem run_59(x:HDen A_59)(y:HDen R_59)(h:F_59 x.1 x.2.1=some y):rnF sm_59 1 59 A_59 R_59 x y:=runG noO_ok (os:=[]) trivial (Eq.trans (by kernel_rfl) h)
end
noncomputable section
abbrev A_46:List Ty:=[(.pair (.pair (.slice (.int .u32)) (.pair (.slice (.int .i64)) (.pair (.int .i64) .unit))) (.pair (.int .i64) (.pair (.int .i64) .unit))),(.int .i64),(.int .i64)]
abbrev R_46:List Ty:=[(.slice (.pair .bool (.pair (.int .i64) (.pair (.int .u32) .unit)))),.bool]
noncomputable def sm_46:Nat->Option Summ:=smL []
noncomputable def T_46_0:PS:=⟨32,[(2,.hv (.int .i64)),(3,.kc (.ptr 0 [])),(8,.kc (.whole 1)),(9,.hv (.int .i64))],[.mem (.hv (.pair (.pair (.slice (.int .u32)) (.pair (.slice (.int .i64)) (.pair (.int .i64) .unit))) (.pair (.int .i64) (.pair (.int .i64) .unit)))),.vec 106 (.pair .bool (.pair (.int .i64) (.pair (.int .u32) .unit)))],0⟩
inductive Sp.E_46_0 where
 |e0
 |e1 (p3:List (Bool×Int×Int×Unit))
noncomputable def Sp.B_46_0{R:Type}(r:Option E_46_0)(k0:Option R)(k1:(List (Bool×Int×Int×Unit))->Option R):Option R:=match r with
 |none=>none
 |some (.e0)=>k0
 |some (.e1 p3)=>k1 p3
noncomputable def Y_46_0{R:Type}(k:Ex->St->Option R):E_46_0->Option R
 | .e0=>k Ex.ret (sx 32 [(6,CV.whole 0),(7,CV.bool false)] [Blk.vec 106 (Ty.pair Ty.bool (Ty.pair (Ty.int i64) (Ty.pair (Ty.int u32) Ty.unit))) []])
 | .e1 p3=>k (Ex.exit 0) (sx 32 [(8,CV.whole 0)] [Blk.vec 106 (Ty.pair Ty.bool (Ty.pair (Ty.int i64) (Ty.pair (Ty.int u32) Ty.unit))) p3])
noncomputable def Sp.S_46_0{R:Type}(K:Int->Int->((List Int×List Int×Int×Unit)×Int×Int×Unit)->(List (Bool×Int×Int×Unit))->Option R)(k:E_46_0->Option R)(p0 p1:Int)(p2:(List Int×List Int×Int×Unit)×Int×Int×Unit)(p3:List (Bool×Int×Int×Unit)):Option R:=
 bif decide (p1<p0)then gd (inB p1 (length (p2.1.2.1))) (bif decide (getD (p2.1.2.1) (toNat p1) 0>=p2.1.2.2.1)then k (E_46_0.e0)else gd (room (length p3+1) 24) (K p0 (wrap i64 (p1+1)) p2 (p3++[(true,p1,0,PUnit.unit)])))else k (E_46_0.e1 p3)
noncomputable def Sp.L_46_0:Nat->Int->Int->((List Int×List Int×Int×Unit)×Int×Int×Unit)->(List (Bool×Int×Int×Unit))->Option E_46_0
 |0,_,_,_,_=>none
 |m+1,p0,p1,p2,p3=>S_46_0 (L_46_0 m) some p0 p1 p2 p3
noncomputable def l_46_0(m:Nat)(a:T_46_0.E):Option E_46_0:=L_46_0 m a.1 a.2.1 a.2.2.1 a.2.2.2.1
noncomputable def O_46_0{R:Type}:Orc R:=orL T_46_0 (l_46_0 FU) Y_46_0
theorem OK_46_0{R:Type}:okF (R:=R) sm_46 0 (nf 46 0) O_46_0:=lp0 T_46_0 l_46_0 (fun R K k a=>S_46_0 (fun p0 p1 p2 p3=>K (p0,p1,p2,p3,())) k a.1 a.2.1 a.2.2.1 a.2.2.2.1) Y_46_0 (fun _ _ _=>by kernel_rfl) (fun _ _ _=>by
 unfold S_46_0
 repeat' first|apply gdN|apply condN|rfl) (ok0 _)
noncomputable def F_46(a0:(((List Int)×((List Int)×(Int×Unit)))×(Int×(Int×Unit))))(a1 a2:Int):Option ((List (Bool×(Int×(Int×Unit))))×Bool×Unit) :=
 B_46_0 (L_46_0 4611686018427387904 a2 a1 a0 []) (some ([],false,PUnit.unit)) fun y1=>some (y1,true,PUnit.unit)
noncomputable def Sp.p_46(a0:(((List Int)×((List Int)×(Int×Unit)))×(Int×(Int×Unit))))(a1 a2:Int):Bool:=(F_46 a0 a1 a2).isSome
noncomputable def Sp.v_46(a0:(((List Int)×((List Int)×(Int×Unit)))×(Int×(Int×Unit))))(a1 a2:Int):(List (Bool×(Int×(Int×Unit))))×Bool×Unit:=(F_46 a0 a1 a2).getD (dfH R_46)
noncomputable def s_46:Summ:=ownS A_46 106 [] (.slice (.pair .bool (.pair (.int .i64) (.pair (.int .u32) .unit)))) [.bool] (fun x=>p_46 x.1 x.2.1 x.2.2.1) (fun x=>v_46 x.1 x.2.1 x.2.2.1)
theorem pv_46(a0:(((List Int)×((List Int)×(Int×Unit)))×(Int×(Int×Unit))))(a1 a2:Int){y:(List (Bool×(Int×(Int×Unit))))×Bool×Unit}(h:F_46 a0 a1 a2=some y):p_46 a0 a1 a2=true/\v_46 a0 a1 a2=y:=pvG h
theorem run_46(x:HDen A_46)(y:HDen R_46)(h:F_46 x.1 x.2.1 x.2.2.1=some y):evFn sm_46 fns FU 1 46 (ofH A_46 x) [] (ownK 106 [] (.slice (.pair .bool (.pair (.int .i64) (.pair (.int .u32) .unit)))) [.bool])=some y:=runG noO_ok (os:=[O_46_0]) ⟨OK_46_0,trivial⟩ (Eq.trans (by kernel_rfl) h)
end
noncomputable section
abbrev Zt60_0:Type:=(List Int×List Int×Int×Unit)×Int×Int×Unit
abbrev A_60:List Ty:=[(.pair (.pair (.slice (.int .u32)) (.pair (.slice (.int .i64)) (.pair (.int .i64) .unit))) (.pair (.int .i64) (.pair (.int .i64) .unit))),(.slice (.pair (.int .i64) (.pair (.slice (.int .u32)) .unit)))]
abbrev R_60:List Ty:=[(.slice (.pair .bool (.pair (.int .i64) (.pair (.int .u32) .unit)))),(.int .i64)]
noncomputable def sm_60:Nat->Option Summ:=smL [(46,s_46),(48,s_48),(49,s_49),(50,s_50),(57,s_57),(59,s_59),(77,s_77),(83,s_83)]
noncomputable def T_60_0:PS:=⟨88,[(2,.kc (.ptr 0 [])),(6,.hv (.int .i64)),(8,.hv (.int .i64)),(9,.kc (.whole 1)),(23,.hv (.slice (.pair (.int .i64) (.pair (.slice (.int .u32)) .unit)))),(24,.hv (.int .i64)),(25,.hv (.int .i64))],[.mem (.hv (.pair (.pair (.slice (.int .u32)) (.pair (.slice (.int .i64)) (.pair (.int .i64) .unit))) (.pair (.int .i64) (.pair (.int .i64) .unit)))),.vec 26 (.int .u32)],0⟩
inductive Sp.E_60_0 where
 |e0 (p0 p1:Int) (p5:Zt60_0) (p6:List Int)
noncomputable def Sp.B_60_0{R:Type}(r:Option E_60_0)(k0:Int->Int->Zt60_0->List Int->Option R):Option R:=match r with
 |none=>none
 |some (.e0 p0 p1 p5 p6)=>k0 p0 p1 p5 p6
noncomputable def Y_60_0{R:Type}(k:Ex->St->Option R):E_60_0->Option R
 | .e0 p0 p1 p5 p6=>k (Ex.exit 0) (sx 88 [(2,CV.ptr 0 []),(6,CV.int i64 p0),(8,CV.int i64 p1),(9,CV.whole 1)] [Blk.mem (CV.pure (Ty.pair (Ty.pair (Ty.slice (Ty.int u32)) (Ty.pair (Ty.slice (Ty.int i64)) (Ty.pair (Ty.int i64) Ty.unit))) (Ty.pair (Ty.int i64) (Ty.pair (Ty.int i64) Ty.unit))) p5),Blk.vec 26 (Ty.int u32) p6])
noncomputable def Sp.S_60_0{R:Type}(K:Int->Int->(List (Int×List Int×Unit))->Int->Int->((List Int×List Int×Int×Unit)×Int×Int×Unit)->List Int->Option R)(k:E_60_0->Option R)(p0 p1:Int)(p2:List (Int×List Int×Unit))(p3 p4:Int)(p5:(List Int×List Int×Int×Unit)×Int×Int×Unit)(p6:List Int):Option R:=
 bif decide (p4<p3)then gd (inB p4 (length p2)) (gd (p_59 ((getD p2 (toNat p4) Zd1).1) ((getD p2 (toNat p4) Zd1).2.1)) (gd (room (length p6+length ((v_59 ((getD p2 (toNat p4) Zd1).1) ((getD p2 (toNat p4) Zd1).2.1)).1)) 4) (K p0 p1 p2 p3 (wrap i64 (p4+1)) p5 (p6++(v_59 ((getD p2 (toNat p4) Zd1).1) ((getD p2 (toNat p4) Zd1).2.1)).1))))else k (E_60_0.e0 p0 p1 p5 p6)
noncomputable def Sp.L_60_0:Nat->Int->Int->(List (Int×List Int×Unit))->Int->Int->((List Int×List Int×Int×Unit)×Int×Int×Unit)->List Int->Option E_60_0
 |0,_,_,_,_,_,_,_=>none
 |m+1,p0,p1,p2,p3,p4,p5,p6=>S_60_0 (L_60_0 m) some p0 p1 p2 p3 p4 p5 p6
noncomputable def l_60_0(m:Nat)(a:T_60_0.E):Option E_60_0:=L_60_0 m a.1 a.2.1 a.2.2.1 a.2.2.2.1 a.2.2.2.2.1 a.2.2.2.2.2.1 a.2.2.2.2.2.2.1
noncomputable def O_60_0{R:Type}:Orc R:=orL T_60_0 (l_60_0 FU) Y_60_0
theorem OK_60_0{R:Type}:okF (R:=R) sm_60 0 (nf 60 0) O_60_0:=lp0 T_60_0 l_60_0 (fun R K k a=>S_60_0 (fun p0 p1 p2 p3 p4 p5 p6=>K (p0,p1,p2,p3,p4,p5,p6,())) k a.1 a.2.1 a.2.2.1 a.2.2.2.1 a.2.2.2.2.1 a.2.2.2.2.2.1 a.2.2.2.2.2.2.1) Y_60_0 (fun _ _ _=>by kernel_rfl) (fun _ _ _=>by
 unfold S_60_0
 repeat' first|apply gdN|apply condN|rfl) (ok0 _)
noncomputable def F_60(a0:(((List Int)×((List Int)×(Int×Unit)))×(Int×(Int×Unit))))(a1:(List (Int×((List Int)×Unit)))):Option ((List (Bool×(Int×(Int×Unit))))×Int×Unit) :=
 gd (p_57 a0) (B_60_0 (L_60_0 4611686018427387904 ((v_57 a0).1) (wrap i64 (1-(v_57 a0).1)) a1 (↑(length a1):Int) 0 a0 []) fun y4 y5 y6 y7=>gd (p_83 y6) (bif decide (wrap i64 (1+(↑(length y7):Int))>(v_83 y6).1)then some ([],5,PUnit.unit)else gd (p_46 y6 (wrap i64 (y6.2.1+wrap i64 (Int.tdiv (wrap i64 (y5*y6.2.2.1)) 2))) (wrap i64 (wrap i64 (y6.2.1+wrap i64 (Int.tdiv (wrap i64 (y5*y6.2.2.1)) 2))+wrap i64 (Int.tdiv (y6.2.2.1) 2)))) (gd (p_77 y6 y4) (bif !(v_46 y6 (wrap i64 (y6.2.1+wrap i64 (Int.tdiv (wrap i64 (y5*y6.2.2.1)) 2))) (wrap i64 (wrap i64 (y6.2.1+wrap i64 (Int.tdiv (wrap i64 (y5*y6.2.2.1)) 2))+wrap i64 (Int.tdiv (y6.2.2.1) 2)))).2.1 then some ([],19,PUnit.unit)else bif decide (wrap i64 ((v_77 y6 y4).1+1)>65535)then some ([],19,PUnit.unit)else gd (p_49 y6 y5 1) (gd (p_48 ((v_49 y6 y5 1).1) y7) (gd (room (length ((v_46 y6 (wrap i64 (y6.2.1+wrap i64 (Int.tdiv (wrap i64 (y5*y6.2.2.1)) 2))) (wrap i64 (wrap i64 (y6.2.1+wrap i64 (Int.tdiv (wrap i64 (y5*y6.2.2.1)) 2))+wrap i64 (Int.tdiv (y6.2.2.1) 2)))).1)+length ((v_48 ((v_49 y6 y5 1).1) y7).1)) 24) (gd (p_49 y6 y5 0) (gd (p_50 (wrap i64 ((v_77 y6 y4).1+1))) (gd (room (length ((v_46 y6 (wrap i64 (y6.2.1+wrap i64 (Int.tdiv (wrap i64 (y5*y6.2.2.1)) 2))) (wrap i64 (wrap i64 (y6.2.1+wrap i64 (Int.tdiv (wrap i64 (y5*y6.2.2.1)) 2))+wrap i64 (Int.tdiv (y6.2.2.1) 2)))).1++(v_48 ((v_49 y6 y5 1).1) y7).1)+1) 24) (some ((v_46 y6 (wrap i64 (y6.2.1+wrap i64 (Int.tdiv (wrap i64 (y5*y6.2.2.1)) 2))) (wrap i64 (wrap i64 (y6.2.1+wrap i64 (Int.tdiv (wrap i64 (y5*y6.2.2.1)) 2))+wrap i64 (Int.tdiv (y6.2.2.1) 2)))).1++(v_48 ((v_49 y6 y5 1).1) y7).1++[(false,(v_49 y6 y5 0).1,(v_50 (wrap i64 ((v_77 y6 y4).1+1))).1,PUnit.unit)],0,PUnit.unit)))))))))))
noncomputable def Sp.p_60(a0:(((List Int)×((List Int)×(Int×Unit)))×(Int×(Int×Unit))))(a1:(List (Int×((List Int)×Unit)))):Bool:=(F_60 a0 a1).isSome
noncomputable def Sp.v_60(a0:(((List Int)×((List Int)×(Int×Unit)))×(Int×(Int×Unit))))(a1:(List (Int×((List Int)×Unit)))):(List (Bool×(Int×(Int×Unit))))×Int×Unit:=(F_60 a0 a1).getD (dfH R_60)
noncomputable def s_60:Summ:=shS A_60 R_60 (fun x=>p_60 x.1 x.2.1) (fun x=>v_60 x.1 x.2.1)
theorem pv_60(a0:(((List Int)×((List Int)×(Int×Unit)))×(Int×(Int×Unit))))(a1:(List (Int×((List Int)×Unit)))){y:(List (Bool×(Int×(Int×Unit))))×Int×Unit}(h:F_60 a0 a1=some y):p_60 a0 a1=true/\v_60 a0 a1=y:=pvG h
theorem run_60(x:HDen A_60)(y:HDen R_60)(h:F_60 x.1 x.2.1=some y):rnF sm_60 1 60 A_60 R_60 x y:=runG noO_ok (os:=[O_60_0]) ⟨OK_60_0,trivial⟩ (Eq.trans (by kernel_rfl) h)
end
noncomputable section
abbrev A_19:List Ty:=[(.pair (.pair (.slice (.int .u32)) (.pair (.slice (.int .i64)) (.pair (.int .i64) .unit))) (.pair (.int .i64) (.pair (.int .i64) .unit))),(.int .i64),(.slice (.int .u32)),(.pair (.int .i64) (.pair (.int .u32) .unit))]
abbrev R_19:List Ty:=[(.pair (.pair (.slice (.int .u32)) (.pair (.slice (.int .i64)) (.pair (.int .i64) .unit))) (.pair (.int .i64) (.pair (.int .i64) .unit))),(.pair (.int .i64) (.pair (.int .u32) .unit)),(.int .i64)]
noncomputable def sm_19:Nat->Option Summ:=smL [(26,s_26),(44,s_44),(47,s_47),(48,s_48),(49,s_49),(57,s_57),(58,s_58),(59,s_59),(60,s_60),(61,s_61)]
noncomputable def F_19(a0:(((List Int)×((List Int)×(Int×Unit)))×(Int×(Int×Unit))))(a1:Int)(a2:(List Int))(a3:(Int×(Int×Unit))):Option ((((List Int)×((List Int)×(Int×Unit)))×(Int×(Int×Unit)))×(Int×(Int×Unit))×Int×Unit) :=
 gd (p_26 a0) (bif !(v_26 a0).1 then some ((([],[],0,PUnit.unit),0,0,PUnit.unit),(0,0,PUnit.unit),1,PUnit.unit)else gd (p_44 a3) (bif !(v_44 a3).1 then some ((([],[],0,PUnit.unit),0,0,PUnit.unit),(0,0,PUnit.unit),1,PUnit.unit)else bif decide (a1<0)then some ((([],[],0,PUnit.unit),0,0,PUnit.unit),(0,0,PUnit.unit),2,PUnit.unit)else bif decide (a1>254)then some ((([],[],0,PUnit.unit),0,0,PUnit.unit),(0,0,PUnit.unit),2,PUnit.unit)else bif decide ((↑(length a2):Int)>24)then some ((([],[],0,PUnit.unit),0,0,PUnit.unit),(0,0,PUnit.unit),2,PUnit.unit)else gd (p_57 a0) (gd (p_58 a0 ((v_57 a0).1)) (gd (p_59 a1 a2) (bif decide ((↑(length ((v_59 a1 a2).1)):Int)<=(v_58 a0 ((v_57 a0).1)).1.2.2.1)then gd (p_49 a0 ((v_57 a0).1) ((v_58 a0 ((v_57 a0).1)).1.2.1)) (gd (p_48 ((v_49 a0 ((v_57 a0).1) ((v_58 a0 ((v_57 a0).1)).1.2.1)).1) ((v_59 a1 a2).1)) (gd (p_47 a0 ((v_48 ((v_49 a0 ((v_57 a0).1) ((v_58 a0 ((v_57 a0).1)).1.2.1)).1) ((v_59 a1 a2).1)).1) a3) (some ((((v_47 a0 ((v_48 ((v_49 a0 ((v_57 a0).1) ((v_58 a0 ((v_57 a0).1)).1.2.1)).1) ((v_59 a1 a2).1)).1) a3).1.1.1,(v_47 a0 ((v_48 ((v_49 a0 ((v_57 a0).1) ((v_58 a0 ((v_57 a0).1)).1.2.1)).1) ((v_59 a1 a2).1)).1) a3).1.1.2),(v_47 a0 ((v_48 ((v_49 a0 ((v_57 a0).1) ((v_58 a0 ((v_57 a0).1)).1.2.1)).1) ((v_59 a1 a2).1)).1) a3).1.2),(v_47 a0 ((v_48 ((v_49 a0 ((v_57 a0).1) ((v_58 a0 ((v_57 a0).1)).1.2.1)).1) ((v_59 a1 a2).1)).1) a3).2.1,(v_47 a0 ((v_48 ((v_49 a0 ((v_57 a0).1) ((v_58 a0 ((v_57 a0).1)).1.2.1)).1) ((v_59 a1 a2).1)).1) a3).2.2.1,PUnit.unit))))else gd (p_61 ((v_58 a0 ((v_57 a0).1)).1.1) a1 a2) (gd (p_60 a0 ((v_61 ((v_58 a0 ((v_57 a0).1)).1.1) a1 a2).1)) (bif(v_60 a0 ((v_61 ((v_58 a0 ((v_57 a0).1)).1.1) a1 a2).1)).2.1 !=0 then some ((([],[],0,PUnit.unit),0,0,PUnit.unit),(0,0,PUnit.unit),(v_60 a0 ((v_61 ((v_58 a0 ((v_57 a0).1)).1.1) a1 a2).1)).2.1,PUnit.unit)else gd (p_47 a0 ((v_60 a0 ((v_61 ((v_58 a0 ((v_57 a0).1)).1.1) a1 a2).1)).1) a3) (some ((((v_47 a0 ((v_60 a0 ((v_61 ((v_58 a0 ((v_57 a0).1)).1.1) a1 a2).1)).1) a3).1.1.1,(v_47 a0 ((v_60 a0 ((v_61 ((v_58 a0 ((v_57 a0).1)).1.1) a1 a2).1)).1) a3).1.1.2),(v_47 a0 ((v_60 a0 ((v_61 ((v_58 a0 ((v_57 a0).1)).1.1) a1 a2).1)).1) a3).1.2),(v_47 a0 ((v_60 a0 ((v_61 ((v_58 a0 ((v_57 a0).1)).1.1) a1 a2).1)).1) a3).2.1,(v_47 a0 ((v_60 a0 ((v_61 ((v_58 a0 ((v_57 a0).1)).1.1) a1 a2).1)).1) a3).2.2.1,PUnit.unit)))))))))
noncomputable def Sp.p_19(a0:(((List Int)×((List Int)×(Int×Unit)))×(Int×(Int×Unit))))(a1:Int)(a2:(List Int))(a3:(Int×(Int×Unit))):Bool:=(F_19 a0 a1 a2 a3).isSome
noncomputable def Sp.v_19(a0:(((List Int)×((List Int)×(Int×Unit)))×(Int×(Int×Unit))))(a1:Int)(a2:(List Int))(a3:(Int×(Int×Unit))):(((List Int)×((List Int)×(Int×Unit)))×(Int×(Int×Unit)))×(Int×(Int×Unit))×Int×Unit:=(F_19 a0 a1 a2 a3).getD (dfH R_19)
noncomputable def s_19:Summ:=ownS A_19 26 [] (.pair (.pair (.slice (.int .u32)) (.pair (.slice (.int .i64)) (.pair (.int .i64) .unit))) (.pair (.int .i64) (.pair (.int .i64) .unit))) [(.pair (.int .i64) (.pair (.int .u32) .unit)),(.int .i64)] (fun x=>p_19 x.1 x.2.1 x.2.2.1 x.2.2.2.1) (fun x=>v_19 x.1 x.2.1 x.2.2.1 x.2.2.2.1)
theorem pv_19(a0:(((List Int)×((List Int)×(Int×Unit)))×(Int×(Int×Unit))))(a1:Int)(a2:(List Int))(a3:(Int×(Int×Unit))){y:(((List Int)×((List Int)×(Int×Unit)))×(Int×(Int×Unit)))×(Int×(Int×Unit))×Int×Unit}(h:F_19 a0 a1 a2 a3=some y):p_19 a0 a1 a2 a3=true/\v_19 a0 a1 a2 a3=y:=pvG h
theorem run_19(x:HDen A_19)(y:HDen R_19)(h:F_19 x.1 x.2.1 x.2.2.1 x.2.2.2.1=some y):evFn sm_19 fns FU 1 19 (ofH A_19 x) [] (ownK 26 [] (.pair (.pair (.slice (.int .u32)) (.pair (.slice (.int .i64)) (.pair (.int .i64) .unit))) (.pair (.int .i64) (.pair (.int .i64) .unit))) [(.pair (.int .i64) (.pair (.int .u32) .unit)),(.int .i64)])=some y:=runG noO_ok (os:=[]) trivial (Eq.trans (by kernel_rfl) h)
end
noncomputable section
abbrev A_27:List Ty:=[]
abbrev R_27:List Ty:=[(.pair (.int .i64) (.pair (.int .u32) .unit))]
noncomputable def sm_27:Nat->Option Summ:=smL []
noncomputable def F_27:Option ((Int×(Int×Unit))×Unit) :=
 some ((1099511627776,0,PUnit.unit),PUnit.unit)
noncomputable def Sp.p_27:Bool:=(F_27).isSome
noncomputable def Sp.v_27:(Int×(Int×Unit))×Unit:=(F_27).getD (dfH R_27)
noncomputable def s_27:Summ:=shJN A_27 R_27 (fun x=>p_27) (fun x=>v_27)
theorem run_27(x:HDen A_27)(y:HDen R_27)(h:F_27=some y):rnF sm_27 1 27 A_27 R_27 x y:=runG noO_ok (os:=[]) trivial (Eq.trans (by kernel_rfl) h)
end
noncomputable section
abbrev A_28:List Ty:=[(.pair (.pair (.slice (.int .u32)) (.pair (.slice (.int .i64)) (.pair (.int .i64) .unit))) (.pair (.int .i64) (.pair (.int .i64) .unit)))]
abbrev R_28:List Ty:=[(.int .i64),(.int .i64)]
noncomputable def sm_28:Nat->Option Summ:=smL [(26,s_26),(57,s_57),(58,s_58)]
noncomputable def F_28(a0:(((List Int)×((List Int)×(Int×Unit)))×(Int×(Int×Unit)))):Option (Int×Int×Unit) :=
 gd (p_26 a0) (bif !(v_26 a0).1 then some (0,1,PUnit.unit)else gd (p_57 a0) (gd (p_58 a0 ((v_57 a0).1)) (some ((v_58 a0 ((v_57 a0).1)).1.2.2.1,0,PUnit.unit))))
noncomputable def Sp.p_28(a0:(((List Int)×((List Int)×(Int×Unit)))×(Int×(Int×Unit)))):Bool:=(F_28 a0).isSome
noncomputable def Sp.v_28(a0:(((List Int)×((List Int)×(Int×Unit)))×(Int×(Int×Unit)))):Int×Int×Unit:=(F_28 a0).getD (dfH R_28)
noncomputable def s_28:Summ:=shJN A_28 R_28 (fun x=>p_28 x.1) (fun x=>v_28 x.1)
theorem run_28(x:HDen A_28)(y:HDen R_28)(h:F_28 x.1=some y):rnF sm_28 1 28 A_28 R_28 x y:=runG noO_ok (os:=[]) trivial (Eq.trans (by kernel_rfl) h)
end
noncomputable section
abbrev A_34:List Ty:=[(.slice (.int .u32)),(.slice (.int .u32))]
abbrev R_34:List Ty:=[.bool]
noncomputable def sm_34:Nat->Option Summ:=smL []
noncomputable def T_34_0:PS:=⟨26,[(0,.hv (.slice (.int .u32))),(1,.hv (.slice (.int .u32))),(12,.hv (.int .i64)),(13,.hv (.int .i64))],[],0⟩
inductive Sp.E_34_0 where
 |e0
 |e1
noncomputable def Sp.B_34_0{R:Type}(r:Option E_34_0)(k0 k1:Option R):Option R:=match r with
 |none=>none
 |some (.e0)=>k0
 |some (.e1)=>k1
noncomputable def Y_34_0{R:Type}(k:Ex->St->Option R):E_34_0->Option R
 | .e0=>k Ex.ret (sx 26 [(4,CV.bool false)] [])
 | .e1=>k (Ex.exit 0) (sx 26 [] [])
noncomputable def Sp.S_34_0{R:Type}(K:List Int->List Int->Int->Int->Option R)(k:E_34_0->Option R)(p0 p1:List Int)(p2 p3:Int):Option R:=
 bif decide (p3<p2)then gd (inB p3 (length p0)) (gd (inB p3 (length p1)) (bif getD p0 (toNat p3) 0 !=getD p1 (toNat p3) 0 then k (E_34_0.e0)else K p0 p1 p2 (wrap i64 (p3+1))))else k (E_34_0.e1)
noncomputable def Sp.L_34_0:Nat->List Int->List Int->Int->Int->Option E_34_0
 |0,_,_,_,_=>none
 |m+1,p0,p1,p2,p3=>S_34_0 (L_34_0 m) some p0 p1 p2 p3
noncomputable def l_34_0(m:Nat)(a:T_34_0.E):Option E_34_0:=L_34_0 m a.1 a.2.1 a.2.2.1 a.2.2.2.1
noncomputable def O_34_0{R:Type}:Orc R:=orL T_34_0 (l_34_0 FU) Y_34_0
theorem OK_34_0{R:Type}:okF (R:=R) sm_34 0 (nf 34 0) O_34_0:=lp0 T_34_0 l_34_0 (fun R K k a=>S_34_0 (fun p0 p1 p2 p3=>K (p0,p1,p2,p3,())) k a.1 a.2.1 a.2.2.1 a.2.2.2.1) Y_34_0 (fun _ _ _=>by kernel_rfl) (fun _ _ _=>by
 unfold S_34_0
 repeat' first|apply gdN|apply condN|rfl) (ok0 _)
noncomputable def F_34(a0 a1:(List Int)):Option (Bool×Unit) :=
 bif(↑(length a0):Int)!=(↑(length a1):Int)then some (false,PUnit.unit)else B_34_0 (L_34_0 4611686018427387904 a0 a1 (↑(length a0):Int) 0) (some (false,PUnit.unit)) (some (true,PUnit.unit))
noncomputable def Sp.p_34(a0 a1:(List Int)):Bool:=(F_34 a0 a1).isSome
noncomputable def Sp.v_34(a0 a1:(List Int)):Bool×Unit:=(F_34 a0 a1).getD (dfH R_34)
noncomputable def s_34:Summ:=shJN A_34 R_34 (fun x=>p_34 x.1 x.2.1) (fun x=>v_34 x.1 x.2.1)
theorem pv_34(a0 a1:(List Int)){y:Bool×Unit}(h:F_34 a0 a1=some y):p_34 a0 a1=true/\v_34 a0 a1=y:=pvG h
theorem run_34(x:HDen A_34)(y:HDen R_34)(h:F_34 x.1 x.2.1=some y):rnF sm_34 1 34 A_34 R_34 x y:=runG noO_ok (os:=[O_34_0]) ⟨OK_34_0,trivial⟩ (Eq.trans (by kernel_rfl) h)
end
noncomputable section
abbrev A_18:List Ty:=[(.pair (.pair (.slice (.int .u32)) (.pair (.slice (.int .i64)) (.pair (.int .i64) .unit))) (.pair (.int .i64) (.pair (.int .i64) .unit)))]
abbrev R_18:List Ty:=[(.slice (.pair (.int .i64) (.pair (.slice (.int .u32)) .unit))),(.int .i64)]
noncomputable def sm_18:Nat->Option Summ:=smL [(26,s_26),(57,s_57),(58,s_58)]
noncomputable def F_18(a0:(((List Int)×((List Int)×(Int×Unit)))×(Int×(Int×Unit)))):Option ((List (Int×((List Int)×Unit)))×Int×Unit) :=
 gd (p_26 ((a0.1.1,a0.1.2.1,a0.1.2.2),a0.2)) (bif !(v_26 ((a0.1.1,a0.1.2.1,a0.1.2.2),a0.2)).1 then some ([],1,PUnit.unit)else gd (p_57 ((a0.1.1,a0.1.2.1,a0.1.2.2),a0.2)) (gd (p_58 ((a0.1.1,a0.1.2.1,a0.1.2.2),a0.2) ((v_57 ((a0.1.1,a0.1.2.1,a0.1.2.2),a0.2)).1)) (some ((v_58 ((a0.1.1,a0.1.2.1,a0.1.2.2),a0.2) ((v_57 ((a0.1.1,a0.1.2.1,a0.1.2.2),a0.2)).1)).1.1,0,PUnit.unit))))
noncomputable def Sp.p_18(a0:(((List Int)×((List Int)×(Int×Unit)))×(Int×(Int×Unit)))):Bool:=(F_18 a0).isSome
noncomputable def Sp.v_18(a0:(((List Int)×((List Int)×(Int×Unit)))×(Int×(Int×Unit)))):(List (Int×((List Int)×Unit)))×Int×Unit:=(F_18 a0).getD (dfH R_18)
noncomputable def s_18:Summ:=shJ A_18 R_18 (fun x=>p_18 x.1) (fun x=>v_18 x.1)
theorem pv_18(a0:(((List Int)×((List Int)×(Int×Unit)))×(Int×(Int×Unit)))){y:(List (Int×((List Int)×Unit)))×Int×Unit}(h:F_18 a0=some y):p_18 a0=true/\v_18 a0=y:=pvG h
theorem run_18(x:HDen A_18)(y:HDen R_18)(h:F_18 x.1=some y):evFn sm_18 fns FU 1 18 (ofJ A_18 x) [] (pureK [(.slice (.pair (.int .i64) (.pair (.slice (.int .u32)) .unit))),(.int .i64)])=some y:=runG noO_ok (os:=[]) trivial (Eq.trans (by kernel_rfl) h)
end
noncomputable section
abbrev A_36:List Ty:=[(.pair (.pair (.slice (.int .u32)) (.pair (.slice (.int .i64)) (.pair (.int .i64) .unit))) (.pair (.int .i64) (.pair (.int .i64) .unit))),(.int .i64)]
abbrev R_36:List Ty:=[(.slice (.int .u32)),(.int .i64)]
noncomputable def sm_36:Nat->Option Summ:=smL [(18,s_18)]
noncomputable def T_36_0:PS:=⟨39,[(1,.hv (.int .i64)),(26,.hv (.slice (.pair (.int .i64) (.pair (.slice (.int .u32)) .unit)))),(27,.hv (.int .i64)),(28,.hv (.int .i64))],[],0⟩
inductive Sp.E_36_0 where
 |e0 (p1:List (Int×List Int×Unit)) (p3:Int)
 |e1
noncomputable def Sp.B_36_0{R:Type}(r:Option E_36_0)(k0:(List (Int×List Int×Unit))->Int->Option R)(k1:Option R):Option R:=match r with
 |none=>none
 |some (.e0 p1 p3)=>k0 p1 p3
 |some (.e1)=>k1
noncomputable def Y_36_0{R:Type}(k:Ex->St->Option R):E_36_0->Option R
 | .e0 p1 p3=>k Ex.ret (sx 39 [(4,CV.pure (Ty.slice (Ty.int u32)) (((getD p1 (toNat p3) Zd1).2.1):(List Int))),(5,CV.int i64 0)] [])
 | .e1=>k (Ex.exit 1) (sx 39 [] [])
noncomputable def Sp.S_36_0{R:Type}(K:Int->(List (Int×List Int×Unit))->Int->Int->Option R)(k:E_36_0->Option R)(p0:Int)(p1:List (Int×List Int×Unit))(p2 p3:Int):Option R:=
 bif decide (p3<p2)then gd (inB p3 (length p1)) (bif(getD p1 (toNat p3) Zd1).1==p0 then k (E_36_0.e0 p1 p3)else K p0 p1 p2 (wrap i64 (p3+1)))else k (E_36_0.e1)
noncomputable def Sp.L_36_0:Nat->Int->(List (Int×List Int×Unit))->Int->Int->Option E_36_0
 |0,_,_,_,_=>none
 |m+1,p0,p1,p2,p3=>S_36_0 (L_36_0 m) some p0 p1 p2 p3
noncomputable def l_36_0(m:Nat)(a:T_36_0.E):Option E_36_0:=L_36_0 m a.1 a.2.1 a.2.2.1 a.2.2.2.1
noncomputable def O_36_0{R:Type}:Orc R:=orL T_36_0 (l_36_0 FU) Y_36_0
theorem OK_36_0{R:Type}:okF (R:=R) sm_36 0 (nf 36 0) O_36_0:=lp0 T_36_0 l_36_0 (fun R K k a=>S_36_0 (fun p0 p1 p2 p3=>K (p0,p1,p2,p3,())) k a.1 a.2.1 a.2.2.1 a.2.2.2.1) Y_36_0 (fun _ _ _=>by kernel_rfl) (fun _ _ _=>by
 unfold S_36_0
 repeat' first|apply gdN|apply condN|rfl) (ok0 _)
noncomputable def F_36(a0:(((List Int)×((List Int)×(Int×Unit)))×(Int×(Int×Unit))))(a1:Int):Option ((List Int)×Int×Unit) :=
 gd (p_18 a0) (bif(v_18 a0).2.1 !=0 then some ([],(v_18 a0).2.1,PUnit.unit)else bif decide (a1<0)then some ([],2,PUnit.unit)else bif decide (a1>254)then some ([],2,PUnit.unit)else B_36_0 (L_36_0 4611686018427387904 a1 ((v_18 a0).1) (↑(length ((v_18 a0).1)):Int) 0) (fun y2 y3=>some ((getD y2 (toNat y3) Zd1).2.1,0,PUnit.unit)) (some ([],7,PUnit.unit)))
noncomputable def Sp.p_36(a0:(((List Int)×((List Int)×(Int×Unit)))×(Int×(Int×Unit))))(a1:Int):Bool:=(F_36 a0 a1).isSome
noncomputable def Sp.v_36(a0:(((List Int)×((List Int)×(Int×Unit)))×(Int×(Int×Unit))))(a1:Int):(List Int)×Int×Unit:=(F_36 a0 a1).getD (dfH R_36)
noncomputable def s_36:Summ:=shS A_36 R_36 (fun x=>p_36 x.1 x.2.1) (fun x=>v_36 x.1 x.2.1)
theorem run_36(x:HDen A_36)(y:HDen R_36)(h:F_36 x.1 x.2.1=some y):rnF sm_36 1 36 A_36 R_36 x y:=runG noO_ok (os:=[O_36_0]) ⟨OK_36_0,trivial⟩ (Eq.trans (by kernel_rfl) h)
end
noncomputable section
abbrev A_11:List Ty:=[(.pair (.slice (.int .u32)) (.pair (.slice (.int .i64)) (.pair (.int .i64) .unit))),(.int .i64),(.int .i64),(.pair (.int .i64) (.pair (.int .u32) .unit))]
abbrev R_11:List Ty:=[(.pair (.pair (.slice (.int .u32)) (.pair (.slice (.int .i64)) (.pair (.int .i64) .unit))) (.pair (.int .i64) (.pair (.int .i64) .unit))),(.pair (.int .i64) (.pair (.int .u32) .unit)),(.int .i64)]
noncomputable def sm_11:Nat->Option Summ:=smL [(43,s_43),(44,s_44),(45,s_45),(46,s_46),(47,s_47),(48,s_48),(49,s_49),(50,s_50)]
noncomputable def T_11_0:PS:=⟨71,[(8,.kc (.ptr 0 [])),(9,.kc (.ptr 3 [])),(11,.kc (.clo 42 (.pure .unit PUnit.unit)))],[.mem (.pr (.pr (.kc (.whole 1)) (.pr (.kc (.whole 2)) (.hv (.pair (.int .i64) .unit)))) (.hv (.pair (.int .i64) (.pair (.int .i64) .unit)))),.vec 26 (.int .u32),.vec 3 (.int .i64),.mem (.hv (.pair (.int .i64) (.pair (.int .u32) .unit)))],0⟩
inductive Sp.E_11_0 where
 |e0
noncomputable def Sp.B_11_0{R:Type}(r:Option E_11_0)(k0:Option R):Option R:=match r with
 |none=>none
 |some (.e0)=>k0
noncomputable def Y_11_0{R:Type}(k:Ex->St->Option R):E_11_0->Option R
 | .e0=>k Ex.ret (sx 71 [(8,CV.ptr 0 []),(9,CV.ptr 3 []),(10,CV.int i64 1)] [Blk.mem (CV.pair (CV.pair (CV.whole 1) (CV.pair (CV.whole 2) (CV.pure (Ty.pair (Ty.int i64) Ty.unit) ((0,PUnit.unit):(Int×Unit))))) (CV.pure (Ty.pair (Ty.int i64) (Ty.pair (Ty.int i64) Ty.unit)) ((0,0,PUnit.unit):(Int×(Int×Unit))))),Blk.vec 26 (Ty.int u32) [],Blk.vec 3 (Ty.int i64) [],Blk.mem (CV.pure (Ty.pair (Ty.int i64) (Ty.pair (Ty.int u32) Ty.unit)) ((0,0,PUnit.unit):(Int×(Int×Unit))))])
noncomputable def Sp.S_11_0{R:Type}(k:E_11_0->Option R)(p0:Int×Unit)(p1:Int×Int×Unit)(p2 p3:List Int)(p4:Int×Int×Unit):Option R:=
 k (E_11_0.e0)
noncomputable def Sp.J_11_0(p0:Int×Unit)(p1:Int×Int×Unit)(p2 p3:List Int)(p4:Int×Int×Unit):Option E_11_0:=S_11_0 some p0 p1 p2 p3 p4
noncomputable def O_11_0{R:Type}:Orc R:=orL T_11_0 (fun a=>J_11_0 a.1 a.2.1 a.2.2.1 a.2.2.2.1 a.2.2.2.2.1) Y_11_0
theorem OK_11_0{R:Type}:okF (R:=R) sm_11 2 (nf 11 0) O_11_0:=jp noO_ok (os:=[]) trivial T_11_0 (fun R k a=>S_11_0 k a.1 a.2.1 a.2.2.1 a.2.2.2.1 a.2.2.2.2.1) Y_11_0 (fun k a=>by kernel_rfl) (fun Y a=>by
 unfold S_11_0
 repeat' first|apply gdN|apply condN|rfl) (ok0 _)
noncomputable def F_11(a0:((List Int)×((List Int)×(Int×Unit))))(a1 a2:Int)(a3:(Int×(Int×Unit))):Option ((((List Int)×((List Int)×(Int×Unit)))×(Int×(Int×Unit)))×(Int×(Int×Unit))×Int×Unit) :=
 gd (p_43 a0) (bif !(v_43 a0).1 then B_11_0 (J_11_0 (0,PUnit.unit) (0,0,PUnit.unit) [] [] (0,0,PUnit.unit)) (some ((([],[],0,PUnit.unit),0,0,PUnit.unit),(0,0,PUnit.unit),1,PUnit.unit))else gd (p_44 a3) (bif !(v_44 a3).1 then B_11_0 (J_11_0 (0,PUnit.unit) (0,0,PUnit.unit) [] [] (0,0,PUnit.unit)) (some ((([],[],0,PUnit.unit),0,0,PUnit.unit),(0,0,PUnit.unit),1,PUnit.unit))else gd (p_45 (a0,a1,a2,PUnit.unit)) (bif !(v_45 (a0,a1,a2,PUnit.unit)).1 then some ((([],[],0,PUnit.unit),0,0,PUnit.unit),(0,0,PUnit.unit),2,PUnit.unit)else gd (p_46 (a0,a1,a2,PUnit.unit) a1 (wrap i64 (a1+a2))) (bif !(v_46 (a0,a1,a2,PUnit.unit) a1 (wrap i64 (a1+a2))).2.1 then some ((([],[],0,PUnit.unit),0,0,PUnit.unit),(0,0,PUnit.unit),19,PUnit.unit)else gd (p_49 (a0,a1,a2,PUnit.unit) 0 0) (gd (p_50 1) (gd (p_48 ((v_49 (a0,a1,a2,PUnit.unit) 0 0).1) [(v_50 1).1]) (gd (room (length ((v_46 (a0,a1,a2,PUnit.unit) a1 (wrap i64 (a1+a2))).1)+length ((v_48 ((v_49 (a0,a1,a2,PUnit.unit) 0 0).1) [(v_50 1).1]).1)) 24) (gd (p_47 (a0,a1,a2,PUnit.unit) ((v_46 (a0,a1,a2,PUnit.unit) a1 (wrap i64 (a1+a2))).1++(v_48 ((v_49 (a0,a1,a2,PUnit.unit) 0 0).1) [(v_50 1).1]).1) a3) (some ((((v_47 (a0,a1,a2,PUnit.unit) ((v_46 (a0,a1,a2,PUnit.unit) a1 (wrap i64 (a1+a2))).1++(v_48 ((v_49 (a0,a1,a2,PUnit.unit) 0 0).1) [(v_50 1).1]).1) a3).1.1.1,(v_47 (a0,a1,a2,PUnit.unit) ((v_46 (a0,a1,a2,PUnit.unit) a1 (wrap i64 (a1+a2))).1++(v_48 ((v_49 (a0,a1,a2,PUnit.unit) 0 0).1) [(v_50 1).1]).1) a3).1.1.2),(v_47 (a0,a1,a2,PUnit.unit) ((v_46 (a0,a1,a2,PUnit.unit) a1 (wrap i64 (a1+a2))).1++(v_48 ((v_49 (a0,a1,a2,PUnit.unit) 0 0).1) [(v_50 1).1]).1) a3).1.2),(v_47 (a0,a1,a2,PUnit.unit) ((v_46 (a0,a1,a2,PUnit.unit) a1 (wrap i64 (a1+a2))).1++(v_48 ((v_49 (a0,a1,a2,PUnit.unit) 0 0).1) [(v_50 1).1]).1) a3).2.1,(v_47 (a0,a1,a2,PUnit.unit) ((v_46 (a0,a1,a2,PUnit.unit) a1 (wrap i64 (a1+a2))).1++(v_48 ((v_49 (a0,a1,a2,PUnit.unit) 0 0).1) [(v_50 1).1]).1) a3).2.2.1,PUnit.unit))))))))))
noncomputable def Sp.p_11(a0:((List Int)×((List Int)×(Int×Unit))))(a1 a2:Int)(a3:(Int×(Int×Unit))):Bool:=(F_11 a0 a1 a2 a3).isSome
noncomputable def Sp.v_11(a0:((List Int)×((List Int)×(Int×Unit))))(a1 a2:Int)(a3:(Int×(Int×Unit))):(((List Int)×((List Int)×(Int×Unit)))×(Int×(Int×Unit)))×(Int×(Int×Unit))×Int×Unit:=(F_11 a0 a1 a2 a3).getD (dfH R_11)
noncomputable def s_11:Summ:=ownS A_11 26 [] (.pair (.pair (.slice (.int .u32)) (.pair (.slice (.int .i64)) (.pair (.int .i64) .unit))) (.pair (.int .i64) (.pair (.int .i64) .unit))) [(.pair (.int .i64) (.pair (.int .u32) .unit)),(.int .i64)] (fun x=>p_11 x.1 x.2.1 x.2.2.1 x.2.2.2.1) (fun x=>v_11 x.1 x.2.1 x.2.2.1 x.2.2.2.1)
theorem pv_11(a0:((List Int)×((List Int)×(Int×Unit))))(a1 a2:Int)(a3:(Int×(Int×Unit))){y:(((List Int)×((List Int)×(Int×Unit)))×(Int×(Int×Unit)))×(Int×(Int×Unit))×Int×Unit}(h:F_11 a0 a1 a2 a3=some y):p_11 a0 a1 a2 a3=true/\v_11 a0 a1 a2 a3=y:=pvG h
theorem run_11(x:HDen A_11)(y:HDen R_11)(h:F_11 x.1 x.2.1 x.2.2.1 x.2.2.2.1=some y):evFn sm_11 fns FU 3 11 (ofH A_11 x) [] (ownK 26 [] (.pair (.pair (.slice (.int .u32)) (.pair (.slice (.int .i64)) (.pair (.int .i64) .unit))) (.pair (.int .i64) (.pair (.int .i64) .unit))) [(.pair (.int .i64) (.pair (.int .u32) .unit)),(.int .i64)])=some y:=runG noO_ok (os:=[O_11_0]) ⟨OK_11_0,trivial⟩ (Eq.trans (by kernel_rfl) h)
end
noncomputable section
abbrev A_108:List Ty:=[(.int .u32),(.int .u32)]
abbrev R_108:List Ty:=[(.int .u32),(.int .u32)]
noncomputable def sm_108:Nat->Option Summ:=smL []
noncomputable def F_108(a0 a1:Int):Option (Int×Int×Unit) :=
 some (wrap u32 (Int.fdiv (wrap u64 (wrap u64 a0*wrap u64 a1)) 4294967296),wrap u32 (wrap u64 (wrap u64 a0*wrap u64 a1)),PUnit.unit)
noncomputable def Sp.p_108(a0 a1:Int):Bool:=(F_108 a0 a1).isSome
noncomputable def Sp.v_108(a0 a1:Int):Int×Int×Unit:=(F_108 a0 a1).getD (dfH R_108)
noncomputable def s_108:Summ:=shJN A_108 R_108 (fun x=>p_108 x.1 x.2.1) (fun x=>v_108 x.1 x.2.1)
theorem run_108(x:HDen A_108)(y:HDen R_108)(h:F_108 x.1 x.2.1=some y):rnF sm_108 1 108 A_108 R_108 x y:=runG noO_ok (os:=[]) trivial (Eq.trans (by kernel_rfl) h)
end
noncomputable section
abbrev A_109:List Ty:=[(.int .u64),(.int .u64)]
abbrev R_109:List Ty:=[(.int .u64),(.int .u64)]
noncomputable def sm_109:Nat->Option Summ:=smL []
noncomputable def F_109(a0 a1:Int):Option (Int×Int×Unit) :=
 some (wrap u64 (wrap u64 (wrap u64 (Int.fdiv a0 4294967296*Int.fdiv a1 4294967296)+Int.fdiv (wrap u64 (wrap u64 (Int.fdiv a0 4294967296*Sp.andI u64 a1 4294967295)+Int.fdiv (wrap u64 (Sp.andI u64 a0 4294967295*Sp.andI u64 a1 4294967295)) 4294967296)) 4294967296)+Int.fdiv (wrap u64 (Sp.andI u64 (wrap u64 (wrap u64 (Int.fdiv a0 4294967296*Sp.andI u64 a1 4294967295)+Int.fdiv (wrap u64 (Sp.andI u64 a0 4294967295*Sp.andI u64 a1 4294967295)) 4294967296)) 4294967295+wrap u64 (Sp.andI u64 a0 4294967295*Int.fdiv a1 4294967296))) 4294967296),wrap u64 (a0*a1),PUnit.unit)
noncomputable def Sp.p_109(a0 a1:Int):Bool:=(F_109 a0 a1).isSome
noncomputable def Sp.v_109(a0 a1:Int):Int×Int×Unit:=(F_109 a0 a1).getD (dfH R_109)
noncomputable def s_109:Summ:=shJN A_109 R_109 (fun x=>p_109 x.1 x.2.1) (fun x=>v_109 x.1 x.2.1)
theorem run_109(x:HDen A_109)(y:HDen R_109)(h:F_109 x.1 x.2.1=some y):rnF sm_109 1 109 A_109 R_109 x y:=runG noO_ok (os:=[]) trivial (Eq.trans (by kernel_rfl) h)
end
noncomputable section
abbrev A_105:List Ty:=[(.int .u64),(.int .u64)]
abbrev R_105:List Ty:=[(.int .u64),(.int .u64)]
noncomputable def sm_105:Nat->Option Summ:=smL [(108,s_108),(109,s_109)]
noncomputable def F_105(a0 a1:Int):Option (Int×Int×Unit) :=
 gd (p_109 a0 a1) (some ((v_109 a0 a1).1,(v_109 a0 a1).2.1,PUnit.unit))
noncomputable def Sp.p_105(a0 a1:Int):Bool:=(F_105 a0 a1).isSome
noncomputable def Sp.v_105(a0 a1:Int):Int×Int×Unit:=(F_105 a0 a1).getD (dfH R_105)
noncomputable def s_105:Summ:=shJN A_105 R_105 (fun x=>p_105 x.1 x.2.1) (fun x=>v_105 x.1 x.2.1)
theorem run_105(x:HDen A_105)(y:HDen R_105)(h:F_105 x.1 x.2.1=some y):rnF sm_105 1 105 A_105 R_105 x y:=runG noO_ok (os:=[]) trivial (Eq.trans (by kernel_rfl) h)
end
noncomputable section
abbrev A_91:List Ty:=[(.slice (.int .u32)),(.int .i64)]
abbrev R_91:List Ty:=[(.slice (.int .u32))]
noncomputable def sm_91:Nat->Option Summ:=smL [(105,s_105)]
noncomputable def T_91_2:PS:=⟨48,[(7,.kc (.whole 0)),(8,.hv (.int .i64))],[.vec 26 (.int .u32)],0⟩
inductive Sp.E_91_2 where
 |e0 (p1:List Int)
noncomputable def Sp.B_91_2{R:Type}(r:Option E_91_2)(k0:List Int->Option R):Option R:=match r with
 |none=>none
 |some (.e0 p1)=>k0 p1
theorem Bn_91_2{A R:Type}{r:Option E_91_2}{f:A->Option R}{k0:List Int->Option A}{l0:List Int->Option R}(h0:∀p1,(k0 p1).bind f=l0 p1):(B_91_2 r k0).bind f=B_91_2 r l0:=by
 cases r with
 |none=>rfl
 |some e=>cases e<;>first|apply h0
noncomputable def Y_91_2{R:Type}(k:Ex->St->Option R):E_91_2->Option R
 | .e0 p1=>k (Ex.exit 0) (sx 48 [(7,CV.whole 0)] [Blk.vec 26 (Ty.int u32) p1])
noncomputable def Sp.S_91_2{R:Type}(K:Int->List Int->Option R)(k:E_91_2->Option R)(p0:Int)(p1:List Int):Option R:=
 bif decide (p0<(↑(length p1):Int))then gd (sl3 p0 (↑(length p1):Int) (↑(length p1):Int)) (gd (sl3 0 p0 (↑(length p1):Int)) (gd (decide (0+(toNat p0-0)<=length p1)&&decide (toNat p0+(toNat (↑(length p1):Int)-toNat p0)<=length p1)) (K (wrap i64 (p0+(↑(Nat.min (length (take (toNat p0-0) (drop 0 p1))) (toNat (↑(length p1):Int)-toNat p0)):Int))) (over p1 (toNat p0) (take (toNat (↑(length p1):Int)-toNat p0) (take (toNat p0-0) (drop 0 p1)))))))else k (E_91_2.e0 p1)
noncomputable def Sp.L_91_2:Nat->Int->List Int->Option E_91_2
 |0,_,_=>none
 |m+1,p0,p1=>S_91_2 (L_91_2 m) some p0 p1
noncomputable def l_91_2(m:Nat)(a:T_91_2.E):Option E_91_2:=L_91_2 m a.1 a.2.1
noncomputable def O_91_2{R:Type}:Orc R:=orL T_91_2 (l_91_2 FU) Y_91_2
theorem OK_91_2{R:Type}:okF (R:=R) sm_91 0 (ni (ni (nf 91 0) 0) 0) O_91_2:=lp0 T_91_2 l_91_2 (fun R K k a=>S_91_2 (fun p0 p1=>K (p0,p1,())) k a.1 a.2.1) Y_91_2 (fun _ _ _=>by kernel_rfl) (fun _ _ _=>by
 unfold S_91_2
 repeat' first|apply gdN|apply condN|rfl) (ok0 _)
noncomputable def T_91_1:PS:=⟨48,[(0,.hv (.slice (.int .u32))),(6,.hv (.int .u64))],[],0⟩
inductive Sp.E_91_1 where
 |e0 (y3:List Int)
noncomputable def Sp.B_91_1{R:Type}(r:Option E_91_1)(k0:List Int->Option R):Option R:=match r with
 |none=>none
 |some (.e0 y3)=>k0 y3
theorem Bn_91_1{A R:Type}{r:Option E_91_1}{f:A->Option R}{k0:List Int->Option A}{l0:List Int->Option R}(h0:∀y3,(k0 y3).bind f=l0 y3):(B_91_1 r k0).bind f=B_91_1 r l0:=by
 cases r with
 |none=>rfl
 |some e=>cases e<;>first|apply h0
noncomputable def Y_91_1{R:Type}(k:Ex->St->Option R):E_91_1->Option R
 | .e0 y3=>k Ex.ret (sx 48 [(4,CV.whole 0)] [Blk.vec 26 (Ty.int u32) y3])
noncomputable def Sp.S_91_1{R:Type}(k:E_91_1->Option R)(p0:List Int)(p1:Int):Option R:=
 gd (decide (0<=wrap i64 p1)&&(wrap i64 p1==wrap i64 p1&&room (toNat (wrap i64 p1)) 4)) (gd (decide (0+length (replicate (toNat (wrap i64 p1)) (0:Int))<=length (replicate (toNat (wrap i64 p1)) (0:Int)))) (B_91_2 (L_91_2 4611686018427387904 (↑(Nat.min (length p0) (length (replicate (toNat (wrap i64 p1)) (0:Int)))):Int) (over (replicate (toNat (wrap i64 p1)) (0:Int)) 0 (take (length (replicate (toNat (wrap i64 p1)) (0:Int))) p0))) fun y3=>k (E_91_1.e0 y3)))
noncomputable def Sp.J_91_1(p0:List Int)(p1:Int):Option E_91_1:=S_91_1 some p0 p1
noncomputable def O_91_1{R:Type}:Orc R:=orL T_91_1 (fun a=>J_91_1 a.1 a.2.1) Y_91_1
theorem OK_91_1{R:Type}:okF (R:=R) sm_91 0 (ni (nf 91 0) 0) O_91_1:=jp noO_ok (os:=[O_91_2]) ⟨OK_91_2,trivial⟩ T_91_1 (fun R k a=>S_91_1 k a.1 a.2.1) Y_91_1 (fun k a=>by kernel_rfl) (fun Y a=>by
 unfold S_91_1
 repeat' first|apply gdN|apply condN|(apply Bn_91_2<;>intros)|rfl) (ok0 _)
noncomputable def T_91_0:PS:=⟨48,[(0,.hv (.slice (.int .u32))),(1,.hv (.int .i64))],[],0⟩
inductive Sp.E_91_0 where
 |e0 (y1:List Int)
noncomputable def Sp.B_91_0{R:Type}(r:Option E_91_0)(k0:List Int->Option R):Option R:=match r with
 |none=>none
 |some (.e0 y1)=>k0 y1
noncomputable def Y_91_0{R:Type}(k:Ex->St->Option R):E_91_0->Option R
 | .e0 y1=>k Ex.ret (sx 48 [(4,CV.whole 0)] [Blk.vec 26 (Ty.int u32) y1])
noncomputable def Sp.S_91_0{R:Type}(k:E_91_0->Option R)(p0:List Int)(p1:Int):Option R:=
 gd (p_105 (wrap u64 (↑(length p0):Int)) (wrap u64 p1)) (bif decide ((v_105 (wrap u64 (↑(length p0):Int)) (wrap u64 p1)).1>0)then none else bif decide ((v_105 (wrap u64 (↑(length p0):Int)) (wrap u64 p1)).2.1>9223372036854775807)then none else B_91_1 (J_91_1 p0 ((v_105 (wrap u64 (↑(length p0):Int)) (wrap u64 p1)).2.1)) fun y1=>k (E_91_0.e0 y1))
noncomputable def Sp.J_91_0(p0:List Int)(p1:Int):Option E_91_0:=S_91_0 some p0 p1
noncomputable def O_91_0{R:Type}:Orc R:=orL T_91_0 (fun a=>J_91_0 a.1 a.2.1) Y_91_0
theorem OK_91_0{R:Type}:okF (R:=R) sm_91 0 (nf 91 0) O_91_0:=jp noO_ok (os:=[O_91_1]) ⟨OK_91_1,trivial⟩ T_91_0 (fun R k a=>S_91_0 k a.1 a.2.1) Y_91_0 (fun k a=>by kernel_rfl) (fun Y a=>by
 unfold S_91_0
 repeat' first|apply gdN|apply condN|(apply Bn_91_1<;>intros)|rfl) (ok0 _)
noncomputable def F_91(a0:(List Int))(a1:Int):Option ((List Int)×Unit) :=
 bif decide (a1<0)then none else B_91_0 (J_91_0 a0 a1) fun y1=>some (y1,PUnit.unit)
noncomputable def Sp.p_91(a0:(List Int))(a1:Int):Bool:=(F_91 a0 a1).isSome
noncomputable def Sp.v_91(a0:(List Int))(a1:Int):(List Int)×Unit:=(F_91 a0 a1).getD (dfH R_91)
noncomputable def s_91:Summ:=shS A_91 R_91 (fun x=>p_91 x.1 x.2.1) (fun x=>v_91 x.1 x.2.1)
theorem run_91(x:HDen A_91)(y:HDen R_91)(h:F_91 x.1 x.2.1=some y):rnF sm_91 1 91 A_91 R_91 x y:=runG noO_ok (os:=[O_91_0]) ⟨OK_91_0,trivial⟩ (Eq.trans (by kernel_rfl) h)
end
noncomputable section
abbrev A_70:List Ty:=[(.int .i64),(.int .i64)]
abbrev R_70:List Ty:=[(.pair (.slice (.int .u32)) (.pair (.slice (.int .i64)) (.pair (.int .i64) .unit))),(.int .i64)]
noncomputable def sm_70:Nat->Option Summ:=smL [(91,s_91)]
noncomputable def F_70(a0 a1:Int):Option (((List Int)×((List Int)×(Int×Unit)))×Int×Unit) :=
 bif decide (a0<1)then some (([],[],0,PUnit.unit),2,PUnit.unit)else bif decide (a0>64)then some (([],[],0,PUnit.unit),2,PUnit.unit)else bif decide (a1<1)then some (([],[],0,PUnit.unit),2,PUnit.unit)else bif decide (a1>1000000)then some (([],[],0,PUnit.unit),2,PUnit.unit)else gd (p_91 [4294967295] (wrap i64 (a0*64))) (gd (decide (0<=a0)&&(a0==a0&&room (toNat a0) 8)) (some (((v_91 [4294967295] (wrap i64 (a0*64))).1,replicate (toNat a0) (0:Int),a1,PUnit.unit),0,PUnit.unit)))
noncomputable def Sp.p_70(a0 a1:Int):Bool:=(F_70 a0 a1).isSome
noncomputable def Sp.v_70(a0 a1:Int):((List Int)×((List Int)×(Int×Unit)))×Int×Unit:=(F_70 a0 a1).getD (dfH R_70)
noncomputable def s_70:Summ:=shS A_70 R_70 (fun x=>p_70 x.1 x.2.1) (fun x=>v_70 x.1 x.2.1)
theorem run_70(x:HDen A_70)(y:HDen R_70)(h:F_70 x.1 x.2.1=some y):rnF sm_70 1 70 A_70 R_70 x y:=runG noO_ok (os:=[]) trivial (Eq.trans (by kernel_rfl) h)
end
noncomputable section
abbrev A_41:List Ty:=[(.int .i64),(.int .i64),(.int .i64)]
abbrev R_41:List Ty:=[(.pair (.pair (.slice (.int .u32)) (.pair (.slice (.int .i64)) (.pair (.int .i64) .unit))) (.pair (.int .i64) (.pair (.int .i64) .unit))),.bool]
noncomputable def sm_41:Nat->Option Summ:=smL [(11,s_11),(26,s_26),(27,s_27),(70,s_70)]
noncomputable def F_41(a0 a1 a2:Int):Option ((((List Int)×((List Int)×(Int×Unit)))×(Int×(Int×Unit)))×Bool×Unit) :=
 gd (p_70 a0 1000) (gd p_27 (gd (p_11 ((v_70 a0 1000).1) a1 a2 (v_27.1)) (bif(v_70 a0 1000).2.1==0 then bif(v_11 ((v_70 a0 1000).1) a1 a2 (v_27.1)).2.2.1==0 then gd (p_26 (((v_11 ((v_70 a0 1000).1) a1 a2 (v_27.1)).1.1.1,(v_11 ((v_70 a0 1000).1) a1 a2 (v_27.1)).1.1.2),(v_11 ((v_70 a0 1000).1) a1 a2 (v_27.1)).1.2)) (some ((((v_11 ((v_70 a0 1000).1) a1 a2 (v_27.1)).1.1.1,(v_11 ((v_70 a0 1000).1) a1 a2 (v_27.1)).1.1.2),(v_11 ((v_70 a0 1000).1) a1 a2 (v_27.1)).1.2),(v_26 (((v_11 ((v_70 a0 1000).1) a1 a2 (v_27.1)).1.1.1,(v_11 ((v_70 a0 1000).1) a1 a2 (v_27.1)).1.1.2),(v_11 ((v_70 a0 1000).1) a1 a2 (v_27.1)).1.2)).1,PUnit.unit))else some ((((v_11 ((v_70 a0 1000).1) a1 a2 (v_27.1)).1.1.1,(v_11 ((v_70 a0 1000).1) a1 a2 (v_27.1)).1.1.2),(v_11 ((v_70 a0 1000).1) a1 a2 (v_27.1)).1.2),false,PUnit.unit)else some ((((v_11 ((v_70 a0 1000).1) a1 a2 (v_27.1)).1.1.1,(v_11 ((v_70 a0 1000).1) a1 a2 (v_27.1)).1.1.2),(v_11 ((v_70 a0 1000).1) a1 a2 (v_27.1)).1.2),false,PUnit.unit))))
noncomputable def Sp.p_41(a0 a1 a2:Int):Bool:=(F_41 a0 a1 a2).isSome
noncomputable def Sp.v_41(a0 a1 a2:Int):(((List Int)×((List Int)×(Int×Unit)))×(Int×(Int×Unit)))×Bool×Unit:=(F_41 a0 a1 a2).getD (dfH R_41)
noncomputable def s_41:Summ:=shS A_41 R_41 (fun x=>p_41 x.1 x.2.1 x.2.2.1) (fun x=>v_41 x.1 x.2.1 x.2.2.1)
theorem run_41(x:HDen A_41)(y:HDen R_41)(h:F_41 x.1 x.2.1 x.2.2.1=some y):rnF sm_41 1 41 A_41 R_41 x y:=runG noO_ok (os:=[]) trivial (Eq.trans (by kernel_rfl) h)
end
noncomputable section
abbrev A_9:List Ty:=[]
abbrev R_9:List Ty:=[.bool]
noncomputable def sm_9:Nat->Option Summ:=smL [(19,s_19),(27,s_27),(28,s_28),(34,s_34),(36,s_36),(41,s_41)]
noncomputable def F_9:Option (Bool×Unit) :=
 gd (p_41 2 0 2) (bif !(v_41 2 0 2).2.1 then some (false,PUnit.unit)else bif(↑(length ((v_41 2 0 2).1.1.1)):Int)!=128 then some (false,PUnit.unit)else gd (inB 0 (length ((v_41 2 0 2).1.1.1))) (bif getD ((v_41 2 0 2).1.1.1) 0 (0:Int)!=(131070:Int)then some (false,PUnit.unit)else gd p_27 (gd (p_19 ((v_41 2 0 2).1) 3 [5] (v_27.1)) (gd (p_28 (((v_19 ((v_41 2 0 2).1) 3 [5] (v_27.1)).1.1.1,(v_19 ((v_41 2 0 2).1) 3 [5] (v_27.1)).1.1.2),(v_19 ((v_41 2 0 2).1) 3 [5] (v_27.1)).1.2)) (gd (p_36 (((v_19 ((v_41 2 0 2).1) 3 [5] (v_27.1)).1.1.1,(v_19 ((v_41 2 0 2).1) 3 [5] (v_27.1)).1.1.2),(v_19 ((v_41 2 0 2).1) 3 [5] (v_27.1)).1.2) 3) (bif(v_19 ((v_41 2 0 2).1) 3 [5] (v_27.1)).2.2.1==0 then bif(↑(length ((v_19 ((v_41 2 0 2).1) 3 [5] (v_27.1)).1.1.1)):Int)==128 then gd (inB 1 (length ((v_19 ((v_41 2 0 2).1) 3 [5] (v_27.1)).1.1.1))) (bif getD ((v_19 ((v_41 2 0 2).1) 3 [5] (v_27.1)).1.1.1) 1 (0:Int)==(50461950:Int)then gd (inB 3 (length ((v_19 ((v_41 2 0 2).1) 3 [5] (v_27.1)).1.1.1))) (bif getD ((v_19 ((v_41 2 0 2).1) 3 [5] (v_27.1)).1.1.1) 3 (0:Int)==(3499110255:Int)then bif(v_28 (((v_19 ((v_41 2 0 2).1) 3 [5] (v_27.1)).1.1.1,(v_19 ((v_41 2 0 2).1) 3 [5] (v_27.1)).1.1.2),(v_19 ((v_41 2 0 2).1) 3 [5] (v_27.1)).1.2)).2.1==0 then bif(v_28 (((v_19 ((v_41 2 0 2).1) 3 [5] (v_27.1)).1.1.1,(v_19 ((v_41 2 0 2).1) 3 [5] (v_27.1)).1.1.2),(v_19 ((v_41 2 0 2).1) 3 [5] (v_27.1)).1.2)).1==60 then bif(v_36 (((v_19 ((v_41 2 0 2).1) 3 [5] (v_27.1)).1.1.1,(v_19 ((v_41 2 0 2).1) 3 [5] (v_27.1)).1.1.2),(v_19 ((v_41 2 0 2).1) 3 [5] (v_27.1)).1.2) 3).2.1==0 then gd (p_34 ((v_36 (((v_19 ((v_41 2 0 2).1) 3 [5] (v_27.1)).1.1.1,(v_19 ((v_41 2 0 2).1) 3 [5] (v_27.1)).1.1.2),(v_19 ((v_41 2 0 2).1) 3 [5] (v_27.1)).1.2) 3).1) [5]) (some ((v_34 ((v_36 (((v_19 ((v_41 2 0 2).1) 3 [5] (v_27.1)).1.1.1,(v_19 ((v_41 2 0 2).1) 3 [5] (v_27.1)).1.1.2),(v_19 ((v_41 2 0 2).1) 3 [5] (v_27.1)).1.2) 3).1) [5]).1,PUnit.unit))else some (false,PUnit.unit)else some (false,PUnit.unit)else some (false,PUnit.unit)else some (false,PUnit.unit))else some (false,PUnit.unit))else some (false,PUnit.unit)else some (false,PUnit.unit)))))))
noncomputable def Sp.p_9:Bool:=(F_9).isSome
noncomputable def Sp.v_9:Bool×Unit:=(F_9).getD (dfH R_9)
noncomputable def s_9:Summ:=shJN A_9 R_9 (fun x=>p_9) (fun x=>v_9)
theorem pv_9{y:Bool×Unit}(h:F_9=some y):p_9=true/\v_9=y:=pvG h
theorem run_9(x:HDen A_9)(y:HDen R_9)(h:F_9=some y):rnF sm_9 1 9 A_9 R_9 x y:=runG noO_ok (os:=[]) trivial (Eq.trans (by kernel_rfl) h)
end
noncomputable section
abbrev A_10:List Ty:=[(.pair (.slice (.int .u32)) (.pair (.slice (.int .i64)) (.pair (.int .i64) .unit)))]
abbrev R_10:List Ty:=[.bool]
noncomputable def sm_10:Nat->Option Summ:=smL []
noncomputable def F_10(a0:((List Int)×((List Int)×(Int×Unit)))):Option (Bool×Unit) :=
 bif decide ((↑(length (a0.2.1)):Int)>8)then some (decide ((↑(length (a0.2.1)):Int)<=64),PUnit.unit)else some (false,PUnit.unit)
noncomputable def Sp.p_10(a0:((List Int)×((List Int)×(Int×Unit)))):Bool:=(F_10 a0).isSome
noncomputable def Sp.v_10(a0:((List Int)×((List Int)×(Int×Unit)))):Bool×Unit:=(F_10 a0).getD (dfH R_10)
noncomputable def s_10:Summ:=shJN A_10 R_10 (fun x=>p_10 x.1) (fun x=>v_10 x.1)
theorem pv_10(a0:((List Int)×((List Int)×(Int×Unit)))){y:Bool×Unit}(h:F_10 a0=some y):p_10 a0=true/\v_10 a0=y:=pvG h
theorem run_10(x:HDen A_10)(y:HDen R_10)(h:F_10 x.1=some y):rnF sm_10 1 10 A_10 R_10 x y:=runG noO_ok (os:=[]) trivial (Eq.trans (by kernel_rfl) h)
end
noncomputable section
abbrev A_23:List Ty:=[(.pair (.pair (.slice (.int .u32)) (.pair (.slice (.int .i64)) (.pair (.int .i64) .unit))) (.pair (.int .i64) (.pair (.int .i64) .unit))),(.pair (.int .i64) (.pair (.int .u32) .unit))]
abbrev R_23:List Ty:=[(.pair (.pair (.slice (.int .u32)) (.pair (.slice (.int .i64)) (.pair (.int .i64) .unit))) (.pair (.int .i64) (.pair (.int .i64) .unit))),(.pair (.int .i64) (.pair (.int .u32) .unit)),(.int .i64)]
noncomputable def sm_23:Nat->Option Summ:=smL [(18,s_18),(44,s_44),(47,s_47),(60,s_60)]
noncomputable def F_23(a0:(((List Int)×((List Int)×(Int×Unit)))×(Int×(Int×Unit))))(a1:(Int×(Int×Unit))):Option ((((List Int)×((List Int)×(Int×Unit)))×(Int×(Int×Unit)))×(Int×(Int×Unit))×Int×Unit) :=
 gd (p_18 a0) (bif(v_18 a0).2.1 !=0 then some ((([],[],0,PUnit.unit),0,0,PUnit.unit),(0,0,PUnit.unit),1,PUnit.unit)else gd (p_44 a1) (bif !(v_44 a1).1 then some ((([],[],0,PUnit.unit),0,0,PUnit.unit),(0,0,PUnit.unit),1,PUnit.unit)else gd (p_60 a0 ((v_18 a0).1)) (bif(v_60 a0 ((v_18 a0).1)).2.1 !=0 then some ((([],[],0,PUnit.unit),0,0,PUnit.unit),(0,0,PUnit.unit),(v_60 a0 ((v_18 a0).1)).2.1,PUnit.unit)else gd (p_47 a0 ((v_60 a0 ((v_18 a0).1)).1) a1) (some ((((v_47 a0 ((v_60 a0 ((v_18 a0).1)).1) a1).1.1.1,(v_47 a0 ((v_60 a0 ((v_18 a0).1)).1) a1).1.1.2),(v_47 a0 ((v_60 a0 ((v_18 a0).1)).1) a1).1.2),(v_47 a0 ((v_60 a0 ((v_18 a0).1)).1) a1).2.1,(v_47 a0 ((v_60 a0 ((v_18 a0).1)).1) a1).2.2.1,PUnit.unit)))))
noncomputable def Sp.p_23(a0:(((List Int)×((List Int)×(Int×Unit)))×(Int×(Int×Unit))))(a1:(Int×(Int×Unit))):Bool:=(F_23 a0 a1).isSome
noncomputable def Sp.v_23(a0:(((List Int)×((List Int)×(Int×Unit)))×(Int×(Int×Unit))))(a1:(Int×(Int×Unit))):(((List Int)×((List Int)×(Int×Unit)))×(Int×(Int×Unit)))×(Int×(Int×Unit))×Int×Unit:=(F_23 a0 a1).getD (dfH R_23)
noncomputable def s_23:Summ:=ownS A_23 26 [] (.pair (.pair (.slice (.int .u32)) (.pair (.slice (.int .i64)) (.pair (.int .i64) .unit))) (.pair (.int .i64) (.pair (.int .i64) .unit))) [(.pair (.int .i64) (.pair (.int .u32) .unit)),(.int .i64)] (fun x=>p_23 x.1 x.2.1) (fun x=>v_23 x.1 x.2.1)
theorem pv_23(a0:(((List Int)×((List Int)×(Int×Unit)))×(Int×(Int×Unit))))(a1:(Int×(Int×Unit))){y:(((List Int)×((List Int)×(Int×Unit)))×(Int×(Int×Unit)))×(Int×(Int×Unit))×Int×Unit}(h:F_23 a0 a1=some y):p_23 a0 a1=true/\v_23 a0 a1=y:=pvG h
theorem run_23(x:HDen A_23)(y:HDen R_23)(h:F_23 x.1 x.2.1=some y):evFn sm_23 fns FU 1 23 (ofH A_23 x) [] (ownK 26 [] (.pair (.pair (.slice (.int .u32)) (.pair (.slice (.int .i64)) (.pair (.int .i64) .unit))) (.pair (.int .i64) (.pair (.int .i64) .unit))) [(.pair (.int .i64) (.pair (.int .u32) .unit)),(.int .i64)])=some y:=runG noO_ok (os:=[]) trivial (Eq.trans (by kernel_rfl) h)
end
noncomputable section
abbrev Zy30_0:Ty:=(.pair (.slice (.int .u32)) (.pair (.slice (.int .i64)) (.pair (.int .i64) .unit)))
abbrev Zt30_1:Type:=List Int×List Int×Int×Unit
abbrev A_30:List Ty:=[(.pair (.slice (.int .u32)) (.pair (.slice (.int .i64)) (.pair (.int .i64) .unit)))]
abbrev R_30:List Ty:=[(.pair (.slice (.int .u32)) (.pair (.slice (.int .i64)) (.pair (.int .i64) .unit)))]
noncomputable def sm_30:Nat->Option Summ:=smL []
noncomputable def T_30_0:PS:=⟨44,[(1,.kc (.ptr 0 [])),(2,.kc (.ptr 1 [])),(3,.kc (.ptr 4 [])),(4,.hv (.int .i64))],[.mem (.hv Zy30_0),.mem (.pr (.kc (.whole 2)) (.pr (.kc (.whole 3)) (.hv (.pair (.int .i64) .unit)))),.vec 26 (.int .u32),.vec 3 (.int .i64),.mem (.pr (.kc (.whole 5)) (.pr (.kc (.whole 6)) (.hv (.pair (.int .i64) .unit)))),.vec 26 (.int .u32),.vec 3 (.int .i64)],0⟩
inductive Sp.E_30_0 where
 |e0 (p1:Zt30_1) (p2:Int×Unit) (p3 p4:List Int) (p5:Int×Unit) (p6 p7:List Int)
noncomputable def Sp.B_30_0{R:Type}(r:Option E_30_0)(k0:Zt30_1->(Int×Unit)->List Int->List Int->(Int×Unit)->List Int->List Int->Option R):Option R:=match r with
 |none=>none
 |some (.e0 p1 p2 p3 p4 p5 p6 p7)=>k0 p1 p2 p3 p4 p5 p6 p7
noncomputable def Y_30_0{R:Type}(k:Ex->St->Option R):E_30_0->Option R
 | .e0 p1 p2 p3 p4 p5 p6 p7=>k (Ex.exit 0) (sx 44 [(1,CV.ptr 0 []),(2,CV.ptr 1 []),(3,CV.ptr 4 [])] [Blk.mem (CV.pure (Ty.pair (Ty.slice (Ty.int u32)) (Ty.pair (Ty.slice (Ty.int i64)) (Ty.pair (Ty.int i64) Ty.unit))) p1),Blk.mem (CV.pair (CV.whole 2) (CV.pair (CV.whole 3) (CV.pure (Ty.pair (Ty.int i64) Ty.unit) p2))),Blk.vec 26 (Ty.int u32) p3,Blk.vec 3 (Ty.int i64) p4,Blk.mem (CV.pair (CV.whole 5) (CV.pair (CV.whole 6) (CV.pure (Ty.pair (Ty.int i64) Ty.unit) p5))),Blk.vec 26 (Ty.int u32) p6,Blk.vec 3 (Ty.int i64) p7])
noncomputable def Sp.S_30_0{R:Type}(K:Int->(List Int×List Int×Int×Unit)->(Int×Unit)->List Int->List Int->(Int×Unit)->List Int->List Int->Option R)(k:E_30_0->Option R)(p0:Int)(p1:List Int×List Int×Int×Unit)(p2:Int×Unit)(p3 p4:List Int)(p5:Int×Unit)(p6 p7:List Int):Option R:=
 bif decide (p0<(↑(length (p1.1)):Int))then gd (inB p0 (length (p1.1))) (gd (room (length p6+1) 4) (K (wrap i64 (p0+1)) p1 p2 p3 p4 p5 (p6++[getD (p1.1) (toNat p0) 0]) p7))else k (E_30_0.e0 p1 p2 p3 p4 p5 p6 p7)
noncomputable def Sp.L_30_0:Nat->Int->(List Int×List Int×Int×Unit)->(Int×Unit)->List Int->List Int->(Int×Unit)->List Int->List Int->Option E_30_0
 |0,_,_,_,_,_,_,_,_=>none
 |m+1,p0,p1,p2,p3,p4,p5,p6,p7=>S_30_0 (L_30_0 m) some p0 p1 p2 p3 p4 p5 p6 p7
noncomputable def l_30_0(m:Nat)(a:T_30_0.E):Option E_30_0:=L_30_0 m a.1 a.2.1 a.2.2.1 a.2.2.2.1 a.2.2.2.2.1 a.2.2.2.2.2.1 a.2.2.2.2.2.2.1 a.2.2.2.2.2.2.2.1
noncomputable def O_30_0{R:Type}:Orc R:=orL T_30_0 (l_30_0 FU) Y_30_0
theorem OK_30_0{R:Type}:okF (R:=R) sm_30 0 (nf 30 0) O_30_0:=lp0 T_30_0 l_30_0 (fun R K k a=>S_30_0 (fun p0 p1 p2 p3 p4 p5 p6 p7=>K (p0,p1,p2,p3,p4,p5,p6,p7,())) k a.1 a.2.1 a.2.2.1 a.2.2.2.1 a.2.2.2.2.1 a.2.2.2.2.2.1 a.2.2.2.2.2.2.1 a.2.2.2.2.2.2.2.1) Y_30_0 (fun _ _ _=>by kernel_rfl) (fun _ _ _=>by
 unfold S_30_0
 repeat' first|apply gdN|apply condN|rfl) (ok0 _)
noncomputable def T_30_1:PS:=⟨44,[(1,.kc (.ptr 0 [])),(2,.kc (.ptr 1 [])),(3,.kc (.ptr 4 [])),(5,.hv (.int .i64))],[.mem (.hv Zy30_0),.mem (.pr (.kc (.whole 2)) (.pr (.kc (.whole 3)) (.hv (.pair (.int .i64) .unit)))),.vec 26 (.int .u32),.vec 3 (.int .i64),.mem (.pr (.kc (.whole 5)) (.pr (.kc (.whole 6)) (.hv (.pair (.int .i64) .unit)))),.vec 26 (.int .u32),.vec 3 (.int .i64)],0⟩
inductive Sp.E_30_1 where
 |e0 (p2:Int×Unit) (p3 p4:List Int) (p5:Int×Unit) (p6 p7:List Int)
noncomputable def Sp.B_30_1{R:Type}(r:Option E_30_1)(k0:(Int×Unit)->List Int->List Int->(Int×Unit)->List Int->List Int->Option R):Option R:=match r with
 |none=>none
 |some (.e0 p2 p3 p4 p5 p6 p7)=>k0 p2 p3 p4 p5 p6 p7
noncomputable def Y_30_1{R:Type}(k:Ex->St->Option R):E_30_1->Option R
 | .e0 p2 p3 p4 p5 p6 p7=>k (Ex.exit 2) (sx 44 [(2,CV.ptr 0 []),(3,CV.ptr 3 [])] [Blk.mem (CV.pair (CV.whole 1) (CV.pair (CV.whole 2) (CV.pure (Ty.pair (Ty.int i64) Ty.unit) p2))),Blk.vec 26 (Ty.int u32) p3,Blk.vec 3 (Ty.int i64) p4,Blk.mem (CV.pair (CV.whole 4) (CV.pair (CV.whole 5) (CV.pure (Ty.pair (Ty.int i64) Ty.unit) p5))),Blk.vec 26 (Ty.int u32) p6,Blk.vec 3 (Ty.int i64) p7])
noncomputable def Sp.S_30_1{R:Type}(K:Int->(List Int×List Int×Int×Unit)->(Int×Unit)->List Int->List Int->(Int×Unit)->List Int->List Int->Option R)(k:E_30_1->Option R)(p0:Int)(p1:List Int×List Int×Int×Unit)(p2:Int×Unit)(p3 p4:List Int)(p5:Int×Unit)(p6 p7:List Int):Option R:=
 bif decide (p0<(↑(length (p1.2.1)):Int))then gd (inB p0 (length (p1.2.1))) (gd (room (length p7+1) 8) (K (wrap i64 (p0+1)) p1 p2 p3 p4 p5 p6 (p7++[getD (p1.2.1) (toNat p0) 0])))else k (E_30_1.e0 p2 p3 p4 p5 p6 p7)
noncomputable def Sp.L_30_1:Nat->Int->(List Int×List Int×Int×Unit)->(Int×Unit)->List Int->List Int->(Int×Unit)->List Int->List Int->Option E_30_1
 |0,_,_,_,_,_,_,_,_=>none
 |m+1,p0,p1,p2,p3,p4,p5,p6,p7=>S_30_1 (L_30_1 m) some p0 p1 p2 p3 p4 p5 p6 p7
noncomputable def l_30_1(m:Nat)(a:T_30_1.E):Option E_30_1:=L_30_1 m a.1 a.2.1 a.2.2.1 a.2.2.2.1 a.2.2.2.2.1 a.2.2.2.2.2.1 a.2.2.2.2.2.2.1 a.2.2.2.2.2.2.2.1
noncomputable def O_30_1{R:Type}:Orc R:=orL T_30_1 (l_30_1 FU) Y_30_1
theorem OK_30_1{R:Type}:okF (R:=R) sm_30 0 (nf 30 1) O_30_1:=lp0 T_30_1 l_30_1 (fun R K k a=>S_30_1 (fun p0 p1 p2 p3 p4 p5 p6 p7=>K (p0,p1,p2,p3,p4,p5,p6,p7,())) k a.1 a.2.1 a.2.2.1 a.2.2.2.1 a.2.2.2.2.1 a.2.2.2.2.2.1 a.2.2.2.2.2.2.1 a.2.2.2.2.2.2.2.1) Y_30_1 (fun _ _ _=>by kernel_rfl) (fun _ _ _=>by
 unfold S_30_1
 repeat' first|apply gdN|apply condN|rfl) (ok0 _)
noncomputable def F_30(a0:((List Int)×((List Int)×(Int×Unit)))):Option (((List Int)×((List Int)×(Int×Unit)))×Unit) :=
 B_30_0 (L_30_0 4611686018427387904 0 a0 (0,PUnit.unit) [] [] (a0.2.2.1,PUnit.unit) [] []) fun y13 y14 y15 y16 y17 y18 y19=>B_30_1 (L_30_1 4611686018427387904 0 y13 y14 y15 y16 y17 y18 y19) fun y20 y21 y22 y23 y24 y25=>some ((y24,y25,y23),PUnit.unit)
noncomputable def Sp.p_30(a0:((List Int)×((List Int)×(Int×Unit)))):Bool:=(F_30 a0).isSome
noncomputable def Sp.v_30(a0:((List Int)×((List Int)×(Int×Unit)))):((List Int)×((List Int)×(Int×Unit)))×Unit:=(F_30 a0).getD (dfH R_30)
noncomputable def s_30:Summ:=shS A_30 R_30 (fun x=>p_30 x.1) (fun x=>v_30 x.1)
theorem pv_30(a0:((List Int)×((List Int)×(Int×Unit)))){y:((List Int)×((List Int)×(Int×Unit)))×Unit}(h:F_30 a0=some y):p_30 a0=true/\v_30 a0=y:=pvG h
theorem run_30(x:HDen A_30)(y:HDen R_30)(h:F_30 x.1=some y):rnF sm_30 1 30 A_30 R_30 x y:=runG noO_ok (os:=[O_30_0,O_30_1]) ⟨OK_30_0,OK_30_1,trivial⟩ (Eq.trans (by kernel_rfl) h)
end
noncomputable section
abbrev A_68:List Ty:=[(.slice (.int .u32)),(.slice (.int .u32))]
abbrev R_68:List Ty:=[.bool]
noncomputable def sm_68:Nat->Option Summ:=smL []
noncomputable def T_68_0:PS:=⟨26,[(0,.hv (.slice (.int .u32))),(1,.hv (.slice (.int .u32))),(5,.hv (.int .i64))],[],0⟩
inductive Sp.E_68_0 where
 |e0
 |e1
noncomputable def Sp.B_68_0{R:Type}(r:Option E_68_0)(k0 k1:Option R):Option R:=match r with
 |none=>none
 |some (.e0)=>k0
 |some (.e1)=>k1
noncomputable def Y_68_0{R:Type}(k:Ex->St->Option R):E_68_0->Option R
 | .e0=>k Ex.ret (sx 26 [(4,CV.bool false)] [])
 | .e1=>k (Ex.exit 0) (sx 26 [] [])
noncomputable def Sp.S_68_0{R:Type}(K:List Int->List Int->Int->Option R)(k:E_68_0->Option R)(p0 p1:List Int)(p2:Int):Option R:=
 bif decide (p2<(↑(length p0):Int))then gd (inB p2 (length p0)) (gd (inB p2 (length p1)) (bif getD p0 (toNat p2) 0 !=getD p1 (toNat p2) 0 then k (E_68_0.e0)else K p0 p1 (wrap i64 (p2+1))))else k (E_68_0.e1)
noncomputable def Sp.L_68_0:Nat->List Int->List Int->Int->Option E_68_0
 |0,_,_,_=>none
 |m+1,p0,p1,p2=>S_68_0 (L_68_0 m) some p0 p1 p2
noncomputable def l_68_0(m:Nat)(a:T_68_0.E):Option E_68_0:=L_68_0 m a.1 a.2.1 a.2.2.1
noncomputable def O_68_0{R:Type}:Orc R:=orL T_68_0 (l_68_0 FU) Y_68_0
theorem OK_68_0{R:Type}:okF (R:=R) sm_68 0 (nf 68 0) O_68_0:=lp0 T_68_0 l_68_0 (fun R K k a=>S_68_0 (fun p0 p1 p2=>K (p0,p1,p2,())) k a.1 a.2.1 a.2.2.1) Y_68_0 (fun _ _ _=>by kernel_rfl) (fun _ _ _=>by
 unfold S_68_0
 repeat' first|apply gdN|apply condN|rfl) (ok0 _)
noncomputable def F_68(a0 a1:(List Int)):Option (Bool×Unit) :=
 bif(↑(length a0):Int)!=(↑(length a1):Int)then some (false,PUnit.unit)else B_68_0 (L_68_0 4611686018427387904 a0 a1 0) (some (false,PUnit.unit)) (some (true,PUnit.unit))
noncomputable def Sp.p_68(a0 a1:(List Int)):Bool:=(F_68 a0 a1).isSome
noncomputable def Sp.v_68(a0 a1:(List Int)):Bool×Unit:=(F_68 a0 a1).getD (dfH R_68)
noncomputable def s_68:Summ:=shJN A_68 R_68 (fun x=>p_68 x.1 x.2.1) (fun x=>v_68 x.1 x.2.1)
theorem pv_68(a0 a1:(List Int)){y:Bool×Unit}(h:F_68 a0 a1=some y):p_68 a0 a1=true/\v_68 a0 a1=y:=pvG h
theorem run_68(x:HDen A_68)(y:HDen R_68)(h:F_68 x.1 x.2.1=some y):rnF sm_68 1 68 A_68 R_68 x y:=runG noO_ok (os:=[O_68_0]) ⟨OK_68_0,trivial⟩ (Eq.trans (by kernel_rfl) h)
end
end Go.Ev
