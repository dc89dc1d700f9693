/- Helpers: functions of the program as Lean functions, and what they compute. No condition. -/
import Derived.Test.YtabdddcgjocmnaaGreatProg
import Derived.WalkKit
import Derived.Test.YtabdddcgjocmnaaGreatE3P3
import Derived.Test.YtabdddcgjocmnaaGreatE3P2
set_option maxRecDepth 10000
set_option linter.unusedVariables false
set_option linter.unusedSimpArgs false
open Go.IntKind (wrap i64 i32 i16 i8 u64 u32 u16 u8)
open List (getD length take drop replicate)
open Int (toNat)
open Go.Ev.Sp
namespace Go.Ev
open Go Go.Proofs Go.RowKit
abbrev Zd0:=(Ty.dflt (.pair (.int .i64) (.pair (.int .i64) (.pair (.int .i64) (.pair (.int .i64) (.pair (.int .i64) (.pair (.int .i64) (.pair .bool (.pair (.int .i64) .unit)))))))))
abbrev Zd1:=(Ty.dflt (.pair (.int .i64) (.pair (.int .i64) (.pair (.int .i64) (.pair (.int .i64) (.pair (.int .i64) (.pair (.slice (.int .i64)) (.pair (.int .i64) .unit))))))))
abbrev Zd2:=(Ty.dflt (.pair (.int .i64) (.pair (.slice (.int .u32)) .unit)))
abbrev Zd3:=(Ty.dflt (.pair .bool (.pair (.int .i64) (.pair (.int .u32) .unit))))
abbrev Zd4:=(Ty.dflt (.pair (.slice (.pair (.int .i64) (.pair (.int .i64) (.pair (.int .i64) (.pair (.int .i64) (.pair (.int .i64) (.pair (.int .i64) (.pair .bool (.pair (.int .i64) .unit))))))))) (.pair (.slice (.pair (.int .i64) (.pair (.int .i64) (.pair (.int .i64) (.pair (.int .i64) (.pair (.int .i64) (.pair (.slice (.int .i64)) (.pair (.int .i64) .unit)))))))) (.pair (.int .i64) (.pair .bool .unit)))))
abbrev Zd5:=(Ty.dflt (.pair (.int .u8) (.pair (.int .u8) (.pair (.pair (.int .i64) (.pair (.int .u32) .unit)) .unit))))
set_option maxRecDepth 100000
noncomputable section
noncomputable def smB:Nat->Bool:=fun f=>[4,5,6,7,8,9,10,11,12,13,14,15,17,18,19,20,21,22,24,25,26,27,28,29,30,31,32,33,34,35,39,40,41,42,43,44,45,46,47,48,49,50,51,52,54,56,57,58,59,60,61,64,65,66,67,68,70,73,74,75,76,77,78,79,81,84,85,86,88,89,91,92,93,94,95,103,104,105].contains f
noncomputable def wF:Nat->Nat:=fun f=>bif Nat.beq f 43 then 12 else bif Nat.beq f 72 then 9 else 0
noncomputable def cF:Nat->Bool:=fun f=>false
noncomputable def dF:Nat->Bool:=fun f=>[].contains f
noncomputable def fns:Nat->Option IFn:=fnsP Tryz.prog smB wF cF dF
theorem hm0:Tryz.prog.follows .mixedOrders=true:=by kernel_rfl
abbrev s_18:Summ:=Js1
abbrev s_19:Summ:=vecS (.pair (.int .i64) (.pair (.int .i64) (.pair (.int .i64) (.pair (.int .i64) (.pair (.int .i64) (.pair (.int .i64) (.pair .bool (.pair (.int .i64) .unit)))))))) 60 64
abbrev s_21:Summ:=vecS (.int .u32) 41 4
abbrev s_22:Summ:=vecS (.int .i64) 3 8
abbrev s_89:Summ:=insS (.pair (.int .i64) (.pair (.slice (.int .u32)) .unit)) 122 32
abbrev s_94:Summ:=vecS (.pair (.int .i64) (.pair (.int .i64) (.pair (.int .i64) (.pair (.int .i64) (.pair (.int .i64) (.pair (.slice (.int .i64)) (.pair (.int .i64) .unit))))))) 79 72
abbrev okF{R:Type}(sm:Nat->Option Summ)(d:Nat)(c:IC)(o:Orc R):Prop:=okN sm FU (evFn sm fns FU d) c o
abbrev nf(f i:Nat):IC:=nd (fB fns f) i
abbrev nr(f i:Nat):IC:=nd (fR fns f).2.2 i
abbrev ni(c:IC)(i:Nat):IC:=nd (Hd0 c) i
abbrev rnF(sm:Nat->Option Summ)(n f:Nat)(A R:List Ty)(x:HDen A)(y:HDen R):Prop:=evFn sm fns FU n f (ofH A x) [] (Yh0 R)=some y
end
set_option maxHeartbeats 4000000
set_option linter.unusedVariables false
noncomputable section
abbrev A_73:List Ty:=[(.int .u32),(.int .u32)]
abbrev R_73:List Ty:=[(.int .u32),(.int .u32)]
noncomputable def Is2:Nat->Option Summ:=smL []
noncomputable def F_73(a0 a1:Int):Option (Int×Int×Unit) :=
 some (wrap u32 (Int.fdiv (wrap u64 (wrap u64 a0*wrap u64 a1)) 4294967296),wrap u32 (wrap u64 (wrap u64 a0*wrap u64 a1)),PUnit.unit)
noncomputable def Sp.p_73(a0 a1:Int):Bool:=(F_73 a0 a1).isSome
noncomputable def Sp.v_73(a0 a1:Int):Int×Int×Unit:=(F_73 a0 a1).getD (dfH R_73)
noncomputable def s_73:Summ:=shN A_73 R_73 (fun x=>p_73 x.1 x.2.1) (fun x=>v_73 x.1 x.2.1)
theorem Ch2(x:HDen A_73)(y:HDen R_73)(h:F_73 x.1 x.2.1=some y):rnF Is2 1 73 A_73 R_73 x y:=runG Ah0 (os:=[]) trivial (Eq.trans (by kernel_rfl) h)
end
noncomputable section
abbrev A_74:List Ty:=[(.int .u64),(.int .u64)]
abbrev R_74:List Ty:=[(.int .u64),(.int .u64)]
noncomputable def Ir2:Nat->Option Summ:=smL []
noncomputable def F_74(a0 a1:Int):Option (Int×Int×Unit) :=
 some (wrap u64 (wrap u64 (wrap u64 (Int.fdiv a0 4294967296*Int.fdiv a1 4294967296)+Int.fdiv (wrap u64 (wrap u64 (Int.fdiv a0 4294967296*Sp.andI u64 a1 4294967295)+Int.fdiv (wrap u64 (Sp.andI u64 a0 4294967295*Sp.andI u64 a1 4294967295)) 4294967296)) 4294967296)+Int.fdiv (wrap u64 (Sp.andI u64 (wrap u64 (wrap u64 (Int.fdiv a0 4294967296*Sp.andI u64 a1 4294967295)+Int.fdiv (wrap u64 (Sp.andI u64 a0 4294967295*Sp.andI u64 a1 4294967295)) 4294967296)) 4294967295+wrap u64 (Sp.andI u64 a0 4294967295*Int.fdiv a1 4294967296))) 4294967296),wrap u64 (a0*a1),PUnit.unit)
noncomputable def Sp.p_74(a0 a1:Int):Bool:=(F_74 a0 a1).isSome
noncomputable def Sp.v_74(a0 a1:Int):Int×Int×Unit:=(F_74 a0 a1).getD (dfH R_74)
noncomputable def s_74:Summ:=shN A_74 R_74 (fun x=>p_74 x.1 x.2.1) (fun x=>v_74 x.1 x.2.1)
theorem Cg2(x:HDen A_74)(y:HDen R_74)(h:F_74 x.1 x.2.1=some y):rnF Ir2 1 74 A_74 R_74 x y:=runG Ah0 (os:=[]) trivial (Eq.trans (by kernel_rfl) h)
end
noncomputable section
abbrev A_45:List Ty:=[(.int .u64),(.int .u64)]
abbrev R_45:List Ty:=[(.int .u64),(.int .u64)]
noncomputable def Jc2:Nat->Option Summ:=smL [(73,s_73),(74,s_74)]
noncomputable def F_45(a0 a1:Int):Option (Int×Int×Unit) :=
 gd (p_74 a0 a1) (some ((v_74 a0 a1).1,(v_74 a0 a1).2.1,PUnit.unit))
noncomputable def Sp.p_45(a0 a1:Int):Bool:=(F_45 a0 a1).isSome
noncomputable def Sp.v_45(a0 a1:Int):Int×Int×Unit:=(F_45 a0 a1).getD (dfH R_45)
noncomputable def s_45:Summ:=shN A_45 R_45 (fun x=>p_45 x.1 x.2.1) (fun x=>v_45 x.1 x.2.1)
theorem Db2(x:HDen A_45)(y:HDen R_45)(h:F_45 x.1 x.2.1=some y):rnF Jc2 1 45 A_45 R_45 x y:=runG Ah0 (os:=[]) trivial (Eq.trans (by kernel_rfl) h)
end
noncomputable section
abbrev A_13:List Ty:=[(.slice (.int .u32)),(.int .i64)]
abbrev R_13:List Ty:=[(.slice (.int .u32))]
noncomputable def Lw1:Nat->Option Summ:=smL [(45,s_45)]
noncomputable def T_13_2:PS:=⟨48,[(7,.kc (.whole 0)),(8,.hv (.int .i64))],[.vec 41 (.int .u32)],0⟩
inductive Sp.E_13_2 where
 |e0 (p1:List Int)
noncomputable def Sp.B_13_2{R:Type}(r:Option E_13_2)(k0:List Int->Option R):Option R:=match r with
 |none=>none
 |some (.e0 p1)=>k0 p1
theorem Zk1{A R:Type}{r:Option E_13_2}{f:A->Option R}{k0:List Int->Option A}{l0:List Int->Option R}(h0:∀p1,(k0 p1).bind f=l0 p1):(B_13_2 r k0).bind f=B_13_2 r l0:=by
 cases r with
 |none=>rfl
 |some e=>cases e<;>first|apply h0
noncomputable def Sd1{R:Type}(k:Ex->St->Option R):E_13_2->Option R
 | .e0 p1=>k (Ex.exit 0) (sx 48 [(7,CV.whole 0)] [Blk.vec 41 (Ty.int u32) p1])
noncomputable def Sp.S_13_2{R:Type}(K:Int->List Int->Option R)(k:E_13_2->Option R)(p0:Int)(p1:List Int):Option R:=
 bif decide (p0<(↑(length p1):Int))then gd (sl3 p0 (↑(length p1):Int) (↑(length p1):Int)) (gd (sl3 0 p0 (↑(length p1):Int)) (gd (decide (0+(toNat p0-0)<=length p1)&&decide (toNat p0+(toNat (↑(length p1):Int)-toNat p0)<=length p1)) (K (wrap i64 (p0+(↑(Nat.min (length (take (toNat p0-0) (drop 0 p1))) (toNat (↑(length p1):Int)-toNat p0)):Int))) (over p1 (toNat p0) (take (toNat (↑(length p1):Int)-toNat p0) (take (toNat p0-0) (drop 0 p1)))))))else k (E_13_2.e0 p1)
noncomputable def Sp.L_13_2:Nat->Int->List Int->Option E_13_2
 |0,_,_=>none
 |m+1,p0,p1=>S_13_2 (L_13_2 m) some p0 p1
noncomputable def Pw1(m:Nat)(a:T_13_2.E):Option E_13_2:=L_13_2 m a.1 a.2.1
noncomputable def Uf1{R:Type}:Orc R:=orL T_13_2 (Pw1 FU) Sd1
theorem Yr1{R:Type}:okF (R:=R) Lw1 0 (ni (ni (nf 13 0) 0) 0) Uf1:=lp0 T_13_2 Pw1 (fun R K k a=>S_13_2 (fun p0 p1=>K (p0,p1,())) k a.1 a.2.1) Sd1 (fun _ _ _=>by kernel_rfl) (fun _ _ _=>by
 unfold S_13_2
 repeat' first|apply gdN|apply Bb0|rfl) (ok0 _)
noncomputable def Ta1:PS:=⟨48,[(0,.hv (.slice (.int .u32))),(6,.hv (.int .u64))],[],0⟩
inductive Sp.E_13_1 where
 |e0 (y3:List Int)
noncomputable def Sp.B_13_1{R:Type}(r:Option E_13_1)(k0:List Int->Option R):Option R:=match r with
 |none=>none
 |some (.e0 y3)=>k0 y3
theorem Zl1{A R:Type}{r:Option E_13_1}{f:A->Option R}{k0:List Int->Option A}{l0:List Int->Option R}(h0:∀y3,(k0 y3).bind f=l0 y3):(B_13_1 r k0).bind f=B_13_1 r l0:=by
 cases r with
 |none=>rfl
 |some e=>cases e<;>first|apply h0
noncomputable def Se1{R:Type}(k:Ex->St->Option R):E_13_1->Option R
 | .e0 y3=>k Ex.ret (sx 48 [(4,CV.whole 0)] [Blk.vec 41 (Ty.int u32) y3])
noncomputable def Sp.S_13_1{R:Type}(k:E_13_1->Option R)(p0:List Int)(p1:Int):Option R:=
 gd (decide (0<=wrap i64 p1)&&(wrap i64 p1==wrap i64 p1&&room (toNat (wrap i64 p1)) 4)) (gd (decide (0+length (replicate (toNat (wrap i64 p1)) (0:Int))<=length (replicate (toNat (wrap i64 p1)) (0:Int)))) (B_13_2 (L_13_2 4611686018427387904 (↑(Nat.min (length p0) (length (replicate (toNat (wrap i64 p1)) (0:Int)))):Int) (over (replicate (toNat (wrap i64 p1)) (0:Int)) 0 (take (length (replicate (toNat (wrap i64 p1)) (0:Int))) p0))) fun y3=>k (E_13_1.e0 y3)))
noncomputable def Sp.J_13_1(p0:List Int)(p1:Int):Option E_13_1:=S_13_1 some p0 p1
noncomputable def Ug1{R:Type}:Orc R:=orL Ta1 (fun a=>J_13_1 a.1 a.2.1) Se1
theorem Ys1{R:Type}:okF (R:=R) Lw1 0 (ni (nf 13 0) 0) Ug1:=jp Ah0 (os:=[Uf1]) ⟨Yr1,trivial⟩ Ta1 (fun R k a=>S_13_1 k a.1 a.2.1) Se1 (fun k a=>by kernel_rfl) (fun Y a=>by
 unfold S_13_1
 repeat' first|apply gdN|apply Bb0|(apply Zk1<;>intros)|rfl) (ok0 _)
noncomputable def Tb1:PS:=⟨48,[(0,.hv (.slice (.int .u32))),(1,.hv (.int .i64))],[],0⟩
inductive Sp.E_13_0 where
 |e0 (y1:List Int)
noncomputable def Sp.B_13_0{R:Type}(r:Option E_13_0)(k0:List Int->Option R):Option R:=match r with
 |none=>none
 |some (.e0 y1)=>k0 y1
noncomputable def Sf1{R:Type}(k:Ex->St->Option R):E_13_0->Option R
 | .e0 y1=>k Ex.ret (sx 48 [(4,CV.whole 0)] [Blk.vec 41 (Ty.int u32) y1])
noncomputable def Sp.S_13_0{R:Type}(k:E_13_0->Option R)(p0:List Int)(p1:Int):Option R:=
 gd (p_45 (wrap u64 (↑(length p0):Int)) (wrap u64 p1)) (bif decide ((v_45 (wrap u64 (↑(length p0):Int)) (wrap u64 p1)).1>0)then none else bif decide ((v_45 (wrap u64 (↑(length p0):Int)) (wrap u64 p1)).2.1>9223372036854775807)then none else B_13_1 (J_13_1 p0 ((v_45 (wrap u64 (↑(length p0):Int)) (wrap u64 p1)).2.1)) fun y1=>k (E_13_0.e0 y1))
noncomputable def Sp.J_13_0(p0:List Int)(p1:Int):Option E_13_0:=S_13_0 some p0 p1
noncomputable def Uh1{R:Type}:Orc R:=orL Tb1 (fun a=>J_13_0 a.1 a.2.1) Sf1
theorem Yt1{R:Type}:okF (R:=R) Lw1 0 (nf 13 0) Uh1:=jp Ah0 (os:=[Ug1]) ⟨Ys1,trivial⟩ Tb1 (fun R k a=>S_13_0 k a.1 a.2.1) Sf1 (fun k a=>by kernel_rfl) (fun Y a=>by
 unfold S_13_0
 repeat' first|apply gdN|apply Bb0|(apply Zl1<;>intros)|rfl) (ok0 _)
noncomputable def F_13(a0:(List Int))(a1:Int):Option ((List Int)×Unit) :=
 bif decide (a1<0)then none else B_13_0 (J_13_0 a0 a1) fun y1=>some (y1,PUnit.unit)
noncomputable def Sp.p_13(a0:(List Int))(a1:Int):Bool:=(F_13 a0 a1).isSome
noncomputable def Sp.v_13(a0:(List Int))(a1:Int):(List Int)×Unit:=(F_13 a0 a1).getD (dfH R_13)
noncomputable def s_13:Summ:=shS A_13 R_13 (fun x=>p_13 x.1 x.2.1) (fun x=>v_13 x.1 x.2.1)
theorem Ly2(a0:(List Int))(a1:Int){y:(List Int)×Unit}(h:F_13 a0 a1=some y):p_13 a0 a1=true/\v_13 a0 a1=y:=pvG h
theorem Dx2(x:HDen A_13)(y:HDen R_13)(h:F_13 x.1 x.2.1=some y):rnF Lw1 1 13 A_13 R_13 x y:=runG Ah0 (os:=[Uh1]) ⟨Yt1,trivial⟩ (Eq.trans (by kernel_rfl) h)
end
noncomputable section
abbrev A_4:List Ty:=[(.int .i64),(.int .i64)]
abbrev R_4:List Ty:=[(.pair (.slice (.int .u32)) (.pair (.slice (.int .i64)) (.pair (.int .i64) .unit))),(.int .i64)]
noncomputable def sm_4:Nat->Option Summ:=smL [(13,s_13)]
noncomputable def F_4(a0 a1:Int):Option (((List Int)×((List Int)×(Int×Unit)))×Int×Unit) :=
 bif decide (a0<1)then some (([],[],0,PUnit.unit),2,PUnit.unit)else bif decide (a0>64)then some (([],[],0,PUnit.unit),2,PUnit.unit)else bif decide (a1<1)then some (([],[],0,PUnit.unit),2,PUnit.unit)else bif decide (a1>1000000)then some (([],[],0,PUnit.unit),2,PUnit.unit)else gd (p_13 [4294967295] (wrap i64 (a0*64))) (gd (decide (0<=a0)&&(a0==a0&&room (toNat a0) 8)) (some (((v_13 [4294967295] (wrap i64 (a0*64))).1,replicate (toNat a0) (0:Int),a1,PUnit.unit),0,PUnit.unit)))
noncomputable def Sp.p_4(a0 a1:Int):Bool:=(F_4 a0 a1).isSome
noncomputable def Sp.v_4(a0 a1:Int):((List Int)×((List Int)×(Int×Unit)))×Int×Unit:=(F_4 a0 a1).getD (dfH R_4)
noncomputable def s_4:Summ:=shS A_4 R_4 (fun x=>p_4 x.1 x.2.1) (fun x=>v_4 x.1 x.2.1)
theorem pv_4(a0 a1:Int){y:((List Int)×((List Int)×(Int×Unit)))×Int×Unit}(h:F_4 a0 a1=some y):p_4 a0 a1=true/\v_4 a0 a1=y:=pvG h
theorem Ju2(x:HDen A_4)(y:HDen R_4)(h:F_4 x.1 x.2.1=some y):rnF sm_4 1 4 A_4 R_4 x y:=runG Ah0 (os:=[]) trivial (Eq.trans (by kernel_rfl) h)
end
noncomputable section
abbrev A_26:List Ty:=[(.pair (.slice (.int .u32)) (.pair (.slice (.int .i64)) (.pair (.int .i64) .unit)))]
abbrev R_26:List Ty:=[.bool]
noncomputable def Ql0:Nat->Option Summ:=smL []
noncomputable def T_26_90_0_0:PS:=⟨19,[(0,.hv (.slice (.int .i64))),(1,.kc (.clo 63 (.pair (.ptr 0 []) (.pure .unit PUnit.unit)))),(7,.hv (.int .i64)),(8,.hv (.int .i64))],[.mem (.hv (.pair (.slice (.int .u32)) (.pair (.slice (.int .i64)) (.pair (.int .i64) .unit))))],1⟩
inductive Sp.E_26_90_0_0 where
 |e0 (p2:Int) (p3:List Int×List Int×Int×Unit)
 |e1 (p3:List Int×List Int×Int×Unit)
noncomputable def Sp.B_26_90_0_0{R:Type}(r:Option E_26_90_0_0)(k0:Int->(List Int×List Int×Int×Unit)->Option R)(k1:(List Int×List Int×Int×Unit)->Option R):Option R:=match r with
 |none=>none
 |some (.e0 p2 p3)=>k0 p2 p3
 |some (.e1 p3)=>k1 p3
noncomputable def Pp0{R:Type}(k:Ex->St->Option R):E_26_90_0_0->Option R
 | .e0 p2 p3=>k Ex.ret (sx 19 [(4,CV.int i64 p2)] [Blk.mem (CV.pure (Ty.pair (Ty.slice (Ty.int u32)) (Ty.pair (Ty.slice (Ty.int i64)) (Ty.pair (Ty.int i64) Ty.unit))) p3)] 1)
 | .e1 p3=>k (Ex.exit 0) (sx 19 [] [Blk.mem (CV.pure (Ty.pair (Ty.slice (Ty.int u32)) (Ty.pair (Ty.slice (Ty.int i64)) (Ty.pair (Ty.int i64) Ty.unit))) p3)] 1)
noncomputable def Sp.S_26_90_0_0{R:Type}(K:List Int->Int->Int->(List Int×List Int×Int×Unit)->Option R)(k:E_26_90_0_0->Option R)(p0:List Int)(p1 p2:Int)(p3:List Int×List Int×Int×Unit):Option R:=
 bif decide (p2<p1)then gd (inB p2 (length p0)) (bif decide (getD p0 (toNat p2) (0:Int)<(0:Int))then k (E_26_90_0_0.e0 p2 p3)else bif decide (getD p0 (toNat p2) 0>p3.2.2.1)then k (E_26_90_0_0.e0 p2 p3)else K p0 p1 (wrap i64 (p2+1)) p3)else k (E_26_90_0_0.e1 p3)
noncomputable def Sp.L_26_90_0_0:Nat->List Int->Int->Int->(List Int×List Int×Int×Unit)->Option E_26_90_0_0
 |0,_,_,_,_=>none
 |m+1,p0,p1,p2,p3=>S_26_90_0_0 (L_26_90_0_0 m) some p0 p1 p2 p3
noncomputable def Oe0(m:Nat)(a:T_26_90_0_0.E):Option E_26_90_0_0:=L_26_90_0_0 m a.1 a.2.1 a.2.2.1 a.2.2.2.1
noncomputable def Ji0{R:Type}:Orc R:=orL T_26_90_0_0 (Oe0 FU) Pp0
theorem Xc0{R:Type}:okF (R:=R) Ql0 2 (nf 90 0) Ji0:=lp0 T_26_90_0_0 Oe0 (fun R K k a=>S_26_90_0_0 (fun p0 p1 p2 p3=>K (p0,p1,p2,p3,())) k a.1 a.2.1 a.2.2.1 a.2.2.2.1) Pp0 (fun _ _ _=>by kernel_rfl) (fun _ _ _=>by
 unfold S_26_90_0_0
 repeat' first|apply gdN|apply Bb0|rfl) (ok0 _)
noncomputable def Iy1{R:Type}:List CV->List Blk->(CV->List Blk->Option R)->Option R:=Ee0 Ql0 FU (ovr noO (evFn Ql0 fns FU 2)) (mkT (fB fns 90) [Ji0]) (fO fns 90)
theorem Em1{R:Type}(args:List CV)(hp:List Blk)(k:CV->List Blk->Option R)(r:R)(h:Iy1 args hp k=some r):evFn Ql0 fns FU 3 90 args hp k=some r:=runG Ah0 (os:=[Ji0]) ⟨Xc0,trivial⟩ h
noncomputable def Ta0{R:Type}:Nat->Option (List CV->List Blk->(CV->List Blk->Option R)->Option R):=fun f'=>bif Nat.beq f' 90 then some Iy1 else none
theorem Yv0{R:Type}:Dl0 (R:=R) Ta0 (evFn Ql0 fns FU 3):=by
 intro f' g h args hp k r hg
 dsimp only[Ta0]at h
 by_cases h90:f'=90
 ·subst h90
  injection h with h
  subst h
  exact Bk0 0 (Em1 _ _ _ _ hg)
 rw[Bm0 h90,cond_false]at h
 cases h
noncomputable def Iz1{R:Type}:List CV->List Blk->(CV->List Blk->Option R)->Option R:=Ee0 Ql0 FU (ovr Ta0 (evFn Ql0 fns FU 3)) (mkT (fB fns 62) []) (fO fns 62)
theorem En1{R:Type}(args:List CV)(hp:List Blk)(k:CV->List Blk->Option R)(r:R)(h:Iz1 args hp k=some r):evFn Ql0 fns FU 4 62 args hp k=some r:=runG Yv0 (os:=[]) trivial h
noncomputable def Bm1{R:Type}:Nat->Option (List CV->List Blk->(CV->List Blk->Option R)->Option R):=fun f'=>bif Nat.beq f' 62 then some Iz1 else none
theorem Yw0{R:Type}:Dl0 (R:=R) Bm1 (evFn Ql0 fns FU 4):=by
 intro f' g h args hp k r hg
 dsimp only[Bm1]at h
 by_cases h62:f'=62
 ·subst h62
  injection h with h
  subst h
  exact Bk0 0 (En1 _ _ _ _ hg)
 rw[Bm0 h62,cond_false]at h
 cases h
noncomputable def F_26(a0:((List Int)×((List Int)×(Int×Unit)))):Option (Bool×Unit) :=
 bif decide ((↑(length (a0.2.1)):Int)<1)then some (false,PUnit.unit)else bif decide ((↑(length (a0.2.1)):Int)>64)then some (false,PUnit.unit)else bif(↑(length (a0.1)):Int)!=wrap i64 ((↑(length (a0.2.1)):Int)*64)then some (false,PUnit.unit)else bif decide (a0.2.2.1<1)then some (false,PUnit.unit)else bif decide (a0.2.2.1>1000000)then some (false,PUnit.unit)else B_26_90_0_0 (L_26_90_0_0 4611686018427387904 (a0.2.1) (↑(length (a0.2.1)):Int) 0 a0) (fun y23 y24=>some (!decide (y23>=0),PUnit.unit)) fun y25=>some (true,PUnit.unit)
noncomputable def Sp.p_26(a0:((List Int)×((List Int)×(Int×Unit)))):Bool:=(F_26 a0).isSome
noncomputable def Sp.v_26(a0:((List Int)×((List Int)×(Int×Unit)))):Bool×Unit:=(F_26 a0).getD (dfH R_26)
noncomputable def s_26:Summ:=shN A_26 R_26 (fun x=>p_26 x.1) (fun x=>v_26 x.1)
theorem Lr2(a0:((List Int)×((List Int)×(Int×Unit)))){y:Bool×Unit}(h:F_26 a0=some y):p_26 a0=true/\v_26 a0=y:=pvG h
theorem Dr2(x:HDen A_26)(y:HDen R_26)(h:F_26 x.1=some y):rnF Ql0 5 26 A_26 R_26 x y:=runG Yw0 (os:=[]) trivial (Eq.trans (by kernel_rfl) h)
end
noncomputable section
abbrev A_27:List Ty:=[(.pair (.slice (.int .u32)) (.pair (.slice (.int .i64)) (.pair (.int .i64) .unit)))]
abbrev R_27:List Ty:=[(.pair (.slice (.int .u32)) (.pair (.slice (.int .i64)) (.pair (.int .i64) .unit)))]
noncomputable def Jk2:Nat->Option Summ:=smL [(21,s_21),(22,s_22)]
noncomputable def F_27(a0:((List Int)×((List Int)×(Int×Unit)))):Option (((List Int)×((List Int)×(Int×Unit)))×Unit) :=
 gd (room (length (a0.1)) 4) (gd (room (length (a0.2.1)) 8) (some ((a0.1,a0.2.1,a0.2.2.1,PUnit.unit),PUnit.unit)))
noncomputable def Sp.p_27(a0:((List Int)×((List Int)×(Int×Unit)))):Bool:=(F_27 a0).isSome
noncomputable def Sp.v_27(a0:((List Int)×((List Int)×(Int×Unit)))):((List Int)×((List Int)×(Int×Unit)))×Unit:=(F_27 a0).getD (dfH R_27)
noncomputable def s_27:Summ:=shS A_27 R_27 (fun x=>p_27 x.1) (fun x=>v_27 x.1)
theorem Lq2(a0:((List Int)×((List Int)×(Int×Unit)))){y:((List Int)×((List Int)×(Int×Unit)))×Unit}(h:F_27 a0=some y):p_27 a0=true/\v_27 a0=y:=pvG h
theorem Dq2(x:HDen A_27)(y:HDen R_27)(h:F_27 x.1=some y):rnF Jk2 1 27 A_27 R_27 x y:=runG Ah0 (os:=[]) trivial (Eq.trans (by kernel_rfl) h)
end
noncomputable section
abbrev A_28:List Ty:=[(.pair (.pair (.slice (.int .u32)) (.pair (.slice (.int .i64)) (.pair (.int .i64) .unit))) (.pair (.int .i64) (.pair (.int .i64) .unit)))]
abbrev R_28:List Ty:=[.bool]
noncomputable def Jj2:Nat->Option Summ:=smL []
noncomputable def F_28(a0:(((List Int)×((List Int)×(Int×Unit)))×(Int×(Int×Unit)))):Option (Bool×Unit) :=
 bif decide (a0.2.2.1>=2)then bif decide (a0.2.2.1<=16)then bif Int.tmod (a0.2.2.1) (2:Int)==(0:Int)then bif decide (a0.2.1>=0)then some (decide (a0.2.1<=wrap i64 ((↑(length (a0.1.2.1)):Int)-a0.2.2.1)),PUnit.unit)else some (false,PUnit.unit)else some (false,PUnit.unit)else some (false,PUnit.unit)else some (false,PUnit.unit)
noncomputable def Sp.p_28(a0:(((List Int)×((List Int)×(Int×Unit)))×(Int×(Int×Unit)))):Bool:=(F_28 a0).isSome
noncomputable def Sp.v_28(a0:(((List Int)×((List Int)×(Int×Unit)))×(Int×(Int×Unit)))):Bool×Unit:=(F_28 a0).getD (dfH R_28)
noncomputable def s_28:Summ:=shN A_28 R_28 (fun x=>p_28 x.1) (fun x=>v_28 x.1)
theorem Lp2(a0:(((List Int)×((List Int)×(Int×Unit)))×(Int×(Int×Unit)))){y:Bool×Unit}(h:F_28 a0=some y):p_28 a0=true/\v_28 a0=y:=pvG h
theorem Dp2(x:HDen A_28)(y:HDen R_28)(h:F_28 x.1=some y):rnF Jj2 1 28 A_28 R_28 x y:=runG Ah0 (os:=[]) trivial (Eq.trans (by kernel_rfl) h)
end
noncomputable section
abbrev A_51:List Ty:=[(.pair (.pair (.slice (.int .u32)) (.pair (.slice (.int .i64)) (.pair (.int .i64) .unit))) (.pair (.int .i64) (.pair (.int .i64) .unit))),(.int .i64),(.int .i64)]
abbrev R_51:List Ty:=[(.int .i64)]
noncomputable def Ja2:Nat->Option Summ:=smL []
noncomputable def F_51(a0:(((List Int)×((List Int)×(Int×Unit)))×(Int×(Int×Unit))))(a1 a2:Int):Option (Int×Unit) :=
 some (wrap i64 (wrap i64 (64*wrap i64 (a0.2.1+wrap i64 (Int.tdiv (wrap i64 (a1*a0.2.2.1)) 2)))+a2),PUnit.unit)
noncomputable def Sp.p_51(a0:(((List Int)×((List Int)×(Int×Unit)))×(Int×(Int×Unit))))(a1 a2:Int):Bool:=(F_51 a0 a1 a2).isSome
noncomputable def Sp.v_51(a0:(((List Int)×((List Int)×(Int×Unit)))×(Int×(Int×Unit))))(a1 a2:Int):Int×Unit:=(F_51 a0 a1 a2).getD (dfH R_51)
noncomputable def s_51:Summ:=shN A_51 R_51 (fun x=>p_51 x.1 x.2.1 x.2.2.1) (fun x=>v_51 x.1 x.2.1 x.2.2.1)
theorem Ky2(a0:(((List Int)×((List Int)×(Int×Unit)))×(Int×(Int×Unit))))(a1 a2:Int){y:Int×Unit}(h:F_51 a0 a1 a2=some y):p_51 a0 a1 a2=true/\v_51 a0 a1 a2=y:=pvG h
theorem Cw2(x:HDen A_51)(y:HDen R_51)(h:F_51 x.1 x.2.1 x.2.2.1=some y):rnF Ja2 1 51 A_51 R_51 x y:=runG Ah0 (os:=[]) trivial (Eq.trans (by kernel_rfl) h)
end
noncomputable section
abbrev A_86:List Ty:=[(.pair (.pair (.slice (.int .u32)) (.pair (.slice (.int .i64)) (.pair (.int .i64) .unit))) (.pair (.int .i64) (.pair (.int .i64) .unit)))]
abbrev R_86:List Ty:=[(.int .i64)]
noncomputable def Im2:Nat->Option Summ:=smL []
noncomputable def F_86(a0:(((List Int)×((List Int)×(Int×Unit)))×(Int×(Int×Unit)))):Option (Int×Unit) :=
 some (wrap i64 (Int.tdiv (wrap i64 (64*a0.2.2.1)) 2),PUnit.unit)
noncomputable def Sp.p_86(a0:(((List Int)×((List Int)×(Int×Unit)))×(Int×(Int×Unit)))):Bool:=(F_86 a0).isSome
noncomputable def Sp.v_86(a0:(((List Int)×((List Int)×(Int×Unit)))×(Int×(Int×Unit)))):Int×Unit:=(F_86 a0).getD (dfH R_86)
noncomputable def s_86:Summ:=shN A_86 R_86 (fun x=>p_86 x.1) (fun x=>v_86 x.1)
theorem Kd2(a0:(((List Int)×((List Int)×(Int×Unit)))×(Int×(Int×Unit)))){y:Int×Unit}(h:F_86 a0=some y):p_86 a0=true/\v_86 a0=y:=pvG h
theorem Bz2(x:HDen A_86)(y:HDen R_86)(h:F_86 x.1=some y):rnF Im2 1 86 A_86 R_86 x y:=runG Ah0 (os:=[]) trivial (Eq.trans (by kernel_rfl) h)
end
noncomputable section
abbrev A_81:List Ty:=[(.pair (.pair (.slice (.int .u32)) (.pair (.slice (.int .i64)) (.pair (.int .i64) .unit))) (.pair (.int .i64) (.pair (.int .i64) .unit))),(.int .i64)]
abbrev R_81:List Ty:=[(.slice (.int .u32))]
noncomputable def In2:Nat->Option Summ:=smL [(51,s_51),(86,s_86)]
noncomputable def F_81(a0:(((List Int)×((List Int)×(Int×Unit)))×(Int×(Int×Unit))))(a1:Int):Option ((List Int)×Unit) :=
 gd (p_51 a0 a1 0) (gd (p_86 a0) (gd (p_51 a0 a1 ((v_86 a0).1)) (gd (sl3 ((v_51 a0 a1 0).1) ((v_51 a0 a1 ((v_86 a0).1)).1) (↑(length (a0.1.1)):Int)) (some (take (toNat ((v_51 a0 a1 ((v_86 a0).1)).1)-toNat ((v_51 a0 a1 0).1)) (drop (toNat ((v_51 a0 a1 0).1)) (a0.1.1)),PUnit.unit)))))
noncomputable def Sp.p_81(a0:(((List Int)×((List Int)×(Int×Unit)))×(Int×(Int×Unit))))(a1:Int):Bool:=(F_81 a0 a1).isSome
noncomputable def Sp.v_81(a0:(((List Int)×((List Int)×(Int×Unit)))×(Int×(Int×Unit))))(a1:Int):(List Int)×Unit:=(F_81 a0 a1).getD (dfH R_81)
noncomputable def s_81:Summ:=shS A_81 R_81 (fun x=>p_81 x.1 x.2.1) (fun x=>v_81 x.1 x.2.1)
theorem Kf2(a0:(((List Int)×((List Int)×(Int×Unit)))×(Int×(Int×Unit))))(a1:Int){y:(List Int)×Unit}(h:F_81 a0 a1=some y):p_81 a0 a1=true/\v_81 a0 a1=y:=pvG h
theorem Cb2(x:HDen A_81)(y:HDen R_81)(h:F_81 x.1 x.2.1=some y):rnF In2 1 81 A_81 R_81 x y:=runG Ah0 (os:=[]) trivial (Eq.trans (by kernel_rfl) h)
end
noncomputable section
abbrev A_52:List Ty:=[(.int .i64)]
abbrev R_52:List Ty:=[(.int .u32)]
noncomputable def Iz2:Nat->Option Summ:=smL []
noncomputable def F_52(a0:Int):Option (Int×Unit) :=
 some (Sp.orI u32 (wrap u32 (wrap u32 a0*65536)) (wrap u32 (Sp.andI i64 (Sp.xorI i64 (-1:Int) a0) 65535)),PUnit.unit)
noncomputable def Sp.p_52(a0:Int):Bool:=(F_52 a0).isSome
noncomputable def Sp.v_52(a0:Int):Int×Unit:=(F_52 a0).getD (dfH R_52)
noncomputable def s_52:Summ:=shN A_52 R_52 (fun x=>p_52 x.1) (fun x=>v_52 x.1)
theorem Kx2(a0:Int){y:Int×Unit}(h:F_52 a0=some y):p_52 a0=true/\v_52 a0=y:=pvG h
theorem Cv2(x:HDen A_52)(y:HDen R_52)(h:F_52 x.1=some y):rnF Iz2 1 52 A_52 R_52 x y:=runG Ah0 (os:=[]) trivial (Eq.trans (by kernel_rfl) h)
end
noncomputable section
abbrev A_91:List Ty:=[(.int .u32)]
abbrev R_91:List Ty:=[(.int .i64),.bool]
noncomputable def Il2:Nat->Option Summ:=smL [(52,s_52)]
noncomputable def F_91(a0:Int):Option (Int×Bool×Unit) :=
 gd (p_52 (wrap i64 (Int.fdiv a0 65536))) (some (wrap i64 (Int.fdiv a0 65536),(v_52 (wrap i64 (Int.fdiv a0 65536))).1==a0,PUnit.unit))
noncomputable def Sp.p_91(a0:Int):Bool:=(F_91 a0).isSome
noncomputable def Sp.v_91(a0:Int):Int×Bool×Unit:=(F_91 a0).getD (dfH R_91)
noncomputable def s_91:Summ:=shN A_91 R_91 (fun x=>p_91 x.1) (fun x=>v_91 x.1)
theorem Kc2(a0:Int){y:Int×Bool×Unit}(h:F_91 a0=some y):p_91 a0=true/\v_91 a0=y:=pvG h
theorem By2(x:HDen A_91)(y:HDen R_91)(h:F_91 x.1=some y):rnF Il2 1 91 A_91 R_91 x y:=runG Ah0 (os:=[]) trivial (Eq.trans (by kernel_rfl) h)
end
noncomputable section
abbrev A_64:List Ty:=[(.pair (.pair (.slice (.int .u32)) (.pair (.slice (.int .i64)) (.pair (.int .i64) .unit))) (.pair (.int .i64) (.pair (.int .i64) .unit))),(.int .i64)]
abbrev R_64:List Ty:=[(.int .i64)]
noncomputable def Iw2:Nat->Option Summ:=smL [(81,s_81),(91,s_91)]
noncomputable def F_64(a0:(((List Int)×((List Int)×(Int×Unit)))×(Int×(Int×Unit))))(a1:Int):Option (Int×Unit) :=
 gd (p_81 a0 a1) (gd (inB 0 (length ((v_81 a0 a1).1))) (gd (p_91 (getD ((v_81 a0 a1).1) 0 0)) (bif !(v_91 (getD ((v_81 a0 a1).1) 0 0)).2.1 then some (0,PUnit.unit)else some ((v_91 (getD ((v_81 a0 a1).1) 0 0)).1,PUnit.unit))))
noncomputable def Sp.p_64(a0:(((List Int)×((List Int)×(Int×Unit)))×(Int×(Int×Unit))))(a1:Int):Bool:=(F_64 a0 a1).isSome
noncomputable def Sp.v_64(a0:(((List Int)×((List Int)×(Int×Unit)))×(Int×(Int×Unit))))(a1:Int):Int×Unit:=(F_64 a0 a1).getD (dfH R_64)
noncomputable def s_64:Summ:=shN A_64 R_64 (fun x=>p_64 x.1 x.2.1) (fun x=>v_64 x.1 x.2.1)
theorem Kp2(a0:(((List Int)×((List Int)×(Int×Unit)))×(Int×(Int×Unit))))(a1:Int){y:Int×Unit}(h:F_64 a0 a1=some y):p_64 a0 a1=true/\v_64 a0 a1=y:=pvG h
theorem Cn2(x:HDen A_64)(y:HDen R_64)(h:F_64 x.1 x.2.1=some y):rnF Iw2 1 64 A_64 R_64 x y:=runG Ah0 (os:=[]) trivial (Eq.trans (by kernel_rfl) h)
end
noncomputable section
abbrev A_29:List Ty:=[(.pair (.pair (.slice (.int .u32)) (.pair (.slice (.int .i64)) (.pair (.int .i64) .unit))) (.pair (.int .i64) (.pair (.int .i64) .unit)))]
abbrev R_29:List Ty:=[(.int .i64),.bool]
noncomputable def Ji2:Nat->Option Summ:=smL [(64,s_64)]
noncomputable def F_29(a0:(((List Int)×((List Int)×(Int×Unit)))×(Int×(Int×Unit)))):Option (Int×Bool×Unit) :=
 gd (p_64 a0 0) (gd (p_64 a0 1) (bif decide ((v_64 a0 1).1>(v_64 a0 0).1)then some (1,true,PUnit.unit)else some (0,decide ((v_64 a0 0).1>0),PUnit.unit)))
noncomputable def Sp.p_29(a0:(((List Int)×((List Int)×(Int×Unit)))×(Int×(Int×Unit)))):Bool:=(F_29 a0).isSome
noncomputable def Sp.v_29(a0:(((List Int)×((List Int)×(Int×Unit)))×(Int×(Int×Unit)))):Int×Bool×Unit:=(F_29 a0).getD (dfH R_29)
noncomputable def s_29:Summ:=shN A_29 R_29 (fun x=>p_29 x.1) (fun x=>v_29 x.1)
theorem Lo2(a0:(((List Int)×((List Int)×(Int×Unit)))×(Int×(Int×Unit)))){y:Int×Bool×Unit}(h:F_29 a0=some y):p_29 a0=true/\v_29 a0=y:=pvG h
theorem Do2(x:HDen A_29)(y:HDen R_29)(h:F_29 x.1=some y):rnF Ji2 1 29 A_29 R_29 x y:=runG Ah0 (os:=[]) trivial (Eq.trans (by kernel_rfl) h)
end
noncomputable section
abbrev A_8:List Ty:=[(.pair (.slice (.int .u32)) (.pair (.slice (.int .i64)) (.pair (.int .i64) .unit))),(.int .i64),(.int .i64)]
abbrev R_8:List Ty:=[(.pair (.pair (.slice (.int .u32)) (.pair (.slice (.int .i64)) (.pair (.int .i64) .unit))) (.pair (.int .i64) (.pair (.int .i64) .unit))),(.int .i64)]
noncomputable def sm_8:Nat->Option Summ:=smL [(26,s_26),(27,s_27),(28,s_28),(29,s_29)]
noncomputable def F_8(a0:((List Int)×((List Int)×(Int×Unit))))(a1 a2:Int):Option ((((List Int)×((List Int)×(Int×Unit)))×(Int×(Int×Unit)))×Int×Unit) :=
 gd (p_26 a0) (bif !(v_26 a0).1 then some ((([],[],0,PUnit.unit),0,0,PUnit.unit),1,PUnit.unit)else gd (p_27 a0) (gd (p_28 ((v_27 a0).1,a1,a2,PUnit.unit)) (bif !(v_28 ((v_27 a0).1,a1,a2,PUnit.unit)).1 then some ((([],[],0,PUnit.unit),0,0,PUnit.unit),2,PUnit.unit)else gd (p_29 ((v_27 a0).1,a1,a2,PUnit.unit)) (bif !(v_29 ((v_27 a0).1,a1,a2,PUnit.unit)).2.1 then some ((([],[],0,PUnit.unit),0,0,PUnit.unit),7,PUnit.unit)else some (((v_27 a0).1,a1,a2,PUnit.unit),0,PUnit.unit)))))
noncomputable def Sp.p_8(a0:((List Int)×((List Int)×(Int×Unit))))(a1 a2:Int):Bool:=(F_8 a0 a1 a2).isSome
noncomputable def Sp.v_8(a0:((List Int)×((List Int)×(Int×Unit))))(a1 a2:Int):(((List Int)×((List Int)×(Int×Unit)))×(Int×(Int×Unit)))×Int×Unit:=(F_8 a0 a1 a2).getD (dfH R_8)
noncomputable def s_8:Summ:=shS A_8 R_8 (fun x=>p_8 x.1 x.2.1 x.2.2.1) (fun x=>v_8 x.1 x.2.1 x.2.2.1)
theorem pv_8(a0:((List Int)×((List Int)×(Int×Unit))))(a1 a2:Int){y:(((List Int)×((List Int)×(Int×Unit)))×(Int×(Int×Unit)))×Int×Unit}(h:F_8 a0 a1 a2=some y):p_8 a0 a1 a2=true/\v_8 a0 a1 a2=y:=pvG h
theorem Jq2(x:HDen A_8)(y:HDen R_8)(h:F_8 x.1 x.2.1 x.2.2.1=some y):rnF sm_8 1 8 A_8 R_8 x y:=runG Ah0 (os:=[]) trivial (Eq.trans (by kernel_rfl) h)
end
noncomputable section
abbrev A_34:List Ty:=[(.int .i64),(.int .i64),(.int .i64)]
abbrev R_34:List Ty:=[.bool]
noncomputable def Jf2:Nat->Option Summ:=smL []
noncomputable def F_34(a0 a1 a2:Int):Option (Bool×Unit) :=
 bif decide (a0>=a1)then some (decide (a0<=a2),PUnit.unit)else some (false,PUnit.unit)
noncomputable def Sp.p_34(a0 a1 a2:Int):Bool:=(F_34 a0 a1 a2).isSome
noncomputable def Sp.v_34(a0 a1 a2:Int):Bool×Unit:=(F_34 a0 a1 a2).getD (dfH R_34)
noncomputable def s_34:Summ:=shN A_34 R_34 (fun x=>p_34 x.1 x.2.1 x.2.2.1) (fun x=>v_34 x.1 x.2.1 x.2.2.1)
theorem Lj2(a0 a1 a2:Int){y:Bool×Unit}(h:F_34 a0 a1 a2=some y):p_34 a0 a1 a2=true/\v_34 a0 a1 a2=y:=pvG h
theorem Dj2(x:HDen A_34)(y:HDen R_34)(h:F_34 x.1 x.2.1 x.2.2.1=some y):rnF Jf2 1 34 A_34 R_34 x y:=runG Ah0 (os:=[]) trivial (Eq.trans (by kernel_rfl) h)
end
noncomputable section
abbrev A_54:List Ty:=[(.pair (.int .i64) (.pair (.int .i64) (.pair (.int .i64) (.pair (.int .i64) (.pair (.int .i64) (.pair (.int .i64) (.pair .bool (.pair (.int .i64) .unit))))))))]
abbrev R_54:List Ty:=[.bool]
noncomputable def Iy2:Nat->Option Summ:=smL [(34,s_34)]
noncomputable def F_54(a0:(Int×(Int×(Int×(Int×(Int×(Int×(Bool×(Int×Unit))))))))):Option (Bool×Unit) :=
 gd (p_34 (a0.1) 1 16777215) (bif(v_34 (a0.1) 1 16777215).1 then gd (p_34 (a0.2.1) 1 100) (bif(v_34 (a0.2.1) 1 100).1 then gd (p_34 (a0.2.2.1) 1 100) (bif(v_34 (a0.2.2.1) 1 100).1 then gd (p_34 (a0.2.2.2.1) 1 100) (bif(v_34 (a0.2.2.2.1) 1 100).1 then gd (p_34 (a0.2.2.2.2.1) (a0.2.2.2.1) 255) (bif(v_34 (a0.2.2.2.2.1) (a0.2.2.2.1) 255).1 then gd (p_34 (a0.2.2.2.2.2.1) 0 255) (bif(v_34 (a0.2.2.2.2.2.1) 0 255).1 then gd (p_34 (a0.2.2.2.2.2.2.2.1) 0 8) (some ((v_34 (a0.2.2.2.2.2.2.2.1) 0 8).1,PUnit.unit))else some (false,PUnit.unit))else some (false,PUnit.unit))else some (false,PUnit.unit))else some (false,PUnit.unit))else some (false,PUnit.unit))else some (false,PUnit.unit))
noncomputable def Sp.p_54(a0:(Int×(Int×(Int×(Int×(Int×(Int×(Bool×(Int×Unit))))))))):Bool:=(F_54 a0).isSome
noncomputable def Sp.v_54(a0:(Int×(Int×(Int×(Int×(Int×(Int×(Bool×(Int×Unit))))))))):Bool×Unit:=(F_54 a0).getD (dfH R_54)
noncomputable def s_54:Summ:=shN A_54 R_54 (fun x=>p_54 x.1) (fun x=>v_54 x.1)
theorem Kw2(a0:(Int×(Int×(Int×(Int×(Int×(Int×(Bool×(Int×Unit))))))))){y:Bool×Unit}(h:F_54 a0=some y):p_54 a0=true/\v_54 a0=y:=pvG h
theorem Cu2(x:HDen A_54)(y:HDen R_54)(h:F_54 x.1=some y):rnF Iy2 1 54 A_54 R_54 x y:=runG Ah0 (os:=[]) trivial (Eq.trans (by kernel_rfl) h)
end
noncomputable section
abbrev Hd2:Ty:=(.pair (.slice (.pair (.int .i64) (.pair (.int .i64) (.pair (.int .i64) (.pair (.int .i64) (.pair (.int .i64) (.pair (.int .i64) (.pair .bool (.pair (.int .i64) .unit))))))))) (.pair (.slice (.pair (.int .i64) (.pair (.int .i64) (.pair (.int .i64) (.pair (.int .i64) (.pair (.int .i64) (.pair (.slice (.int .i64)) (.pair (.int .i64) .unit)))))))) (.pair (.int .i64) (.pair .bool .unit))))
abbrev Xn1:Type:=Int×Bool×Unit
abbrev A_6:List Ty:=[(.slice (.pair (.int .i64) (.pair (.int .i64) (.pair (.int .i64) (.pair (.int .i64) (.pair (.int .i64) (.pair (.int .i64) (.pair .bool (.pair (.int .i64) .unit)))))))))]
abbrev R_6:List Ty:=[(.pair (.slice (.pair (.int .i64) (.pair (.int .i64) (.pair (.int .i64) (.pair (.int .i64) (.pair (.int .i64) (.pair (.int .i64) (.pair .bool (.pair (.int .i64) .unit))))))))) (.pair (.slice (.pair (.int .i64) (.pair (.int .i64) (.pair (.int .i64) (.pair (.int .i64) (.pair (.int .i64) (.pair (.slice (.int .i64)) (.pair (.int .i64) .unit)))))))) (.pair (.int .i64) (.pair .bool .unit)))),(.int .i64)]
noncomputable def sm_6:Nat->Option Summ:=smL [(18,s_18),(19,s_19),(54,s_54)]
noncomputable def T_6_53_0_0:PS:=⟨19,[(0,.hv (.slice (.pair (.int .i64) (.pair (.int .i64) (.pair (.int .i64) (.pair (.int .i64) (.pair (.int .i64) (.pair (.int .i64) (.pair .bool (.pair (.int .i64) .unit)))))))))),(1,.kc (.clo 17 (.pure .unit PUnit.unit))),(7,.hv (.int .i64)),(8,.hv (.int .i64))],[.mem (.pr (.kc (.nil 60 (.pair (.int .i64) (.pair (.int .i64) (.pair (.int .i64) (.pair (.int .i64) (.pair (.int .i64) (.pair (.int .i64) (.pair .bool (.pair (.int .i64) .unit)))))))))) (.pr (.kc (.nil 79 (.pair (.int .i64) (.pair (.int .i64) (.pair (.int .i64) (.pair (.int .i64) (.pair (.int .i64) (.pair (.slice (.int .i64)) (.pair (.int .i64) .unit))))))))) (.hv (.pair (.int .i64) (.pair .bool .unit)))))],1⟩
inductive Sp.E_6_53_0_0 where
 |e0 (p2:Int) (p3:Xn1)
 |e1 (p3:Int×Bool×Unit)
noncomputable def Sp.B_6_53_0_0{R:Type}(r:Option E_6_53_0_0)(k0:Int->Xn1->Option R)(k1:Xn1->Option R):Option R:=match r with
 |none=>none
 |some (.e0 p2 p3)=>k0 p2 p3
 |some (.e1 p3)=>k1 p3
noncomputable def Sb0{R:Type}(k:Ex->St->Option R):E_6_53_0_0->Option R
 | .e0 p2 p3=>k Ex.ret (sx 19 [(4,CV.int i64 p2)] [Blk.mem (CV.pair (CV.nil 60 (Ty.pair (Ty.int i64) (Ty.pair (Ty.int i64) (Ty.pair (Ty.int i64) (Ty.pair (Ty.int i64) (Ty.pair (Ty.int i64) (Ty.pair (Ty.int i64) (Ty.pair Ty.bool (Ty.pair (Ty.int i64) Ty.unit))))))))) (CV.pair (CV.nil 79 (Ty.pair (Ty.int i64) (Ty.pair (Ty.int i64) (Ty.pair (Ty.int i64) (Ty.pair (Ty.int i64) (Ty.pair (Ty.int i64) (Ty.pair (Ty.slice (Ty.int i64)) (Ty.pair (Ty.int i64) Ty.unit)))))))) (CV.pure (Ty.pair (Ty.int i64) (Ty.pair Ty.bool Ty.unit)) p3)))] 1)
 | .e1 p3=>k (Ex.exit 0) (sx 19 [] [Blk.mem (CV.pair (CV.nil 60 (Ty.pair (Ty.int i64) (Ty.pair (Ty.int i64) (Ty.pair (Ty.int i64) (Ty.pair (Ty.int i64) (Ty.pair (Ty.int i64) (Ty.pair (Ty.int i64) (Ty.pair Ty.bool (Ty.pair (Ty.int i64) Ty.unit))))))))) (CV.pair (CV.nil 79 (Ty.pair (Ty.int i64) (Ty.pair (Ty.int i64) (Ty.pair (Ty.int i64) (Ty.pair (Ty.int i64) (Ty.pair (Ty.int i64) (Ty.pair (Ty.slice (Ty.int i64)) (Ty.pair (Ty.int i64) Ty.unit)))))))) (CV.pure (Ty.pair (Ty.int i64) (Ty.pair Ty.bool Ty.unit)) p3)))] 1)
noncomputable def Sp.S_6_53_0_0{R:Type}(K:(List (Int×Int×Int×Int×Int×Int×Bool×Int×Unit))->Int->Int->(Int×Bool×Unit)->Option R)(k:E_6_53_0_0->Option R)(p0:List (Int×Int×Int×Int×Int×Int×Bool×Int×Unit))(p1 p2:Int)(p3:Int×Bool×Unit):Option R:=
 bif decide (p2<p1)then gd (inB p2 (length p0)) (gd (p_54 (getD p0 (toNat p2) Zd0)) (bif !(v_54 (getD p0 (toNat p2) Zd0)).1 then k (E_6_53_0_0.e0 p2 p3)else K p0 p1 (wrap i64 (p2+1)) p3))else k (E_6_53_0_0.e1 p3)
noncomputable def Sp.L_6_53_0_0:Nat->(List (Int×Int×Int×Int×Int×Int×Bool×Int×Unit))->Int->Int->(Int×Bool×Unit)->Option E_6_53_0_0
 |0,_,_,_,_=>none
 |m+1,p0,p1,p2,p3=>S_6_53_0_0 (L_6_53_0_0 m) some p0 p1 p2 p3
noncomputable def Rh0(m:Nat)(a:T_6_53_0_0.E):Option E_6_53_0_0:=L_6_53_0_0 m a.1 a.2.1 a.2.2.1 a.2.2.2.1
noncomputable def Kx0{R:Type}:Orc R:=orL T_6_53_0_0 (Rh0 FU) Sb0
theorem Zy0{R:Type}:okF (R:=R) sm_6 2 (nf 53 0) Kx0:=lp0 T_6_53_0_0 Rh0 (fun R K k a=>S_6_53_0_0 (fun p0 p1 p2 p3=>K (p0,p1,p2,p3,())) k a.1 a.2.1 a.2.2.1 a.2.2.2.1) Sb0 (fun _ _ _=>by kernel_rfl) (fun _ _ _=>by
 unfold S_6_53_0_0
 repeat' first|apply gdN|apply Bb0|rfl) (ok0 _)
noncomputable def Qc1{R:Type}:List CV->List Blk->(CV->List Blk->Option R)->Option R:=Ee0 sm_6 FU (ovr noO (evFn sm_6 fns FU 2)) (mkT (fB fns 53) [Kx0]) (fO fns 53)
theorem Il1{R:Type}(args:List CV)(hp:List Blk)(k:CV->List Blk->Option R)(r:R)(h:Qc1 args hp k=some r):evFn sm_6 fns FU 3 53 args hp k=some r:=runG Ah0 (os:=[Kx0]) ⟨Zy0,trivial⟩ h
noncomputable def Yn0{R:Type}:Nat->Option (List CV->List Blk->(CV->List Blk->Option R)->Option R):=fun f'=>bif Nat.beq f' 53 then some Qc1 else none
theorem Du1{R:Type}:Dl0 (R:=R) Yn0 (evFn sm_6 fns FU 3):=by
 intro f' g h args hp k r hg
 dsimp only[Yn0]at h
 by_cases h53:f'=53
 ·subst h53
  injection h with h
  subst h
  exact Bk0 0 (Il1 _ _ _ _ hg)
 rw[Bm0 h53,cond_false]at h
 cases h
noncomputable def Qd1{R:Type}:List CV->List Blk->(CV->List Blk->Option R)->Option R:=Ee0 sm_6 FU (ovr Yn0 (evFn sm_6 fns FU 3)) (mkT (fB fns 16) []) (fO fns 16)
theorem Im1{R:Type}(args:List CV)(hp:List Blk)(k:CV->List Blk->Option R)(r:R)(h:Qd1 args hp k=some r):evFn sm_6 fns FU 4 16 args hp k=some r:=runG Du1 (os:=[]) trivial h
noncomputable def Pa1{R:Type}:Nat->Option (List CV->List Blk->(CV->List Blk->Option R)->Option R):=fun f'=>bif Nat.beq f' 16 then some Qd1 else none
theorem Hk1{R:Type}:Dl0 (R:=R) Pa1 (evFn sm_6 fns FU 4):=by
 intro f' g h args hp k r hg
 dsimp only[Pa1]at h
 by_cases h16:f'=16
 ·subst h16
  injection h with h
  subst h
  exact Bk0 0 (Im1 _ _ _ _ hg)
 rw[Bm0 h16,cond_false]at h
 cases h
noncomputable def F_6(a0:(List (Int×(Int×(Int×(Int×(Int×(Int×(Bool×(Int×Unit)))))))))):Option (((List (Int×(Int×(Int×(Int×(Int×(Int×(Bool×(Int×Unit)))))))))×((List (Int×(Int×(Int×(Int×(Int×((List Int)×(Int×Unit))))))))×(Int×(Bool×Unit))))×Int×Unit) :=
 bif decide ((↑(length a0):Int)>64)then some (([],[],0,false,PUnit.unit),5,PUnit.unit)else B_6_53_0_0 (L_6_53_0_0 4611686018427387904 a0 (↑(length a0):Int) 0 (0,false,PUnit.unit)) (fun y7 y8=>bif decide (y7>=0)then some (([],[],0,false,PUnit.unit),1,PUnit.unit)else bif !Sp.dst (List.map (fun y9=>y9.1) a0)then some (([],[],0,false,PUnit.unit),8,PUnit.unit)else gd (room (length a0) 64) (gd ((↑(length a0):Int)==(↑(length a0):Int)&&room (toNat (↑(length a0):Int)) 72) (some ((a0,replicate (toNat (↑(length a0):Int)) Zd1,0,false,PUnit.unit),0,PUnit.unit)))) fun y10=>bif !Sp.dst (List.map (fun y11=>y11.1) a0)then some (([],[],0,false,PUnit.unit),8,PUnit.unit)else gd (room (length a0) 64) (gd ((↑(length a0):Int)==(↑(length a0):Int)&&room (toNat (↑(length a0):Int)) 72) (some ((a0,replicate (toNat (↑(length a0):Int)) Zd1,0,false,PUnit.unit),0,PUnit.unit)))
noncomputable def Sp.p_6(a0:(List (Int×(Int×(Int×(Int×(Int×(Int×(Bool×(Int×Unit)))))))))):Bool:=(F_6 a0).isSome
noncomputable def Sp.v_6(a0:(List (Int×(Int×(Int×(Int×(Int×(Int×(Bool×(Int×Unit)))))))))):((List (Int×(Int×(Int×(Int×(Int×(Int×(Bool×(Int×Unit)))))))))×((List (Int×(Int×(Int×(Int×(Int×((List Int)×(Int×Unit))))))))×(Int×(Bool×Unit))))×Int×Unit:=(F_6 a0).getD (dfH R_6)
noncomputable def s_6:Summ:=ownS A_6 79 [true] Hd2 [(.int .i64)] (fun x=>p_6 x.1) (fun x=>v_6 x.1)
theorem pv_6(a0:(List (Int×(Int×(Int×(Int×(Int×(Int×(Bool×(Int×Unit)))))))))){y:((List (Int×(Int×(Int×(Int×(Int×(Int×(Bool×(Int×Unit)))))))))×((List (Int×(Int×(Int×(Int×(Int×((List Int)×(Int×Unit))))))))×(Int×(Bool×Unit))))×Int×Unit}(h:F_6 a0=some y):p_6 a0=true/\v_6 a0=y:=pvG h
theorem Js2(x:HDen A_6)(y:HDen R_6)(h:F_6 x.1=some y):evFn sm_6 fns FU 5 6 (ofH A_6 x) [] (ownK 79 [true] Hd2 [(.int .i64)])=some y:=runG Hk1 (os:=[]) trivial (Eq.trans (by kernel_rfl) h)
end
noncomputable section
abbrev A_93:List Ty:=[(.int .i64)]
abbrev R_93:List Ty:=[.bool]
noncomputable def Ik2:Nat->Option Summ:=smL [(34,s_34)]
noncomputable def F_93(a0:Int):Option (Bool×Unit) :=
 gd (p_34 a0 (-1099511627776:Int) 1099511627776) (some ((v_34 a0 (-1099511627776:Int) 1099511627776).1,PUnit.unit))
noncomputable def Sp.p_93(a0:Int):Bool:=(F_93 a0).isSome
noncomputable def Sp.v_93(a0:Int):Bool×Unit:=(F_93 a0).getD (dfH R_93)
noncomputable def s_93:Summ:=shN A_93 R_93 (fun x=>p_93 x.1) (fun x=>v_93 x.1)
theorem Kb2(a0:Int){y:Bool×Unit}(h:F_93 a0=some y):p_93 a0=true/\v_93 a0=y:=pvG h
theorem Bx2(x:HDen A_93)(y:HDen R_93)(h:F_93 x.1=some y):rnF Ik2 1 93 A_93 R_93 x y:=runG Ah0 (os:=[]) trivial (Eq.trans (by kernel_rfl) h)
end
noncomputable section
abbrev A_66:List Ty:=[(.pair (.int .i64) (.pair (.int .i64) (.pair (.int .i64) (.pair (.int .i64) (.pair (.int .i64) (.pair (.int .i64) (.pair .bool (.pair (.int .i64) .unit)))))))),(.slice (.int .i64))]
abbrev R_66:List Ty:=[.bool]
noncomputable def Qk0:Nat->Option Summ:=smL [(93,s_93)]
noncomputable def T_66_90_0_0:PS:=⟨19,[(0,.hv (.slice (.int .i64))),(1,.kc (.clo 92 (.pure .unit PUnit.unit))),(7,.hv (.int .i64)),(8,.hv (.int .i64))],[.mem (.hv (.pair (.int .i64) (.pair (.int .i64) (.pair (.int .i64) (.pair (.int .i64) (.pair (.int .i64) (.pair (.int .i64) (.pair .bool (.pair (.int .i64) .unit)))))))))],1⟩
inductive Sp.E_66_90_0_0 where
 |e0 (p2:Int) (p3:Int×Int×Int×Int×Int×Int×Bool×Int×Unit)
 |e1 (p3:Int×Int×Int×Int×Int×Int×Bool×Int×Unit)
noncomputable def Sp.B_66_90_0_0{R:Type}(r:Option E_66_90_0_0)(k0:Int->(Int×Int×Int×Int×Int×Int×Bool×Int×Unit)->Option R)(k1:(Int×Int×Int×Int×Int×Int×Bool×Int×Unit)->Option R):Option R:=match r with
 |none=>none
 |some (.e0 p2 p3)=>k0 p2 p3
 |some (.e1 p3)=>k1 p3
noncomputable def Pd0{R:Type}(k:Ex->St->Option R):E_66_90_0_0->Option R
 | .e0 p2 p3=>k Ex.ret (sx 19 [(4,CV.int i64 p2)] [Blk.mem (CV.pure (Ty.pair (Ty.int i64) (Ty.pair (Ty.int i64) (Ty.pair (Ty.int i64) (Ty.pair (Ty.int i64) (Ty.pair (Ty.int i64) (Ty.pair (Ty.int i64) (Ty.pair Ty.bool (Ty.pair (Ty.int i64) Ty.unit)))))))) p3)] 1)
 | .e1 p3=>k (Ex.exit 0) (sx 19 [] [Blk.mem (CV.pure (Ty.pair (Ty.int i64) (Ty.pair (Ty.int i64) (Ty.pair (Ty.int i64) (Ty.pair (Ty.int i64) (Ty.pair (Ty.int i64) (Ty.pair (Ty.int i64) (Ty.pair Ty.bool (Ty.pair (Ty.int i64) Ty.unit)))))))) p3)] 1)
noncomputable def Sp.S_66_90_0_0{R:Type}(K:List Int->Int->Int->(Int×Int×Int×Int×Int×Int×Bool×Int×Unit)->Option R)(k:E_66_90_0_0->Option R)(p0:List Int)(p1 p2:Int)(p3:Int×Int×Int×Int×Int×Int×Bool×Int×Unit):Option R:=
 bif decide (p2<p1)then gd (inB p2 (length p0)) (gd (p_93 (getD p0 (toNat p2) 0)) (bif !(v_93 (getD p0 (toNat p2) 0)).1 then k (E_66_90_0_0.e0 p2 p3)else K p0 p1 (wrap i64 (p2+1)) p3))else k (E_66_90_0_0.e1 p3)
noncomputable def Sp.L_66_90_0_0:Nat->List Int->Int->Int->(Int×Int×Int×Int×Int×Int×Bool×Int×Unit)->Option E_66_90_0_0
 |0,_,_,_,_=>none
 |m+1,p0,p1,p2,p3=>S_66_90_0_0 (L_66_90_0_0 m) some p0 p1 p2 p3
noncomputable def Ny0(m:Nat)(a:T_66_90_0_0.E):Option E_66_90_0_0:=L_66_90_0_0 m a.1 a.2.1 a.2.2.1 a.2.2.2.1
noncomputable def Ja0{R:Type}:Orc R:=orL T_66_90_0_0 (Ny0 FU) Pd0
theorem Wq0{R:Type}:okF (R:=R) Qk0 2 (nf 90 0) Ja0:=lp0 T_66_90_0_0 Ny0 (fun R K k a=>S_66_90_0_0 (fun p0 p1 p2 p3=>K (p0,p1,p2,p3,())) k a.1 a.2.1 a.2.2.1 a.2.2.2.1) Pd0 (fun _ _ _=>by kernel_rfl) (fun _ _ _=>by
 unfold S_66_90_0_0
 repeat' first|apply gdN|apply Bb0|rfl) (ok0 _)
noncomputable def In1{R:Type}:List CV->List Blk->(CV->List Blk->Option R)->Option R:=Ee0 Qk0 FU (ovr noO (evFn Qk0 fns FU 2)) (mkT (fB fns 90) [Ja0]) (fO fns 90)
theorem Eb1{R:Type}(args:List CV)(hp:List Blk)(k:CV->List Blk->Option R)(r:R)(h:In1 args hp k=some r):evFn Qk0 fns FU 3 90 args hp k=some r:=runG Ah0 (os:=[Ja0]) ⟨Wq0,trivial⟩ h
noncomputable def Sw0{R:Type}:Nat->Option (List CV->List Blk->(CV->List Blk->Option R)->Option R):=fun f'=>bif Nat.beq f' 90 then some In1 else none
theorem Yp0{R:Type}:Dl0 (R:=R) Sw0 (evFn Qk0 fns FU 3):=by
 intro f' g h args hp k r hg
 dsimp only[Sw0]at h
 by_cases h90:f'=90
 ·subst h90
  injection h with h
  subst h
  exact Bk0 0 (Eb1 _ _ _ _ hg)
 rw[Bm0 h90,cond_false]at h
 cases h
noncomputable def Io1{R:Type}:List CV->List Blk->(CV->List Blk->Option R)->Option R:=Ee0 Qk0 FU (ovr Sw0 (evFn Qk0 fns FU 3)) (mkT (fB fns 62) []) (fO fns 62)
theorem Ec1{R:Type}(args:List CV)(hp:List Blk)(k:CV->List Blk->Option R)(r:R)(h:Io1 args hp k=some r):evFn Qk0 fns FU 4 62 args hp k=some r:=runG Yp0 (os:=[]) trivial h
noncomputable def Bf1{R:Type}:Nat->Option (List CV->List Blk->(CV->List Blk->Option R)->Option R):=fun f'=>bif Nat.beq f' 62 then some Io1 else none
theorem Yo0{R:Type}:Dl0 (R:=R) Bf1 (evFn Qk0 fns FU 4):=by
 intro f' g h args hp k r hg
 dsimp only[Bf1]at h
 by_cases h62:f'=62
 ·subst h62
  injection h with h
  subst h
  exact Bk0 0 (Ec1 _ _ _ _ hg)
 rw[Bm0 h62,cond_false]at h
 cases h
noncomputable def F_66(a0:(Int×(Int×(Int×(Int×(Int×(Int×(Bool×(Int×Unit)))))))))(a1:(List Int)):Option (Bool×Unit) :=
 bif(↑(length a1):Int)==a0.2.2.2.2.2.2.2.1 then B_66_90_0_0 (L_66_90_0_0 4611686018427387904 a1 (↑(length a1):Int) 0 a0) (fun y3 y4=>some (!decide (y3>=0),PUnit.unit)) fun y5=>some (true,PUnit.unit)else some (false,PUnit.unit)
noncomputable def Sp.p_66(a0:(Int×(Int×(Int×(Int×(Int×(Int×(Bool×(Int×Unit)))))))))(a1:(List Int)):Bool:=(F_66 a0 a1).isSome
noncomputable def Sp.v_66(a0:(Int×(Int×(Int×(Int×(Int×(Int×(Bool×(Int×Unit)))))))))(a1:(List Int)):Bool×Unit:=(F_66 a0 a1).getD (dfH R_66)
noncomputable def s_66:Summ:=shN A_66 R_66 (fun x=>p_66 x.1 x.2.1) (fun x=>v_66 x.1 x.2.1)
theorem Kn2(a0:(Int×(Int×(Int×(Int×(Int×(Int×(Bool×(Int×Unit)))))))))(a1:(List Int)){y:Bool×Unit}(h:F_66 a0 a1=some y):p_66 a0 a1=true/\v_66 a0 a1=y:=pvG h
theorem Cl2(x:HDen A_66)(y:HDen R_66)(h:F_66 x.1 x.2.1=some y):rnF Qk0 5 66 A_66 R_66 x y:=runG Yo0 (os:=[]) trivial (Eq.trans (by kernel_rfl) h)
end
noncomputable section
abbrev A_67:List Ty:=[(.pair (.int .i64) (.pair (.int .i64) (.pair (.int .i64) (.pair (.int .i64) (.pair (.int .i64) (.pair (.slice (.int .i64)) (.pair (.int .i64) .unit))))))),(.int .i64)]
abbrev R_67:List Ty:=[.bool]
noncomputable def Iu2:Nat->Option Summ:=smL []
noncomputable def F_67(a0:(Int×(Int×(Int×(Int×(Int×((List Int)×(Int×Unit))))))))(a1:Int):Option (Bool×Unit) :=
 some (Sp.andI i64 (a0.1) a1==a1,PUnit.unit)
noncomputable def Sp.p_67(a0:(Int×(Int×(Int×(Int×(Int×((List Int)×(Int×Unit))))))))(a1:Int):Bool:=(F_67 a0 a1).isSome
noncomputable def Sp.v_67(a0:(Int×(Int×(Int×(Int×(Int×((List Int)×(Int×Unit))))))))(a1:Int):Bool×Unit:=(F_67 a0 a1).getD (dfH R_67)
noncomputable def s_67:Summ:=shN A_67 R_67 (fun x=>p_67 x.1 x.2.1) (fun x=>v_67 x.1 x.2.1)
theorem Km2(a0:(Int×(Int×(Int×(Int×(Int×((List Int)×(Int×Unit))))))))(a1:Int){y:Bool×Unit}(h:F_67 a0 a1=some y):p_67 a0 a1=true/\v_67 a0 a1=y:=pvG h
theorem Ck2(x:HDen A_67)(y:HDen R_67)(h:F_67 x.1 x.2.1=some y):rnF Iu2 1 67 A_67 R_67 x y:=runG Ah0 (os:=[]) trivial (Eq.trans (by kernel_rfl) h)
end
noncomputable section
abbrev A_68:List Ty:=[(.pair (.int .i64) (.pair (.int .i64) (.pair (.int .i64) (.pair (.int .i64) (.pair (.int .i64) (.pair (.slice (.int .i64)) (.pair (.int .i64) .unit)))))))]
abbrev R_68:List Ty:=[.bool]
noncomputable def It2:Nat->Option Summ:=smL []
noncomputable def F_68(a0:(Int×(Int×(Int×(Int×(Int×((List Int)×(Int×Unit)))))))):Option (Bool×Unit) :=
 some (Sp.andI i64 (a0.1) (6:Int)!=(0:Int),PUnit.unit)
noncomputable def Sp.p_68(a0:(Int×(Int×(Int×(Int×(Int×((List Int)×(Int×Unit)))))))):Bool:=(F_68 a0).isSome
noncomputable def Sp.v_68(a0:(Int×(Int×(Int×(Int×(Int×((List Int)×(Int×Unit)))))))):Bool×Unit:=(F_68 a0).getD (dfH R_68)
noncomputable def s_68:Summ:=shN A_68 R_68 (fun x=>p_68 x.1) (fun x=>v_68 x.1)
theorem Kl2(a0:(Int×(Int×(Int×(Int×(Int×((List Int)×(Int×Unit)))))))){y:Bool×Unit}(h:F_68 a0=some y):p_68 a0=true/\v_68 a0=y:=pvG h
theorem Cj2(x:HDen A_68)(y:HDen R_68)(h:F_68 x.1=some y):rnF It2 1 68 A_68 R_68 x y:=runG Ah0 (os:=[]) trivial (Eq.trans (by kernel_rfl) h)
end
noncomputable section
abbrev Cm0:Type:=Int×Int×Int×Int×Int×List Int×Int×Unit
abbrev Cy0:Type:=Int×Int×Int×Int×Int×Int×Bool×Int×Unit
abbrev Cs1:Ty:=(.pair (.int .i64) (.pair (.int .i64) (.pair (.int .i64) (.pair (.int .i64) (.pair (.int .i64) (.pair (.int .i64) (.pair .bool (.pair (.int .i64) .unit))))))))
abbrev Cr1:Ty:=(.pair (.int .i64) (.pair (.int .i64) (.pair (.int .i64) (.pair (.int .i64) (.pair (.int .i64) (.pair (.slice (.int .i64)) (.pair (.int .i64) .unit)))))))
abbrev A_35:List Ty:=[(.pair (.int .i64) (.pair (.int .i64) (.pair (.int .i64) (.pair (.int .i64) (.pair (.int .i64) (.pair (.int .i64) (.pair .bool (.pair (.int .i64) .unit)))))))),(.pair (.int .i64) (.pair (.int .i64) (.pair (.int .i64) (.pair (.int .i64) (.pair (.int .i64) (.pair (.slice (.int .i64)) (.pair (.int .i64) .unit))))))),(.int .i64)]
abbrev R_35:List Ty:=[.bool]
noncomputable def Gg1:Nat->Option Summ:=smL [(34,s_34),(66,s_66),(67,s_67),(68,s_68)]
noncomputable def Sv1:PS:=⟨153,[(3,.kc (.ptr 0 [])),(4,.kc (.ptr 1 []))],[.mem (.hv Cs1),.mem (.hv Cr1)],0⟩
inductive Sp.E_35_3 where
 |e0 (p0:Cy0) (p1:Cm0)
 |e1
 |e2 (p0:Cy0) (p1:Cm0)
noncomputable def Sp.B_35_3{R:Type}(r:Option E_35_3)(k0:Cy0->Cm0->Option R)(k1:Option R)(k2:Cy0->Cm0->Option R):Option R:=match r with
 |none=>none
 |some (.e0 p0 p1)=>k0 p0 p1
 |some (.e1)=>k1
 |some (.e2 p0 p1)=>k2 p0 p1
theorem Zh1{A R:Type}{r:Option E_35_3}{f:A->Option R}{k0:Cy0->Cm0->Option A}{k1:Option A}{k2:Cy0->Cm0->Option A}{l0:Cy0->Cm0->Option R}{l1:Option R}{l2:Cy0->Cm0->Option R}(h0:∀p0 p1,(k0 p0 p1).bind f=l0 p0 p1)(h1:(k1).bind f=l1)(h2:∀p0 p1,(k2 p0 p1).bind f=l2 p0 p1):(B_35_3 r k0 k1 k2).bind f=B_35_3 r l0 l1 l2:=by
 cases r with
 |none=>rfl
 |some e=>cases e<;>first|apply h0|apply h1|apply h2
noncomputable def Rw1{R:Type}(k:Ex->St->Option R):E_35_3->Option R
 | .e0 p0 p1=>k Ex.ret (sx 153 [(6,CV.bool ((↑(length (p1.2.2.2.2.2.1)):Int)==p0.2.2.2.2.2.2.2.1))] [])
 | .e1=>k Ex.ret (sx 153 [(6,CV.bool false)] [])
 | .e2 p0 p1=>k Ex.normal (sx 153 [(3,CV.ptr 0 []),(4,CV.ptr 1 []),(105,CV.bool false),(106,CV.pure (Ty.pair (Ty.int i64) (Ty.pair (Ty.int i64) (Ty.pair (Ty.int i64) (Ty.pair (Ty.int i64) (Ty.pair (Ty.int i64) (Ty.pair (Ty.slice (Ty.int i64)) (Ty.pair (Ty.int i64) Ty.unit))))))) p1),(107,CV.bool ((v_68 p1).1))] [Blk.mem (CV.pure (Ty.pair (Ty.int i64) (Ty.pair (Ty.int i64) (Ty.pair (Ty.int i64) (Ty.pair (Ty.int i64) (Ty.pair (Ty.int i64) (Ty.pair (Ty.int i64) (Ty.pair Ty.bool (Ty.pair (Ty.int i64) Ty.unit)))))))) p0),Blk.mem (CV.pure (Ty.pair (Ty.int i64) (Ty.pair (Ty.int i64) (Ty.pair (Ty.int i64) (Ty.pair (Ty.int i64) (Ty.pair (Ty.int i64) (Ty.pair (Ty.slice (Ty.int i64)) (Ty.pair (Ty.int i64) Ty.unit))))))) p1)])
noncomputable def Sp.S_35_3{R:Type}(k:E_35_3->Option R)(p0:Int×Int×Int×Int×Int×Int×Bool×Int×Unit)(p1:Int×Int×Int×Int×Int×List Int×Int×Unit):Option R:=
 gd (p_68 p1) (bif(v_68 p1).1 then bif decide (p1.2.2.2.2.1>=1)then bif decide (p1.2.2.1>=1)then bif decide (p1.2.2.2.2.2.2.1>=1)then k (E_35_3.e0 p0 p1)else k (E_35_3.e1)else k (E_35_3.e1)else k (E_35_3.e1)else k (E_35_3.e2 p0 p1))
noncomputable def Sp.J_35_3(p0:Int×Int×Int×Int×Int×Int×Bool×Int×Unit)(p1:Int×Int×Int×Int×Int×List Int×Int×Unit):Option E_35_3:=S_35_3 some p0 p1
noncomputable def Ty1{R:Type}:Orc R:=orL Sv1 (fun a=>J_35_3 a.1 a.2.1) Rw1
theorem Yk1{R:Type}:okF (R:=R) Gg1 0 (ni (ni (ni (nf 35 0) 0) 0) 0) Ty1:=jp Ah0 (os:=[]) trivial Sv1 (fun R k a=>S_35_3 k a.1 a.2.1) Rw1 (fun k a=>by kernel_rfl) (fun Y a=>by
 unfold S_35_3
 repeat' first|apply gdN|apply Bb0|rfl) (ok0 _)
noncomputable def Sw1:PS:=⟨153,[(3,.kc (.ptr 0 [])),(4,.kc (.ptr 1 []))],[.mem (.hv Cs1),.mem (.hv Cr1)],0⟩
inductive Sp.E_35_2 where
 |e0
 |e1 (y8:Cy0) (y9:Cm0)
 |e2 (y10:Cy0) (y11:Cm0)
noncomputable def Sp.B_35_2{R:Type}(r:Option E_35_2)(k0:Option R)(k1 k2:Cy0->Cm0->Option R):Option R:=match r with
 |none=>none
 |some (.e0)=>k0
 |some (.e1 y8 y9)=>k1 y8 y9
 |some (.e2 y10 y11)=>k2 y10 y11
theorem Zi1{A R:Type}{r:Option E_35_2}{f:A->Option R}{k0:Option A}{k1:Cy0->Cm0->Option A}{k2:Cy0->Cm0->Option A}{l0:Option R}{l1:Cy0->Cm0->Option R}{l2:Cy0->Cm0->Option R}(h0:(k0).bind f=l0)(h1:∀y8 y9,(k1 y8 y9).bind f=l1 y8 y9)(h2:∀y10 y11,(k2 y10 y11).bind f=l2 y10 y11):(B_35_2 r k0 k1 k2).bind f=B_35_2 r l0 l1 l2:=by
 cases r with
 |none=>rfl
 |some e=>cases e<;>first|apply h0|apply h1|apply h2
noncomputable def Rx1{R:Type}(k:Ex->St->Option R):E_35_2->Option R
 | .e0=>k Ex.ret (sx 153 [(6,CV.bool false)] [])
 | .e1 y8 y9=>k Ex.ret (sx 153 [(6,CV.bool ((↑(length (y9.2.2.2.2.2.1)):Int)==y8.2.2.2.2.2.2.2.1))] [])
 | .e2 y10 y11=>k Ex.normal (sx 153 [(3,CV.ptr 0 []),(4,CV.ptr 1 []),(105,CV.bool false),(106,CV.pure (Ty.pair (Ty.int i64) (Ty.pair (Ty.int i64) (Ty.pair (Ty.int i64) (Ty.pair (Ty.int i64) (Ty.pair (Ty.int i64) (Ty.pair (Ty.slice (Ty.int i64)) (Ty.pair (Ty.int i64) Ty.unit))))))) y11),(107,CV.bool ((v_68 y11).1))] [Blk.mem (CV.pure (Ty.pair (Ty.int i64) (Ty.pair (Ty.int i64) (Ty.pair (Ty.int i64) (Ty.pair (Ty.int i64) (Ty.pair (Ty.int i64) (Ty.pair (Ty.int i64) (Ty.pair Ty.bool (Ty.pair (Ty.int i64) Ty.unit)))))))) y10),Blk.mem (CV.pure (Ty.pair (Ty.int i64) (Ty.pair (Ty.int i64) (Ty.pair (Ty.int i64) (Ty.pair (Ty.int i64) (Ty.pair (Ty.int i64) (Ty.pair (Ty.slice (Ty.int i64)) (Ty.pair (Ty.int i64) Ty.unit))))))) y11)])
noncomputable def Sp.S_35_2{R:Type}(k:E_35_2->Option R)(p0:Int×Int×Int×Int×Int×Int×Bool×Int×Unit)(p1:Int×Int×Int×Int×Int×List Int×Int×Unit):Option R:=
 gd (p_67 p1 2) (bif(v_67 p1 2).1 then bif p1.2.2.2.1 !=0 then k (E_35_2.e0)else B_35_3 (J_35_3 p0 p1) (fun y8 y9=>k (E_35_2.e1 y8 y9)) (k (E_35_2.e0)) fun y10 y11=>k (E_35_2.e2 y10 y11)else B_35_3 (J_35_3 p0 p1) (fun y12 y13=>k (E_35_2.e1 y12 y13)) (k (E_35_2.e0)) fun y14 y15=>k (E_35_2.e2 y14 y15))
noncomputable def Sp.J_35_2(p0:Int×Int×Int×Int×Int×Int×Bool×Int×Unit)(p1:Int×Int×Int×Int×Int×List Int×Int×Unit):Option E_35_2:=S_35_2 some p0 p1
noncomputable def Tz1{R:Type}:Orc R:=orL Sw1 (fun a=>J_35_2 a.1 a.2.1) Rx1
theorem Yl1{R:Type}:okF (R:=R) Gg1 0 (ni (ni (nf 35 0) 0) 0) Tz1:=jp Ah0 (os:=[Ty1]) ⟨Yk1,trivial⟩ Sw1 (fun R k a=>S_35_2 k a.1 a.2.1) Rx1 (fun k a=>by kernel_rfl) (fun Y a=>by
 unfold S_35_2
 repeat' first|apply gdN|apply Bb0|(apply Zh1<;>intros)|rfl) (ok0 _)
noncomputable def Sx1:PS:=⟨153,[(3,.kc (.ptr 0 [])),(4,.kc (.ptr 1 []))],[.mem (.hv Cs1),.mem (.hv Cr1)],0⟩
inductive Sp.E_35_1 where
 |e0
 |e1 (y8:Cy0) (y9:Cm0)
 |e2 (y10:Cy0) (y11:Cm0)
noncomputable def Sp.B_35_1{R:Type}(r:Option E_35_1)(k0:Option R)(k1 k2:Cy0->Cm0->Option R):Option R:=match r with
 |none=>none
 |some (.e0)=>k0
 |some (.e1 y8 y9)=>k1 y8 y9
 |some (.e2 y10 y11)=>k2 y10 y11
theorem Zj1{A R:Type}{r:Option E_35_1}{f:A->Option R}{k0:Option A}{k1:Cy0->Cm0->Option A}{k2:Cy0->Cm0->Option A}{l0:Option R}{l1:Cy0->Cm0->Option R}{l2:Cy0->Cm0->Option R}(h0:(k0).bind f=l0)(h1:∀y8 y9,(k1 y8 y9).bind f=l1 y8 y9)(h2:∀y10 y11,(k2 y10 y11).bind f=l2 y10 y11):(B_35_1 r k0 k1 k2).bind f=B_35_1 r l0 l1 l2:=by
 cases r with
 |none=>rfl
 |some e=>cases e<;>first|apply h0|apply h1|apply h2
noncomputable def Ry1{R:Type}(k:Ex->St->Option R):E_35_1->Option R
 | .e0=>k Ex.ret (sx 153 [(6,CV.bool false)] [])
 | .e1 y8 y9=>k Ex.ret (sx 153 [(6,CV.bool ((↑(length (y9.2.2.2.2.2.1)):Int)==y8.2.2.2.2.2.2.2.1))] [])
 | .e2 y10 y11=>k Ex.normal (sx 153 [(3,CV.ptr 0 []),(4,CV.ptr 1 []),(105,CV.bool false),(106,CV.pure (Ty.pair (Ty.int i64) (Ty.pair (Ty.int i64) (Ty.pair (Ty.int i64) (Ty.pair (Ty.int i64) (Ty.pair (Ty.int i64) (Ty.pair (Ty.slice (Ty.int i64)) (Ty.pair (Ty.int i64) Ty.unit))))))) y11),(107,CV.bool ((v_68 y11).1))] [Blk.mem (CV.pure (Ty.pair (Ty.int i64) (Ty.pair (Ty.int i64) (Ty.pair (Ty.int i64) (Ty.pair (Ty.int i64) (Ty.pair (Ty.int i64) (Ty.pair (Ty.int i64) (Ty.pair Ty.bool (Ty.pair (Ty.int i64) Ty.unit)))))))) y10),Blk.mem (CV.pure (Ty.pair (Ty.int i64) (Ty.pair (Ty.int i64) (Ty.pair (Ty.int i64) (Ty.pair (Ty.int i64) (Ty.pair (Ty.int i64) (Ty.pair (Ty.slice (Ty.int i64)) (Ty.pair (Ty.int i64) Ty.unit))))))) y11)])
noncomputable def Sp.S_35_1{R:Type}(k:E_35_1->Option R)(p0:Int×Int×Int×Int×Int×Int×Bool×Int×Unit)(p1:Int×Int×Int×Int×Int×List Int×Int×Unit):Option R:=
 gd (p_67 p1 4) (bif !(v_67 p1 4).1==(p1.2.2.1==2)then k (E_35_1.e0)else gd (p_67 p1 16) (bif(v_67 p1 16).1 then gd (p_67 p1 4) (bif !(v_67 p1 4).1 then k (E_35_1.e0)else bif !p0.2.2.2.2.2.2.1 then k (E_35_1.e0)else B_35_2 (J_35_2 p0 p1) (k (E_35_1.e0)) (fun y8 y9=>k (E_35_1.e1 y8 y9)) fun y10 y11=>k (E_35_1.e2 y10 y11))else B_35_2 (J_35_2 p0 p1) (k (E_35_1.e0)) (fun y12 y13=>k (E_35_1.e1 y12 y13)) fun y14 y15=>k (E_35_1.e2 y14 y15)))
noncomputable def Sp.J_35_1(p0:Int×Int×Int×Int×Int×Int×Bool×Int×Unit)(p1:Int×Int×Int×Int×Int×List Int×Int×Unit):Option E_35_1:=S_35_1 some p0 p1
noncomputable def Ua1{R:Type}:Orc R:=orL Sx1 (fun a=>J_35_1 a.1 a.2.1) Ry1
theorem Ym1{R:Type}:okF (R:=R) Gg1 0 (ni (nf 35 0) 0) Ua1:=jp Ah0 (os:=[Tz1]) ⟨Yl1,trivial⟩ Sx1 (fun R k a=>S_35_1 k a.1 a.2.1) Ry1 (fun k a=>by kernel_rfl) (fun Y a=>by
 unfold S_35_1
 repeat' first|apply gdN|apply Bb0|(apply Zi1<;>intros)|rfl) (ok0 _)
noncomputable def Sy1:PS:=⟨153,[(2,.hv (.int .i64)),(3,.kc (.ptr 0 [])),(4,.kc (.ptr 1 []))],[.mem (.hv Cs1),.mem (.hv Cr1)],0⟩
inductive Sp.E_35_0 where
 |e0
 |e1 (y8:Cy0) (y9:Cm0)
 |e2 (y11:Cm0)
noncomputable def Sp.B_35_0{R:Type}(r:Option E_35_0)(k0:Option R)(k1:Cy0->Cm0->Option R)(k2:Cm0->Option R):Option R:=match r with
 |none=>none
 |some (.e0)=>k0
 |some (.e1 y8 y9)=>k1 y8 y9
 |some (.e2 y11)=>k2 y11
noncomputable def Rz1{R:Type}(k:Ex->St->Option R):E_35_0->Option R
 | .e0=>k Ex.ret (sx 153 [(6,CV.bool false)] [])
 | .e1 y8 y9=>k Ex.ret (sx 153 [(6,CV.bool ((↑(length (y9.2.2.2.2.2.1)):Int)==y8.2.2.2.2.2.2.2.1))] [])
 | .e2 y11=>k Ex.ret (sx 153 [(6,CV.bool ((↑(length (y11.2.2.2.2.2.1)):Int)==0))] [])
noncomputable def Sp.S_35_0{R:Type}(k:E_35_0->Option R)(p0:Int)(p1:Int×Int×Int×Int×Int×Int×Bool×Int×Unit)(p2:Int×Int×Int×Int×Int×List Int×Int×Unit):Option R:=
 gd (p_67 p2 1) (bif(v_67 p2 1).1 then gd (p_67 p2 10) (bif !(v_67 p2 10).1 then k (E_35_0.e0)else bif p2.2.2.2.2.2.2.1 !=p0 then k (E_35_0.e0)else B_35_1 (J_35_1 p1 p2) (k (E_35_0.e0)) (fun y8 y9=>k (E_35_0.e1 y8 y9)) fun y10 y11=>bif y11.2.2.1==0 then bif y11.2.2.2.1==0 then bif y11.2.2.2.2.1==0 then bif y11.2.2.2.2.2.2.1==0 then k (E_35_0.e2 y11)else k (E_35_0.e0)else k (E_35_0.e0)else k (E_35_0.e0)else k (E_35_0.e0))else B_35_1 (J_35_1 p1 p2) (k (E_35_0.e0)) (fun y12 y13=>k (E_35_0.e1 y12 y13)) fun y14 y15=>bif y15.2.2.1==0 then bif y15.2.2.2.1==0 then bif y15.2.2.2.2.1==0 then bif y15.2.2.2.2.2.2.1==0 then k (E_35_0.e2 y15)else k (E_35_0.e0)else k (E_35_0.e0)else k (E_35_0.e0)else k (E_35_0.e0))
noncomputable def Sp.J_35_0(p0:Int)(p1:Int×Int×Int×Int×Int×Int×Bool×Int×Unit)(p2:Int×Int×Int×Int×Int×List Int×Int×Unit):Option E_35_0:=S_35_0 some p0 p1 p2
noncomputable def Ub1{R:Type}:Orc R:=orL Sy1 (fun a=>J_35_0 a.1 a.2.1 a.2.2.1) Rz1
theorem Yn1{R:Type}:okF (R:=R) Gg1 0 (nf 35 0) Ub1:=jp Ah0 (os:=[Ua1]) ⟨Ym1,trivial⟩ Sy1 (fun R k a=>S_35_0 k a.1 a.2.1 a.2.2.1) Rz1 (fun k a=>by kernel_rfl) (fun Y a=>by
 unfold S_35_0
 repeat' first|apply gdN|apply Bb0|(apply Zj1<;>intros)|rfl) (ok0 _)
noncomputable def F_35(a0:(Int×(Int×(Int×(Int×(Int×(Int×(Bool×(Int×Unit)))))))))(a1:(Int×(Int×(Int×(Int×(Int×((List Int)×(Int×Unit))))))))(a2:Int):Option (Bool×Unit) :=
 gd (p_34 (a1.1) 0 31) (bif !(v_34 (a1.1) 0 31).1 then some (false,PUnit.unit)else gd (p_34 (a1.2.1) (wrap i64 (0-a0.2.2.1)) (a0.2.1)) (bif !(v_34 (a1.2.1) (wrap i64 (0-a0.2.2.1)) (a0.2.1)).1 then some (false,PUnit.unit)else gd (p_34 (a1.2.2.1) 0 2) (bif !(v_34 (a1.2.2.1) 0 2).1 then some (false,PUnit.unit)else gd (p_34 (a1.2.2.2.1) 0 (wrap i64 (a0.2.2.2.2.1-1))) (bif !(v_34 (a1.2.2.2.1) 0 (wrap i64 (a0.2.2.2.2.1-1))).1 then some (false,PUnit.unit)else gd (p_34 (a1.2.2.2.2.1) 0 255) (bif !(v_34 (a1.2.2.2.2.1) 0 255).1 then some (false,PUnit.unit)else gd (p_34 (a1.2.2.2.2.2.2.1) 0 a2) (bif !(v_34 (a1.2.2.2.2.2.2.1) 0 a2).1 then some (false,PUnit.unit)else bif decide ((↑(length (a1.2.2.2.2.2.1)):Int)>0)then gd (p_66 a0 (a1.2.2.2.2.2.1)) (bif !(v_66 a0 (a1.2.2.2.2.2.1)).1 then some (false,PUnit.unit)else B_35_0 (J_35_0 a2 a0 a1) (some (false,PUnit.unit)) (fun y14 y15=>some ((↑(length (y15.2.2.2.2.2.1)):Int)==y14.2.2.2.2.2.2.2.1,PUnit.unit)) fun y16=>some ((↑(length (y16.2.2.2.2.2.1)):Int)==0,PUnit.unit))else B_35_0 (J_35_0 a2 a0 a1) (some (false,PUnit.unit)) (fun y17 y18=>some ((↑(length (y18.2.2.2.2.2.1)):Int)==y17.2.2.2.2.2.2.2.1,PUnit.unit)) fun y19=>some ((↑(length (y19.2.2.2.2.2.1)):Int)==0,PUnit.unit)))))))
noncomputable def Sp.p_35(a0:(Int×(Int×(Int×(Int×(Int×(Int×(Bool×(Int×Unit)))))))))(a1:(Int×(Int×(Int×(Int×(Int×((List Int)×(Int×Unit))))))))(a2:Int):Bool:=(F_35 a0 a1 a2).isSome
noncomputable def Sp.v_35(a0:(Int×(Int×(Int×(Int×(Int×(Int×(Bool×(Int×Unit)))))))))(a1:(Int×(Int×(Int×(Int×(Int×((List Int)×(Int×Unit))))))))(a2:Int):Bool×Unit:=(F_35 a0 a1 a2).getD (dfH R_35)
noncomputable def s_35:Summ:=shN A_35 R_35 (fun x=>p_35 x.1 x.2.1 x.2.2.1) (fun x=>v_35 x.1 x.2.1 x.2.2.1)
theorem Li2(a0:(Int×(Int×(Int×(Int×(Int×(Int×(Bool×(Int×Unit)))))))))(a1:(Int×(Int×(Int×(Int×(Int×((List Int)×(Int×Unit))))))))(a2:Int){y:Bool×Unit}(h:F_35 a0 a1 a2=some y):p_35 a0 a1 a2=true/\v_35 a0 a1 a2=y:=pvG h
theorem Di2(x:HDen A_35)(y:HDen R_35)(h:F_35 x.1 x.2.1 x.2.2.1=some y):rnF Gg1 1 35 A_35 R_35 x y:=runG Ah0 (os:=[Ub1]) ⟨Yn1,trivial⟩ (Eq.trans (by kernel_rfl) h)
end
noncomputable section
abbrev Kv1:Ty:=(.pair (.slice (.pair (.int .i64) (.pair (.int .i64) (.pair (.int .i64) (.pair (.int .i64) (.pair (.int .i64) (.pair (.int .i64) (.pair .bool (.pair (.int .i64) .unit))))))))) (.pair (.slice (.pair (.int .i64) (.pair (.int .i64) (.pair (.int .i64) (.pair (.int .i64) (.pair (.int .i64) (.pair (.slice (.int .i64)) (.pair (.int .i64) .unit)))))))) (.pair (.int .i64) (.pair .bool .unit))))
abbrev Dc1:Type:=List (Int×Int×Int×Int×Int×Int×Bool×Int×Unit)×List (Int×Int×Int×Int×Int×List Int×Int×Unit)×Int×Bool×Unit
abbrev A_10:List Ty:=[(.pair (.slice (.pair (.int .i64) (.pair (.int .i64) (.pair (.int .i64) (.pair (.int .i64) (.pair (.int .i64) (.pair (.int .i64) (.pair .bool (.pair (.int .i64) .unit))))))))) (.pair (.slice (.pair (.int .i64) (.pair (.int .i64) (.pair (.int .i64) (.pair (.int .i64) (.pair (.int .i64) (.pair (.slice (.int .i64)) (.pair (.int .i64) .unit)))))))) (.pair (.int .i64) (.pair .bool .unit))))]
abbrev R_10:List Ty:=[.bool]
noncomputable def Mj0:Nat->Option Summ:=smL [(18,s_18),(34,s_34),(35,s_35),(54,s_54)]
noncomputable def T_10_53_0_0:PS:=⟨19,[(0,.hv (.slice (.pair (.int .i64) (.pair (.int .i64) (.pair (.int .i64) (.pair (.int .i64) (.pair (.int .i64) (.pair (.int .i64) (.pair .bool (.pair (.int .i64) .unit)))))))))),(1,.kc (.clo 17 (.pure .unit PUnit.unit))),(7,.hv (.int .i64)),(8,.hv (.int .i64))],[.mem (.hv Kv1)],1⟩
inductive Sp.E_10_53_0_0 where
 |e0 (p2:Int) (p3:Dc1)
 |e1 (p3:Dc1)
noncomputable def Sp.B_10_53_0_0{R:Type}(r:Option E_10_53_0_0)(k0:Int->Dc1->Option R)(k1:Dc1->Option R):Option R:=match r with
 |none=>none
 |some (.e0 p2 p3)=>k0 p2 p3
 |some (.e1 p3)=>k1 p3
noncomputable def Ps0{R:Type}(k:Ex->St->Option R):E_10_53_0_0->Option R
 | .e0 p2 p3=>k Ex.ret (sx 19 [(4,CV.int i64 p2)] [Blk.mem (CV.pure (Ty.pair (Ty.slice (Ty.pair (Ty.int i64) (Ty.pair (Ty.int i64) (Ty.pair (Ty.int i64) (Ty.pair (Ty.int i64) (Ty.pair (Ty.int i64) (Ty.pair (Ty.int i64) (Ty.pair Ty.bool (Ty.pair (Ty.int i64) Ty.unit))))))))) (Ty.pair (Ty.slice (Ty.pair (Ty.int i64) (Ty.pair (Ty.int i64) (Ty.pair (Ty.int i64) (Ty.pair (Ty.int i64) (Ty.pair (Ty.int i64) (Ty.pair (Ty.slice (Ty.int i64)) (Ty.pair (Ty.int i64) Ty.unit)))))))) (Ty.pair (Ty.int i64) (Ty.pair Ty.bool Ty.unit)))) p3)] 1)
 | .e1 p3=>k (Ex.exit 0) (sx 19 [] [Blk.mem (CV.pure (Ty.pair (Ty.slice (Ty.pair (Ty.int i64) (Ty.pair (Ty.int i64) (Ty.pair (Ty.int i64) (Ty.pair (Ty.int i64) (Ty.pair (Ty.int i64) (Ty.pair (Ty.int i64) (Ty.pair Ty.bool (Ty.pair (Ty.int i64) Ty.unit))))))))) (Ty.pair (Ty.slice (Ty.pair (Ty.int i64) (Ty.pair (Ty.int i64) (Ty.pair (Ty.int i64) (Ty.pair (Ty.int i64) (Ty.pair (Ty.int i64) (Ty.pair (Ty.slice (Ty.int i64)) (Ty.pair (Ty.int i64) Ty.unit)))))))) (Ty.pair (Ty.int i64) (Ty.pair Ty.bool Ty.unit)))) p3)] 1)
noncomputable def Sp.S_10_53_0_0{R:Type}(K:(List (Int×Int×Int×Int×Int×Int×Bool×Int×Unit))->Int->Int->(List (Int×Int×Int×Int×Int×Int×Bool×Int×Unit)×List (Int×Int×Int×Int×Int×List Int×Int×Unit)×Int×Bool×Unit)->Option R)(k:E_10_53_0_0->Option R)(p0:List (Int×Int×Int×Int×Int×Int×Bool×Int×Unit))(p1 p2:Int)(p3:List (Int×Int×Int×Int×Int×Int×Bool×Int×Unit)×List (Int×Int×Int×Int×Int×List Int×Int×Unit)×Int×Bool×Unit):Option R:=
 bif decide (p2<p1)then gd (inB p2 (length p0)) (gd (p_54 (getD p0 (toNat p2) Zd0)) (bif !(v_54 (getD p0 (toNat p2) Zd0)).1 then k (E_10_53_0_0.e0 p2 p3)else K p0 p1 (wrap i64 (p2+1)) p3))else k (E_10_53_0_0.e1 p3)
noncomputable def Sp.L_10_53_0_0:Nat->(List (Int×Int×Int×Int×Int×Int×Bool×Int×Unit))->Int->Int->(List (Int×Int×Int×Int×Int×Int×Bool×Int×Unit)×List (Int×Int×Int×Int×Int×List Int×Int×Unit)×Int×Bool×Unit)->Option E_10_53_0_0
 |0,_,_,_,_=>none
 |m+1,p0,p1,p2,p3=>S_10_53_0_0 (L_10_53_0_0 m) some p0 p1 p2 p3
noncomputable def Oh0(m:Nat)(a:T_10_53_0_0.E):Option E_10_53_0_0:=L_10_53_0_0 m a.1 a.2.1 a.2.2.1 a.2.2.2.1
noncomputable def Jk0{R:Type}:Orc R:=orL T_10_53_0_0 (Oh0 FU) Ps0
theorem Xf0{R:Type}:okF (R:=R) Mj0 2 (nf 53 0) Jk0:=lp0 T_10_53_0_0 Oh0 (fun R K k a=>S_10_53_0_0 (fun p0 p1 p2 p3=>K (p0,p1,p2,p3,())) k a.1 a.2.1 a.2.2.1 a.2.2.2.1) Ps0 (fun _ _ _=>by kernel_rfl) (fun _ _ _=>by
 unfold S_10_53_0_0
 repeat' first|apply gdN|apply Bb0|rfl) (ok0 _)
noncomputable def Jc1{R:Type}:List CV->List Blk->(CV->List Blk->Option R)->Option R:=Ee0 Mj0 FU (ovr noO (evFn Mj0 fns FU 2)) (mkT (fB fns 53) [Jk0]) (fO fns 53)
theorem Eq1{R:Type}(args:List CV)(hp:List Blk)(k:CV->List Blk->Option R)(r:R)(h:Jc1 args hp k=some r):evFn Mj0 fns FU 3 53 args hp k=some r:=runG Ah0 (os:=[Jk0]) ⟨Xf0,trivial⟩ h
noncomputable def Tc0{R:Type}:Nat->Option (List CV->List Blk->(CV->List Blk->Option R)->Option R):=fun f'=>bif Nat.beq f' 53 then some Jc1 else none
theorem Yy0{R:Type}:Dl0 (R:=R) Tc0 (evFn Mj0 fns FU 3):=by
 intro f' g h args hp k r hg
 dsimp only[Tc0]at h
 by_cases h53:f'=53
 ·subst h53
  injection h with h
  subst h
  exact Bk0 0 (Eq1 _ _ _ _ hg)
 rw[Bm0 h53,cond_false]at h
 cases h
noncomputable def Jd1{R:Type}:List CV->List Blk->(CV->List Blk->Option R)->Option R:=Ee0 Mj0 FU (ovr Tc0 (evFn Mj0 fns FU 3)) (mkT (fB fns 16) []) (fO fns 16)
theorem Er1{R:Type}(args:List CV)(hp:List Blk)(k:CV->List Blk->Option R)(r:R)(h:Jd1 args hp k=some r):evFn Mj0 fns FU 4 16 args hp k=some r:=runG Yy0 (os:=[]) trivial h
noncomputable def Bo1{R:Type}:Nat->Option (List CV->List Blk->(CV->List Blk->Option R)->Option R):=fun f'=>bif Nat.beq f' 16 then some Jd1 else none
theorem Ir0{R:Type}:Dl0 (R:=R) Bo1 (evFn Mj0 fns FU 4):=by
 intro f' g h args hp k r hg
 dsimp only[Bo1]at h
 by_cases h16:f'=16
 ·subst h16
  injection h with h
  subst h
  exact Bk0 0 (Er1 _ _ _ _ hg)
 rw[Bm0 h16,cond_false]at h
 cases h
noncomputable def T_10_1:PS:=⟨63,[(1,.kc (.ptr 0 [])),(45,.hv (.slice (.pair (.int .i64) (.pair (.int .i64) (.pair (.int .i64) (.pair (.int .i64) (.pair (.int .i64) (.pair (.slice (.int .i64)) (.pair (.int .i64) .unit))))))))),(46,.hv (.int .i64)),(47,.hv (.int .i64))],[.mem (.hv Kv1)],0⟩
inductive Sp.E_10_1 where
 |e0
 |e1
noncomputable def Sp.B_10_1{R:Type}(r:Option E_10_1)(k0 k1:Option R):Option R:=match r with
 |none=>none
 |some (.e0)=>k0
 |some (.e1)=>k1
theorem Zm1{A R:Type}{r:Option E_10_1}{f:A->Option R}{k0:Option A}{k1:Option A}{l0:Option R}{l1:Option R}(h0:(k0).bind f=l0)(h1:(k1).bind f=l1):(B_10_1 r k0 k1).bind f=B_10_1 r l0 l1:=by
 cases r with
 |none=>rfl
 |some e=>cases e<;>first|apply h0|apply h1
noncomputable def Si1{R:Type}(k:Ex->St->Option R):E_10_1->Option R
 | .e0=>k Ex.ret (sx 63 [(2,CV.bool false)] [])
 | .e1=>k (Ex.exit 0) (sx 63 [] [])
noncomputable def Sp.S_10_1{R:Type}(K:(List (Int×Int×Int×Int×Int×List Int×Int×Unit))->Int->Int->(List (Int×Int×Int×Int×Int×Int×Bool×Int×Unit)×List (Int×Int×Int×Int×Int×List Int×Int×Unit)×Int×Bool×Unit)->Option R)(k:E_10_1->Option R)(p0:List (Int×Int×Int×Int×Int×List Int×Int×Unit))(p1 p2:Int)(p3:List (Int×Int×Int×Int×Int×Int×Bool×Int×Unit)×List (Int×Int×Int×Int×Int×List Int×Int×Unit)×Int×Bool×Unit):Option R:=
 bif decide (p2<p1)then gd (inB p2 (length p0)) (gd (inB p2 (length (p3.1))) (gd (p_35 (getD (p3.1) (toNat p2) Zd0) (getD p0 (toNat p2) Zd1) (p3.2.2.1)) (bif !(v_35 (getD (p3.1) (toNat p2) Zd0) (getD p0 (toNat p2) Zd1) (p3.2.2.1)).1 then k (E_10_1.e0)else K p0 p1 (wrap i64 (p2+1)) p3)))else k (E_10_1.e1)
noncomputable def Sp.L_10_1:Nat->(List (Int×Int×Int×Int×Int×List Int×Int×Unit))->Int->Int->(List (Int×Int×Int×Int×Int×Int×Bool×Int×Unit)×List (Int×Int×Int×Int×Int×List Int×Int×Unit)×Int×Bool×Unit)->Option E_10_1
 |0,_,_,_,_=>none
 |m+1,p0,p1,p2,p3=>S_10_1 (L_10_1 m) some p0 p1 p2 p3
noncomputable def Py1(m:Nat)(a:T_10_1.E):Option E_10_1:=L_10_1 m a.1 a.2.1 a.2.2.1 a.2.2.2.1
noncomputable def Uk1{R:Type}:Orc R:=orL T_10_1 (Py1 FU) Si1
theorem Yw1{R:Type}:okF (R:=R) Mj0 4 (ni (nf 10 0) 0) Uk1:=lp Ir0 (os:=[]) trivial T_10_1 Py1 (fun R K k a=>S_10_1 (fun p0 p1 p2 p3=>K (p0,p1,p2,p3,())) k a.1 a.2.1 a.2.2.1 a.2.2.2.1) Si1 (fun _=>rfl) (fun _ _=>rfl) (fun k K a=>by kernel_rfl) (fun Y K a=>by
 unfold S_10_1
 repeat' first|apply gdN|apply Bb0|rfl) (ok0 _)
noncomputable def Td1:PS:=⟨63,[(1,.kc (.ptr 0 []))],[.mem (.hv Kv1)],0⟩
inductive Sp.E_10_0 where
 |e0
 |e1
noncomputable def Sp.B_10_0{R:Type}(r:Option E_10_0)(k0 k1:Option R):Option R:=match r with
 |none=>none
 |some (.e0)=>k0
 |some (.e1)=>k1
noncomputable def Sj1{R:Type}(k:Ex->St->Option R):E_10_0->Option R
 | .e0=>k Ex.ret (sx 63 [(2,CV.bool false)] [])
 | .e1=>k Ex.ret (sx 63 [(2,CV.bool true)] [])
noncomputable def Sp.S_10_0{R:Type}(k:E_10_0->Option R)(p0:List (Int×Int×Int×Int×Int×Int×Bool×Int×Unit)×List (Int×Int×Int×Int×Int×List Int×Int×Unit)×Int×Bool×Unit):Option R:=
 B_10_1 (L_10_1 4611686018427387904 (p0.2.1) (↑(length (p0.2.1)):Int) 0 p0) (k (E_10_0.e0)) (k (E_10_0.e1))
noncomputable def Sp.J_10_0(p0:List (Int×Int×Int×Int×Int×Int×Bool×Int×Unit)×List (Int×Int×Int×Int×Int×List Int×Int×Unit)×Int×Bool×Unit):Option E_10_0:=S_10_0 some p0
noncomputable def Ul1{R:Type}:Orc R:=orL Td1 (fun a=>J_10_0 a.1) Sj1
theorem Yx1{R:Type}:okF (R:=R) Mj0 4 (nf 10 0) Ul1:=jp Ir0 (os:=[Uk1]) ⟨Yw1,trivial⟩ Td1 (fun R k a=>S_10_0 k a.1) Sj1 (fun k a=>by kernel_rfl) (fun Y a=>by
 unfold S_10_0
 repeat' first|apply gdN|apply Bb0|(apply Zm1<;>intros)|rfl) (ok0 _)
noncomputable def F_10(a0:((List (Int×(Int×(Int×(Int×(Int×(Int×(Bool×(Int×Unit)))))))))×((List (Int×(Int×(Int×(Int×(Int×((List Int)×(Int×Unit))))))))×(Int×(Bool×Unit))))):Option (Bool×Unit) :=
 bif decide ((↑(length (a0.1)):Int)>64)then some (false,PUnit.unit)else B_10_53_0_0 (L_10_53_0_0 4611686018427387904 (a0.1) (↑(length (a0.1)):Int) 0 a0) (fun y11 y12=>bif decide (y11>=0)then some (false,PUnit.unit)else bif !Sp.dst (List.map (fun y13=>y13.1) (y12.1))then some (false,PUnit.unit)else bif(↑(length (y12.2.1)):Int)!=(↑(length (y12.1)):Int)then some (false,PUnit.unit)else gd (p_34 (y12.2.2.1) 0 1073741824) (bif !(v_34 (y12.2.2.1) 0 1073741824).1 then some (false,PUnit.unit)else bif y12.2.2.2.1 then bif decide (y12.2.2.1<1)then some (false,PUnit.unit)else B_10_0 (J_10_0 y12) (some (false,PUnit.unit)) (some (true,PUnit.unit))else B_10_0 (J_10_0 y12) (some (false,PUnit.unit)) (some (true,PUnit.unit)))) fun y16=>bif !Sp.dst (List.map (fun y17=>y17.1) (y16.1))then some (false,PUnit.unit)else bif(↑(length (y16.2.1)):Int)!=(↑(length (y16.1)):Int)then some (false,PUnit.unit)else gd (p_34 (y16.2.2.1) 0 1073741824) (bif !(v_34 (y16.2.2.1) 0 1073741824).1 then some (false,PUnit.unit)else bif y16.2.2.2.1 then bif decide (y16.2.2.1<1)then some (false,PUnit.unit)else B_10_0 (J_10_0 y16) (some (false,PUnit.unit)) (some (true,PUnit.unit))else B_10_0 (J_10_0 y16) (some (false,PUnit.unit)) (some (true,PUnit.unit)))
noncomputable def Sp.p_10(a0:((List (Int×(Int×(Int×(Int×(Int×(Int×(Bool×(Int×Unit)))))))))×((List (Int×(Int×(Int×(Int×(Int×((List Int)×(Int×Unit))))))))×(Int×(Bool×Unit))))):Bool:=(F_10 a0).isSome
noncomputable def Sp.v_10(a0:((List (Int×(Int×(Int×(Int×(Int×(Int×(Bool×(Int×Unit)))))))))×((List (Int×(Int×(Int×(Int×(Int×((List Int)×(Int×Unit))))))))×(Int×(Bool×Unit))))):Bool×Unit:=(F_10 a0).getD (dfH R_10)
noncomputable def s_10:Summ:=shN A_10 R_10 (fun x=>p_10 x.1) (fun x=>v_10 x.1)
theorem Mb2(a0:((List (Int×(Int×(Int×(Int×(Int×(Int×(Bool×(Int×Unit)))))))))×((List (Int×(Int×(Int×(Int×(Int×((List Int)×(Int×Unit))))))))×(Int×(Bool×Unit))))){y:Bool×Unit}(h:F_10 a0=some y):p_10 a0=true/\v_10 a0=y:=pvG h
theorem Ea2(x:HDen A_10)(y:HDen R_10)(h:F_10 x.1=some y):rnF Mj0 5 10 A_10 R_10 x y:=runG Ir0 (os:=[Ul1]) ⟨Yx1,trivial⟩ (Eq.trans (by kernel_rfl) h)
end
noncomputable section
abbrev A_20:List Ty:=[(.pair (.pair (.slice (.int .u32)) (.pair (.slice (.int .i64)) (.pair (.int .i64) .unit))) (.pair (.int .i64) (.pair (.int .i64) .unit)))]
abbrev R_20:List Ty:=[.bool]
noncomputable def Jn2:Nat->Option Summ:=smL [(26,s_26),(28,s_28),(29,s_29)]
noncomputable def F_20(a0:(((List Int)×((List Int)×(Int×Unit)))×(Int×(Int×Unit)))):Option (Bool×Unit) :=
 gd (p_26 (a0.1)) (bif !(v_26 (a0.1)).1 then some (false,PUnit.unit)else gd (p_28 a0) (bif !(v_28 a0).1 then some (false,PUnit.unit)else gd (p_29 a0) (some ((v_29 a0).2.1,PUnit.unit))))
noncomputable def Sp.p_20(a0:(((List Int)×((List Int)×(Int×Unit)))×(Int×(Int×Unit)))):Bool:=(F_20 a0).isSome
noncomputable def Sp.v_20(a0:(((List Int)×((List Int)×(Int×Unit)))×(Int×(Int×Unit)))):Bool×Unit:=(F_20 a0).getD (dfH R_20)
noncomputable def s_20:Summ:=shN A_20 R_20 (fun x=>p_20 x.1) (fun x=>v_20 x.1)
theorem Lv2(a0:(((List Int)×((List Int)×(Int×Unit)))×(Int×(Int×Unit)))){y:Bool×Unit}(h:F_20 a0=some y):p_20 a0=true/\v_20 a0=y:=pvG h
theorem Du2(x:HDen A_20)(y:HDen R_20)(h:F_20 x.1=some y):rnF Jn2 1 20 A_20 R_20 x y:=runG Ah0 (os:=[]) trivial (Eq.trans (by kernel_rfl) h)
end
noncomputable section
abbrev A_61:List Ty:=[(.slice (.pair (.int .i64) (.pair (.slice (.int .u32)) .unit))),(.int .i64),(.slice (.int .u32))]
abbrev R_61:List Ty:=[(.slice (.pair (.int .i64) (.pair (.slice (.int .u32)) .unit)))]
noncomputable def Dq1:Nat->Option Summ:=smL [(21,s_21),(89,s_89)]
noncomputable def T_61_87_0_0:PS:=⟨49,[(0,.kc (.whole 0)),(1,.hv (.int .i64)),(2,.kc (.clo 88 (.pure .unit PUnit.unit))),(8,.hv (.int .i64)),(9,.hv (.int .i64)),(10,.hv (.int .i64))],[.vec 122 (.pair (.int .i64) (.pair (.slice (.int .u32)) .unit))],1⟩
inductive Sp.E_61_87_0_0 where
 |e0 (p0 p1 p2:Int) (p4:List (Int×List Int×Unit))
noncomputable def Sp.B_61_87_0_0{R:Type}(r:Option E_61_87_0_0)(k0:Int->Int->Int->(List (Int×List Int×Unit))->Option R):Option R:=match r with
 |none=>none
 |some (.e0 p0 p1 p2 p4)=>k0 p0 p1 p2 p4
noncomputable def Pe0{R:Type}(k:Ex->St->Option R):E_61_87_0_0->Option R
 | .e0 p0 p1 p2 p4=>k (Ex.exit 0) (sx 49 [(0,CV.whole 0),(1,CV.int i64 p0),(2,CV.clo 88 (CV.pure Ty.unit PUnit.unit)),(8,CV.int i64 p1),(9,CV.int i64 p2)] [Blk.vec 122 (Ty.pair (Ty.int i64) (Ty.pair (Ty.slice (Ty.int u32)) Ty.unit)) p4] 1)
noncomputable def Sp.S_61_87_0_0{R:Type}(K:Int->Int->Int->Int->(List (Int×List Int×Unit))->Option R)(k:E_61_87_0_0->Option R)(p0 p1 p2 p3:Int)(p4:List (Int×List Int×Unit)):Option R:=
 bif decide (p2<p3)then gd (inB (wrap i64 (Int.fdiv (wrap u64 (wrap i64 (p2+p3))) 2)) (length p4)) (gd (decide (toNat (wrap i64 (Int.fdiv (wrap u64 (wrap i64 (p2+p3))) 2))<length p4)&&true) (bif decide (wrap i64 ((getD p4 (toNat (wrap i64 (Int.fdiv (wrap u64 (wrap i64 (p2+p3))) 2))) Zd2).1-p0)<0)then K p0 p1 (wrap i64 (wrap i64 (Int.fdiv (wrap u64 (wrap i64 (p2+p3))) 2)+1)) p3 p4 else K p0 p1 p2 (wrap i64 (Int.fdiv (wrap u64 (wrap i64 (p2+p3))) 2)) p4))else k (E_61_87_0_0.e0 p0 p1 p2 p4)
noncomputable def Sp.L_61_87_0_0:Nat->Int->Int->Int->Int->(List (Int×List Int×Unit))->Option E_61_87_0_0
 |0,_,_,_,_,_=>none
 |m+1,p0,p1,p2,p3,p4=>S_61_87_0_0 (L_61_87_0_0 m) some p0 p1 p2 p3 p4
noncomputable def Nz0(m:Nat)(a:T_61_87_0_0.E):Option E_61_87_0_0:=L_61_87_0_0 m a.1 a.2.1 a.2.2.1 a.2.2.2.1 a.2.2.2.2.1
noncomputable def Jb0{R:Type}:Orc R:=orL T_61_87_0_0 (Nz0 FU) Pe0
theorem Wr0{R:Type}:okF (R:=R) Dq1 2 (nf 87 0) Jb0:=lp0 T_61_87_0_0 Nz0 (fun R K k a=>S_61_87_0_0 (fun p0 p1 p2 p3 p4=>K (p0,p1,p2,p3,p4,())) k a.1 a.2.1 a.2.2.1 a.2.2.2.1 a.2.2.2.2.1) Pe0 (fun _ _ _=>by kernel_rfl) (fun _ _ _=>by
 unfold S_61_87_0_0
 repeat' first|apply gdN|apply Bb0|rfl) (ok0 _)
noncomputable def Ip1{R:Type}:List CV->List Blk->(CV->List Blk->Option R)->Option R:=Ee0 Dq1 FU (ovr noO (evFn Dq1 fns FU 2)) (mkT (fB fns 87) [Jb0]) (fO fns 87)
theorem Ed1{R:Type}(args:List CV)(hp:List Blk)(k:CV->List Blk->Option R)(r:R)(h:Ip1 args hp k=some r):evFn Dq1 fns FU 3 87 args hp k=some r:=runG Ah0 (os:=[Jb0]) ⟨Wr0,trivial⟩ h
noncomputable def Bg1{R:Type}:Nat->Option (List CV->List Blk->(CV->List Blk->Option R)->Option R):=fun f'=>bif Nat.beq f' 87 then some Ip1 else none
theorem Yq0{R:Type}:Dl0 (R:=R) Bg1 (evFn Dq1 fns FU 3):=by
 intro f' g h args hp k r hg
 dsimp only[Bg1]at h
 by_cases h87:f'=87
 ·subst h87
  injection h with h
  subst h
  exact Bk0 0 (Ed1 _ _ _ _ hg)
 rw[Bm0 h87,cond_false]at h
 cases h
noncomputable def F_61(a0:(List (Int×((List Int)×Unit))))(a1:Int)(a2:(List Int)):Option ((List (Int×((List Int)×Unit)))×Unit) :=
 B_61_87_0_0 (L_61_87_0_0 4611686018427387904 a1 (↑(length a0):Int) 0 (↑(length a0):Int) a0) fun y4 y5 y6 y7=>bif decide (y6<y5)then gd (inB y6 (length y7)) (gd (decide (toNat y6<length y7)&&true) (gd (room (length a2) 4) (bif wrap i64 ((getD y7 (toNat y6) Zd2).1-y4)==0 then gd (inB y6 (length y7)) (gd (decide (toNat y6<length y7)&&true&&true) (some (List.set y7 (toNat y6) (a1,a2,PUnit.unit),PUnit.unit)))else gd (decide (0<=y6)&&decide (y6<=(↑(length y7):Int))&&room (length y7+1) 32) (some (take (toNat y6) y7++([(a1,a2,PUnit.unit)]++drop (toNat y6) y7),PUnit.unit)))))else gd (room (length a2) 4) (gd (decide (0<=y6)&&decide (y6<=(↑(length y7):Int))&&room (length y7+1) 32) (some (take (toNat y6) y7++([(a1,a2,PUnit.unit)]++drop (toNat y6) y7),PUnit.unit)))
noncomputable def Sp.p_61(a0:(List (Int×((List Int)×Unit))))(a1:Int)(a2:(List Int)):Bool:=(F_61 a0 a1 a2).isSome
noncomputable def Sp.v_61(a0:(List (Int×((List Int)×Unit))))(a1:Int)(a2:(List Int)):(List (Int×((List Int)×Unit)))×Unit:=(F_61 a0 a1 a2).getD (dfH R_61)
noncomputable def s_61:Summ:=ooS 122 (.pair (.int .i64) (.pair (.slice (.int .u32)) .unit)) [(.int .i64),(.slice (.int .u32))] (fun xs x=>p_61 xs x.1 x.2.1) (fun xs x=>(v_61 xs x.1 x.2.1).1)
theorem Kq2(a0:(List (Int×((List Int)×Unit))))(a1:Int)(a2:(List Int)){y:(List (Int×((List Int)×Unit)))×Unit}(h:F_61 a0 a1 a2=some y):p_61 a0 a1 a2=true/\v_61 a0 a1 a2=y:=pvG h
theorem Co2(xs:List (Ty.den (.pair (.int .i64) (.pair (.slice (.int .u32)) .unit))))(x:HDen [(.int .i64),(.slice (.int .u32))])(y:HDen R_61)(h:F_61 xs x.1 x.2.1=some y):evFn Dq1 fns FU 4 61 (.whole 0::ofH [(.int .i64),(.slice (.int .u32))] x) [.vec 122 (.pair (.int .i64) (.pair (.slice (.int .u32)) .unit)) xs] (ownK 122 [] (.slice (.pair (.int .i64) (.pair (.slice (.int .u32)) .unit))) [])=some y:=runG Yq0 (os:=[]) trivial (Eq.trans (by kernel_rfl) h)
end
noncomputable section
abbrev A_85:List Ty:=[(.slice (.int .u32))]
abbrev R_85:List Ty:=[(.int .i64)]
noncomputable def Bj2:Nat->Option Summ:=smL []
noncomputable def T_85_0:PS:=⟨26,[(3,.hv (.int .i64)),(6,.hv (.slice (.int .u32))),(7,.hv (.int .i64)),(8,.hv (.int .i64))],[],0⟩
inductive Sp.E_85_0 where
 |e0 (p0:Int)
noncomputable def Sp.B_85_0{R:Type}(r:Option E_85_0)(k0:Int->Option R):Option R:=match r with
 |none=>none
 |some (.e0 p0)=>k0 p0
noncomputable def Rc1{R:Type}(k:Ex->St->Option R):E_85_0->Option R
 | .e0 p0=>k (Ex.exit 0) (sx 26 [(3,CV.int i64 p0)] [])
noncomputable def Sp.S_85_0{R:Type}(K:Int->List Int->Int->Int->Option R)(k:E_85_0->Option R)(p0:Int)(p1:List Int)(p2 p3:Int):Option R:=
 bif decide (p3<p2)then gd (inB p3 (length p1)) (K (Int.tmod (wrap i64 (wrap i64 (wrap i64 (31*p0)+wrap i64 (Int.fdiv (getD p1 (toNat p3) 0) 65536))+wrap i64 (7*wrap i64 (Sp.andI u32 (getD p1 (toNat p3) 0) 65535)))) 65536) p1 p2 (wrap i64 (p3+1)))else k (E_85_0.e0 p0)
noncomputable def Sp.L_85_0:Nat->Int->List Int->Int->Int->Option E_85_0
 |0,_,_,_,_=>none
 |m+1,p0,p1,p2,p3=>S_85_0 (L_85_0 m) some p0 p1 p2 p3
noncomputable def Pj1(m:Nat)(a:T_85_0.E):Option E_85_0:=L_85_0 m a.1 a.2.1 a.2.2.1 a.2.2.2.1
noncomputable def Te1{R:Type}:Orc R:=orL T_85_0 (Pj1 FU) Rc1
theorem Xq1{R:Type}:okF (R:=R) Bj2 0 (nf 85 0) Te1:=lp0 T_85_0 Pj1 (fun R K k a=>S_85_0 (fun p0 p1 p2 p3=>K (p0,p1,p2,p3,())) k a.1 a.2.1 a.2.2.1 a.2.2.2.1) Rc1 (fun _ _ _=>by kernel_rfl) (fun _ _ _=>by
 unfold S_85_0
 repeat' first|apply gdN|apply Bb0|rfl) (ok0 _)
noncomputable def F_85(a0:(List Int)):Option (Int×Unit) :=
 B_85_0 (L_85_0 4611686018427387904 0 a0 (↑(length a0):Int) 0) fun y1=>some (y1,PUnit.unit)
noncomputable def Sp.p_85(a0:(List Int)):Bool:=(F_85 a0).isSome
noncomputable def Sp.v_85(a0:(List Int)):Int×Unit:=(F_85 a0).getD (dfH R_85)
noncomputable def s_85:Summ:=shN A_85 R_85 (fun x=>p_85 x.1) (fun x=>v_85 x.1)
theorem Ke2(a0:(List Int)){y:Int×Unit}(h:F_85 a0=some y):p_85 a0=true/\v_85 a0=y:=pvG h
theorem Ca2(x:HDen A_85)(y:HDen R_85)(h:F_85 x.1=some y):rnF Bj2 1 85 A_85 R_85 x y:=runG Ah0 (os:=[Te1]) ⟨Xq1,trivial⟩ (Eq.trans (by kernel_rfl) h)
end
noncomputable section
abbrev Bd0:Type:=(List Int×List Int×Int×Unit)×Int×Int×Unit
abbrev Am0:Type:=Int×Int×Unit
abbrev Cw0:Type:=List (Int×List Int×Unit)
abbrev Li0:Ty:=(.pair (.pair (.slice (.int .u32)) (.pair (.slice (.int .i64)) (.pair (.int .i64) .unit))) (.pair (.int .i64) (.pair (.int .i64) .unit)))
abbrev Dx0:Ty:=(.pair (.int .i64) (.pair (.slice (.int .u32)) .unit))
abbrev Ex0:Ty:=(.pair (.int .i64) (.pair (.int .i64) .unit))
abbrev Fq0:Type:=Int×List Int×Unit
abbrev Qt1:Ty:=(.pair (.slice (.pair (.int .i64) (.pair (.slice (.int .u32)) .unit))) (.pair (.int .i64) (.pair (.int .i64) .unit)))
abbrev Lk0:Type:=Int×(Int×Unit)
abbrev Cu1:Type:=(List (Int×((List Int)×Unit)))
abbrev A_58:List Ty:=[(.pair (.pair (.slice (.int .u32)) (.pair (.slice (.int .i64)) (.pair (.int .i64) .unit))) (.pair (.int .i64) (.pair (.int .i64) .unit))),(.int .i64)]
abbrev R_58:List Ty:=[(.pair (.slice (.pair (.int .i64) (.pair (.slice (.int .u32)) .unit))) (.pair (.int .i64) (.pair (.int .i64) .unit)))]
noncomputable def Ek0:Nat->Option Summ:=smL [(61,s_61),(81,s_81),(85,s_85),(91,s_91)]
noncomputable def Ma0:PS:=⟨89,[(0,.yl 4 58 (.kc (.pair .junk (.pair .junk (.pair .junk (.pair .junk (.pair .junk (.pair .junk (.pair (.ptr 2 []) (.pair .junk (.pair .junk (.pair .junk (.pair .junk (.pair .junk (.pair .junk (.pair .junk (.pair .junk (.pair .junk (.pair .junk (.pair .junk (.pair .junk (.pair .junk (.pair .junk (.pair .junk (.pair .junk (.pair .junk (.pair .junk (.pair .junk (.pair .junk (.pair .junk (.pair .junk (.pair .junk (.pair .junk (.pair .junk (.pair .junk (.pair .junk (.pair .junk (.pair .junk (.pair .junk (.pair .junk (.pair .junk (.pair .junk (.pair .junk (.pair .junk (.pair .junk (.pure .unit PUnit.unit)))))))))))))))))))))))))))))))))))))))))))))),(1,.kc (.ptr 3 [])),(3,.hv (.int .i64)),(6,.hv (.int .i64)),(7,.kc (.ptr 5 []))],[.mem (.hv Li0),.mem (.pr (.kc (.nil 122 Dx0)) (.hv Ex0)),.mem (.pr (.kc (.nil 122 Dx0)) (.hv Ex0)),.mem (.hv (.slice (.int .u32))),.gh 0,.mem (.hv Dx0)],5⟩
inductive Sp.E_58_100_1_0 where
 |e0 (p0 p1:Int) (p2:Bd0) (p3 p4:Am0) (p5:List Int) (p6:Fq0)
 |e1 (p0 p1:Int) (p2:Bd0) (p3 p4:Am0) (p5:List Int) (p6:Fq0)
noncomputable def Sp.B_58_100_1_0{R:Type}(r:Option E_58_100_1_0)(k0 k1:Int->Int->Bd0->Am0->Am0->List Int->Fq0->Option R):Option R:=match r with
 |none=>none
 |some (.e0 p0 p1 p2 p3 p4 p5 p6)=>k0 p0 p1 p2 p3 p4 p5 p6
 |some (.e1 p0 p1 p2 p3 p4 p5 p6)=>k1 p0 p1 p2 p3 p4 p5 p6
theorem Uj0{A R:Type}{r:Option E_58_100_1_0}{f:A->Option R}{k0:Int->Int->Bd0->Am0->Am0->List Int->Fq0->Option A}{k1:Int->Int->Bd0->Am0->Am0->List Int->Fq0->Option A}{l0:Int->Int->Bd0->Am0->Am0->List Int->Fq0->Option R}{l1:Int->Int->Bd0->Am0->Am0->List Int->Fq0->Option R}(h0:∀p0 p1 p2 p3 p4 p5 p6,(k0 p0 p1 p2 p3 p4 p5 p6).bind f=l0 p0 p1 p2 p3 p4 p5 p6)(h1:∀p0 p1 p2 p3 p4 p5 p6,(k1 p0 p1 p2 p3 p4 p5 p6).bind f=l1 p0 p1 p2 p3 p4 p5 p6):(B_58_100_1_0 r k0 k1).bind f=B_58_100_1_0 r l0 l1:=by
 cases r with
 |none=>rfl
 |some e=>cases e<;>first|apply h0|apply h1
noncomputable def Lv0{R:Type}(k:Ex->St->Option R):E_58_100_1_0->Option R
 | .e0 p0 p1 p2 p3 p4 p5 p6=>k Ex.normal (sx 89 [(0,CV.yld 4 58 (CV.pair CV.junk (CV.pair CV.junk (CV.pair CV.junk (CV.pair CV.junk (CV.pair CV.junk (CV.pair CV.junk (CV.pair (CV.ptr 2 []) (CV.pair CV.junk (CV.pair CV.junk (CV.pair CV.junk (CV.pair CV.junk (CV.pair CV.junk (CV.pair CV.junk (CV.pair CV.junk (CV.pair CV.junk (CV.pair CV.junk (CV.pair CV.junk (CV.pair CV.junk (CV.pair CV.junk (CV.pair CV.junk (CV.pair CV.junk (CV.pair CV.junk (CV.pair CV.junk (CV.pair CV.junk (CV.pair CV.junk (CV.pair CV.junk (CV.pair CV.junk (CV.pair CV.junk (CV.pair CV.junk (CV.pair CV.junk (CV.pair CV.junk (CV.pair CV.junk (CV.pair CV.junk (CV.pair CV.junk (CV.pair CV.junk (CV.pair CV.junk (CV.pair CV.junk (CV.pair CV.junk (CV.pair CV.junk (CV.pair CV.junk (CV.pair CV.junk (CV.pair CV.junk (CV.pair CV.junk (CV.pure Ty.unit PUnit.unit))))))))))))))))))))))))))))))))))))))))))))),(1,CV.ptr 3 []),(3,CV.int i64 (wrap i64 (p0+wrap i64 (p1+2)))),(6,CV.int i64 p1),(7,CV.ptr 5 []),(80,CV.int i64 p0),(81,CV.int i64 p1),(82,CV.int i64 (wrap i64 (p1+2))),(83,CV.int i64 (wrap i64 (p0+wrap i64 (p1+2)))),(84,CV.yld 4 58 (CV.pair CV.junk (CV.pair CV.junk (CV.pair CV.junk (CV.pair CV.junk (CV.pair CV.junk (CV.pair CV.junk (CV.pair (CV.ptr 2 []) (CV.pair CV.junk (CV.pair CV.junk (CV.pair CV.junk (CV.pair CV.junk (CV.pair CV.junk (CV.pair CV.junk (CV.pair CV.junk (CV.pair CV.junk (CV.pair CV.junk (CV.pair CV.junk (CV.pair CV.junk (CV.pair CV.junk (CV.pair CV.junk (CV.pair CV.junk (CV.pair CV.junk (CV.pair CV.junk (CV.pair CV.junk (CV.pair CV.junk (CV.pair CV.junk (CV.pair CV.junk (CV.pair CV.junk (CV.pair CV.junk (CV.pair CV.junk (CV.pair CV.junk (CV.pair CV.junk (CV.pair CV.junk (CV.pair CV.junk (CV.pair CV.junk (CV.pair CV.junk (CV.pair CV.junk (CV.pair CV.junk (CV.pair CV.junk (CV.pair CV.junk (CV.pair CV.junk (CV.pair CV.junk (CV.pair CV.junk (CV.pure Ty.unit PUnit.unit))))))))))))))))))))))))))))))))))))))))))))),(85,CV.int i64 (wrap i64 (p0+wrap i64 (p1+2)))),(86,CV.pure (Ty.pair (Ty.int i64) (Ty.pair (Ty.slice (Ty.int u32)) Ty.unit)) p6),(87,CV.bool true),(88,CV.bool false)] [Blk.mem (CV.pure (Ty.pair (Ty.pair (Ty.slice (Ty.int u32)) (Ty.pair (Ty.slice (Ty.int i64)) (Ty.pair (Ty.int i64) Ty.unit))) (Ty.pair (Ty.int i64) (Ty.pair (Ty.int i64) Ty.unit))) p2),Blk.mem (CV.pair (CV.nil 122 (Ty.pair (Ty.int i64) (Ty.pair (Ty.slice (Ty.int u32)) Ty.unit))) (CV.pure (Ty.pair (Ty.int i64) (Ty.pair (Ty.int i64) Ty.unit)) p3)),Blk.mem (CV.pair (CV.whole 6) (CV.pure (Ty.pair (Ty.int i64) (Ty.pair (Ty.int i64) Ty.unit)) ((wrap i64 (p0+wrap i64 (p1+2)),p4.2):(Lk0)))),Blk.mem (CV.pure (Ty.slice (Ty.int u32)) p5),Blk.ghost 0,Blk.mem (CV.pure (Ty.pair (Ty.int i64) (Ty.pair (Ty.slice (Ty.int u32)) Ty.unit)) p6),Blk.vec 122 (Ty.pair (Ty.int i64) (Ty.pair (Ty.slice (Ty.int u32)) Ty.unit)) (((v_61 [] (p6.1) (p6.2.1)).1):Cu1)] 5)
 | .e1 p0 p1 p2 p3 p4 p5 p6=>k Ex.normal (sx 89 [(0,CV.yld 4 58 (CV.pair CV.junk (CV.pair CV.junk (CV.pair CV.junk (CV.pair CV.junk (CV.pair CV.junk (CV.pair CV.junk (CV.pair (CV.ptr 2 []) (CV.pair CV.junk (CV.pair CV.junk (CV.pair CV.junk (CV.pair CV.junk (CV.pair CV.junk (CV.pair CV.junk (CV.pair CV.junk (CV.pair CV.junk (CV.pair CV.junk (CV.pair CV.junk (CV.pair CV.junk (CV.pair CV.junk (CV.pair CV.junk (CV.pair CV.junk (CV.pair CV.junk (CV.pair CV.junk (CV.pair CV.junk (CV.pair CV.junk (CV.pair CV.junk (CV.pair CV.junk (CV.pair CV.junk (CV.pair CV.junk (CV.pair CV.junk (CV.pair CV.junk (CV.pair CV.junk (CV.pair CV.junk (CV.pair CV.junk (CV.pair CV.junk (CV.pair CV.junk (CV.pair CV.junk (CV.pair CV.junk (CV.pair CV.junk (CV.pair CV.junk (CV.pair CV.junk (CV.pair CV.junk (CV.pair CV.junk (CV.pure Ty.unit PUnit.unit))))))))))))))))))))))))))))))))))))))))))))),(1,CV.ptr 3 []),(3,CV.int i64 (wrap i64 (p0+wrap i64 (p1+2)))),(6,CV.int i64 p1),(7,CV.ptr 5 []),(80,CV.int i64 p0),(81,CV.int i64 p1),(82,CV.int i64 (wrap i64 (p1+2))),(83,CV.int i64 (wrap i64 (p0+wrap i64 (p1+2)))),(84,CV.yld 4 58 (CV.pair CV.junk (CV.pair CV.junk (CV.pair CV.junk (CV.pair CV.junk (CV.pair CV.junk (CV.pair CV.junk (CV.pair (CV.ptr 2 []) (CV.pair CV.junk (CV.pair CV.junk (CV.pair CV.junk (CV.pair CV.junk (CV.pair CV.junk (CV.pair CV.junk (CV.pair CV.junk (CV.pair CV.junk (CV.pair CV.junk (CV.pair CV.junk (CV.pair CV.junk (CV.pair CV.junk (CV.pair CV.junk (CV.pair CV.junk (CV.pair CV.junk (CV.pair CV.junk (CV.pair CV.junk (CV.pair CV.junk (CV.pair CV.junk (CV.pair CV.junk (CV.pair CV.junk (CV.pair CV.junk (CV.pair CV.junk (CV.pair CV.junk (CV.pair CV.junk (CV.pair CV.junk (CV.pair CV.junk (CV.pair CV.junk (CV.pair CV.junk (CV.pair CV.junk (CV.pair CV.junk (CV.pair CV.junk (CV.pair CV.junk (CV.pair CV.junk (CV.pair CV.junk (CV.pair CV.junk (CV.pure Ty.unit PUnit.unit))))))))))))))))))))))))))))))))))))))))))))),(85,CV.int i64 (wrap i64 (p0+wrap i64 (p1+2)))),(86,CV.pure (Ty.pair (Ty.int i64) (Ty.pair (Ty.slice (Ty.int u32)) Ty.unit)) p6),(87,CV.bool true),(88,CV.bool false)] [Blk.mem (CV.pure (Ty.pair (Ty.pair (Ty.slice (Ty.int u32)) (Ty.pair (Ty.slice (Ty.int i64)) (Ty.pair (Ty.int i64) Ty.unit))) (Ty.pair (Ty.int i64) (Ty.pair (Ty.int i64) Ty.unit))) p2),Blk.mem (CV.pair (CV.nil 122 (Ty.pair (Ty.int i64) (Ty.pair (Ty.slice (Ty.int u32)) Ty.unit))) (CV.pure (Ty.pair (Ty.int i64) (Ty.pair (Ty.int i64) Ty.unit)) p3)),Blk.mem (CV.pair (CV.nil 122 (Ty.pair (Ty.int i64) (Ty.pair (Ty.slice (Ty.int u32)) Ty.unit))) (CV.pure (Ty.pair (Ty.int i64) (Ty.pair (Ty.int i64) Ty.unit)) ((wrap i64 (p0+wrap i64 (p1+2)),p4.2):(Lk0)))),Blk.mem (CV.pure (Ty.slice (Ty.int u32)) p5),Blk.ghost 0,Blk.mem (CV.pure (Ty.pair (Ty.int i64) (Ty.pair (Ty.slice (Ty.int u32)) Ty.unit)) p6)] 5)
noncomputable def Sp.S_58_100_1_0{R:Type}(k:E_58_100_1_0->Option R)(p0 p1:Int)(p2:(List Int×List Int×Int×Unit)×Int×Int×Unit)(p3 p4:Int×Int×Unit)(p5:List Int)(p6:Int×List Int×Unit):Option R:=
 bif decide (p6.1>=0)then gd (p_61 [] (p6.1) (p6.2.1)) (k (E_58_100_1_0.e0 p0 p1 p2 p3 p4 p5 p6))else k (E_58_100_1_0.e1 p0 p1 p2 p3 p4 p5 p6)
noncomputable def Sp.J_58_100_1_0(p0 p1:Int)(p2:(List Int×List Int×Int×Unit)×Int×Int×Unit)(p3 p4:Int×Int×Unit)(p5:List Int)(p6:Int×List Int×Unit):Option E_58_100_1_0:=S_58_100_1_0 some p0 p1 p2 p3 p4 p5 p6
noncomputable def Me0{R:Type}:Orc R:=orL Ma0 (fun a=>J_58_100_1_0 a.1 a.2.1 a.2.2.1 a.2.2.2.1 a.2.2.2.2.1 a.2.2.2.2.2.1 a.2.2.2.2.2.2.1) Lv0
theorem Uf0{R:Type}:okF (R:=R) Ek0 2 (ni (nf 100 0) 0) Me0:=jp Ah0 (os:=[]) trivial Ma0 (fun R k a=>S_58_100_1_0 k a.1 a.2.1 a.2.2.1 a.2.2.2.1 a.2.2.2.2.1 a.2.2.2.2.2.1 a.2.2.2.2.2.2.1) Lv0 (fun k a=>by kernel_rfl) (fun Y a=>by
 unfold S_58_100_1_0
 repeat' first|apply gdN|apply Bb0|rfl) (ok0 _)
noncomputable def Lz0:PS:=⟨89,[(0,.yl 4 58 (.kc (.pair .junk (.pair .junk (.pair .junk (.pair .junk (.pair .junk (.pair .junk (.pair (.ptr 2 []) (.pair .junk (.pair .junk (.pair .junk (.pair .junk (.pair .junk (.pair .junk (.pair .junk (.pair .junk (.pair .junk (.pair .junk (.pair .junk (.pair .junk (.pair .junk (.pair .junk (.pair .junk (.pair .junk (.pair .junk (.pair .junk (.pair .junk (.pair .junk (.pair .junk (.pair .junk (.pair .junk (.pair .junk (.pair .junk (.pair .junk (.pair .junk (.pair .junk (.pair .junk (.pair .junk (.pair .junk (.pair .junk (.pair .junk (.pair .junk (.pair .junk (.pair .junk (.pure .unit PUnit.unit)))))))))))))))))))))))))))))))))))))))))))))),(1,.kc (.ptr 3 [])),(3,.hv (.int .i64)),(6,.hv (.int .i64)),(7,.kc (.ptr 5 []))],[.mem (.hv Li0),.mem (.pr (.kc (.nil 122 Dx0)) (.hv Ex0)),.mem (.pr (.kc (.nil 122 Dx0)) (.hv Ex0)),.mem (.hv (.slice (.int .u32))),.gh 0,.mem (.pr (.hv (.int .i64)) (.kc (.pair (.whole 6) (.pure .unit PUnit.unit)))),.vec 41 (.int .u32)],5⟩
inductive Sp.E_58_100_1_1 where
 |e0 (p0 p1:Int) (p2:Bd0) (p3 p4:Am0) (p5:List Int) (p6:Int) (p7:List Int)
 |e1 (p0 p1:Int) (p2:Bd0) (p3 p4:Am0) (p5:List Int) (p6:Int) (p7:List Int)
noncomputable def Sp.B_58_100_1_1{R:Type}(r:Option E_58_100_1_1)(k0 k1:Int->Int->Bd0->Am0->Am0->List Int->Int->List Int->Option R):Option R:=match r with
 |none=>none
 |some (.e0 p0 p1 p2 p3 p4 p5 p6 p7)=>k0 p0 p1 p2 p3 p4 p5 p6 p7
 |some (.e1 p0 p1 p2 p3 p4 p5 p6 p7)=>k1 p0 p1 p2 p3 p4 p5 p6 p7
theorem Ui0{A R:Type}{r:Option E_58_100_1_1}{f:A->Option R}{k0:Int->Int->Bd0->Am0->Am0->List Int->Int->List Int->Option A}{k1:Int->Int->Bd0->Am0->Am0->List Int->Int->List Int->Option A}{l0:Int->Int->Bd0->Am0->Am0->List Int->Int->List Int->Option R}{l1:Int->Int->Bd0->Am0->Am0->List Int->Int->List Int->Option R}(h0:∀p0 p1 p2 p3 p4 p5 p6 p7,(k0 p0 p1 p2 p3 p4 p5 p6 p7).bind f=l0 p0 p1 p2 p3 p4 p5 p6 p7)(h1:∀p0 p1 p2 p3 p4 p5 p6 p7,(k1 p0 p1 p2 p3 p4 p5 p6 p7).bind f=l1 p0 p1 p2 p3 p4 p5 p6 p7):(B_58_100_1_1 r k0 k1).bind f=B_58_100_1_1 r l0 l1:=by
 cases r with
 |none=>rfl
 |some e=>cases e<;>first|apply h0|apply h1
noncomputable def Lu0{R:Type}(k:Ex->St->Option R):E_58_100_1_1->Option R
 | .e0 p0 p1 p2 p3 p4 p5 p6 p7=>k Ex.normal (sx 89 [(0,CV.yld 4 58 (CV.pair CV.junk (CV.pair CV.junk (CV.pair CV.junk (CV.pair CV.junk (CV.pair CV.junk (CV.pair CV.junk (CV.pair (CV.ptr 2 []) (CV.pair CV.junk (CV.pair CV.junk (CV.pair CV.junk (CV.pair CV.junk (CV.pair CV.junk (CV.pair CV.junk (CV.pair CV.junk (CV.pair CV.junk (CV.pair CV.junk (CV.pair CV.junk (CV.pair CV.junk (CV.pair CV.junk (CV.pair CV.junk (CV.pair CV.junk (CV.pair CV.junk (CV.pair CV.junk (CV.pair CV.junk (CV.pair CV.junk (CV.pair CV.junk (CV.pair CV.junk (CV.pair CV.junk (CV.pair CV.junk (CV.pair CV.junk (CV.pair CV.junk (CV.pair CV.junk (CV.pair CV.junk (CV.pair CV.junk (CV.pair CV.junk (CV.pair CV.junk (CV.pair CV.junk (CV.pair CV.junk (CV.pair CV.junk (CV.pair CV.junk (CV.pair CV.junk (CV.pair CV.junk (CV.pair CV.junk (CV.pure Ty.unit PUnit.unit))))))))))))))))))))))))))))))))))))))))))))),(1,CV.ptr 3 []),(3,CV.int i64 (wrap i64 (p0+wrap i64 (p1+2)))),(6,CV.int i64 p1),(7,CV.ptr 5 []),(80,CV.int i64 p0),(81,CV.int i64 p1),(82,CV.int i64 (wrap i64 (p1+2))),(83,CV.int i64 (wrap i64 (p0+wrap i64 (p1+2)))),(84,CV.yld 4 58 (CV.pair CV.junk (CV.pair CV.junk (CV.pair CV.junk (CV.pair CV.junk (CV.pair CV.junk (CV.pair CV.junk (CV.pair (CV.ptr 2 []) (CV.pair CV.junk (CV.pair CV.junk (CV.pair CV.junk (CV.pair CV.junk (CV.pair CV.junk (CV.pair CV.junk (CV.pair CV.junk (CV.pair CV.junk (CV.pair CV.junk (CV.pair CV.junk (CV.pair CV.junk (CV.pair CV.junk (CV.pair CV.junk (CV.pair CV.junk (CV.pair CV.junk (CV.pair CV.junk (CV.pair CV.junk (CV.pair CV.junk (CV.pair CV.junk (CV.pair CV.junk (CV.pair CV.junk (CV.pair CV.junk (CV.pair CV.junk (CV.pair CV.junk (CV.pair CV.junk (CV.pair CV.junk (CV.pair CV.junk (CV.pair CV.junk (CV.pair CV.junk (CV.pair CV.junk (CV.pair CV.junk (CV.pair CV.junk (CV.pair CV.junk (CV.pair CV.junk (CV.pair CV.junk (CV.pair CV.junk (CV.pure Ty.unit PUnit.unit))))))))))))))))))))))))))))))))))))))))))))),(85,CV.int i64 (wrap i64 (p0+wrap i64 (p1+2)))),(86,CV.pair (CV.int i64 p6) (CV.pair (CV.whole 6) (CV.pure Ty.unit PUnit.unit))),(87,CV.bool true),(88,CV.bool false)] [Blk.mem (CV.pure (Ty.pair (Ty.pair (Ty.slice (Ty.int u32)) (Ty.pair (Ty.slice (Ty.int i64)) (Ty.pair (Ty.int i64) Ty.unit))) (Ty.pair (Ty.int i64) (Ty.pair (Ty.int i64) Ty.unit))) p2),Blk.mem (CV.pair (CV.nil 122 (Ty.pair (Ty.int i64) (Ty.pair (Ty.slice (Ty.int u32)) Ty.unit))) (CV.pure (Ty.pair (Ty.int i64) (Ty.pair (Ty.int i64) Ty.unit)) p3)),Blk.mem (CV.pair (CV.whole 7) (CV.pure (Ty.pair (Ty.int i64) (Ty.pair (Ty.int i64) Ty.unit)) ((wrap i64 (p0+wrap i64 (p1+2)),p4.2):(Lk0)))),Blk.mem (CV.pure (Ty.slice (Ty.int u32)) p5),Blk.ghost 0,Blk.mem (CV.pair (CV.int i64 p6) (CV.pair (CV.whole 6) (CV.pure Ty.unit PUnit.unit))),Blk.fvec 41 (Ty.int u32) p7,Blk.vec 122 (Ty.pair (Ty.int i64) (Ty.pair (Ty.slice (Ty.int u32)) Ty.unit)) (((v_61 [] p6 p7).1):Cu1)] 5)
 | .e1 p0 p1 p2 p3 p4 p5 p6 p7=>k Ex.normal (sx 89 [(0,CV.yld 4 58 (CV.pair CV.junk (CV.pair CV.junk (CV.pair CV.junk (CV.pair CV.junk (CV.pair CV.junk (CV.pair CV.junk (CV.pair (CV.ptr 2 []) (CV.pair CV.junk (CV.pair CV.junk (CV.pair CV.junk (CV.pair CV.junk (CV.pair CV.junk (CV.pair CV.junk (CV.pair CV.junk (CV.pair CV.junk (CV.pair CV.junk (CV.pair CV.junk (CV.pair CV.junk (CV.pair CV.junk (CV.pair CV.junk (CV.pair CV.junk (CV.pair CV.junk (CV.pair CV.junk (CV.pair CV.junk (CV.pair CV.junk (CV.pair CV.junk (CV.pair CV.junk (CV.pair CV.junk (CV.pair CV.junk (CV.pair CV.junk (CV.pair CV.junk (CV.pair CV.junk (CV.pair CV.junk (CV.pair CV.junk (CV.pair CV.junk (CV.pair CV.junk (CV.pair CV.junk (CV.pair CV.junk (CV.pair CV.junk (CV.pair CV.junk (CV.pair CV.junk (CV.pair CV.junk (CV.pair CV.junk (CV.pure Ty.unit PUnit.unit))))))))))))))))))))))))))))))))))))))))))))),(1,CV.ptr 3 []),(3,CV.int i64 (wrap i64 (p0+wrap i64 (p1+2)))),(6,CV.int i64 p1),(7,CV.ptr 5 []),(80,CV.int i64 p0),(81,CV.int i64 p1),(82,CV.int i64 (wrap i64 (p1+2))),(83,CV.int i64 (wrap i64 (p0+wrap i64 (p1+2)))),(84,CV.yld 4 58 (CV.pair CV.junk (CV.pair CV.junk (CV.pair CV.junk (CV.pair CV.junk (CV.pair CV.junk (CV.pair CV.junk (CV.pair (CV.ptr 2 []) (CV.pair CV.junk (CV.pair CV.junk (CV.pair CV.junk (CV.pair CV.junk (CV.pair CV.junk (CV.pair CV.junk (CV.pair CV.junk (CV.pair CV.junk (CV.pair CV.junk (CV.pair CV.junk (CV.pair CV.junk (CV.pair CV.junk (CV.pair CV.junk (CV.pair CV.junk (CV.pair CV.junk (CV.pair CV.junk (CV.pair CV.junk (CV.pair CV.junk (CV.pair CV.junk (CV.pair CV.junk (CV.pair CV.junk (CV.pair CV.junk (CV.pair CV.junk (CV.pair CV.junk (CV.pair CV.junk (CV.pair CV.junk (CV.pair CV.junk (CV.pair CV.junk (CV.pair CV.junk (CV.pair CV.junk (CV.pair CV.junk (CV.pair CV.junk (CV.pair CV.junk (CV.pair CV.junk (CV.pair CV.junk (CV.pair CV.junk (CV.pure Ty.unit PUnit.unit))))))))))))))))))))))))))))))))))))))))))))),(85,CV.int i64 (wrap i64 (p0+wrap i64 (p1+2)))),(86,CV.pair (CV.int i64 p6) (CV.pair (CV.whole 6) (CV.pure Ty.unit PUnit.unit))),(87,CV.bool true),(88,CV.bool false)] [Blk.mem (CV.pure (Ty.pair (Ty.pair (Ty.slice (Ty.int u32)) (Ty.pair (Ty.slice (Ty.int i64)) (Ty.pair (Ty.int i64) Ty.unit))) (Ty.pair (Ty.int i64) (Ty.pair (Ty.int i64) Ty.unit))) p2),Blk.mem (CV.pair (CV.nil 122 (Ty.pair (Ty.int i64) (Ty.pair (Ty.slice (Ty.int u32)) Ty.unit))) (CV.pure (Ty.pair (Ty.int i64) (Ty.pair (Ty.int i64) Ty.unit)) p3)),Blk.mem (CV.pair (CV.nil 122 (Ty.pair (Ty.int i64) (Ty.pair (Ty.slice (Ty.int u32)) Ty.unit))) (CV.pure (Ty.pair (Ty.int i64) (Ty.pair (Ty.int i64) Ty.unit)) ((wrap i64 (p0+wrap i64 (p1+2)),p4.2):(Lk0)))),Blk.mem (CV.pure (Ty.slice (Ty.int u32)) p5),Blk.ghost 0,Blk.mem (CV.pair (CV.int i64 p6) (CV.pair (CV.whole 6) (CV.pure Ty.unit PUnit.unit))),Blk.vec 41 (Ty.int u32) p7] 5)
noncomputable def Sp.S_58_100_1_1{R:Type}(k:E_58_100_1_1->Option R)(p0 p1:Int)(p2:(List Int×List Int×Int×Unit)×Int×Int×Unit)(p3 p4:Int×Int×Unit)(p5:List Int)(p6:Int)(p7:List Int):Option R:=
 bif decide (p6>=0)then gd (p_61 [] p6 p7) (k (E_58_100_1_1.e0 p0 p1 p2 p3 p4 p5 p6 p7))else k (E_58_100_1_1.e1 p0 p1 p2 p3 p4 p5 p6 p7)
noncomputable def Sp.J_58_100_1_1(p0 p1:Int)(p2:(List Int×List Int×Int×Unit)×Int×Int×Unit)(p3 p4:Int×Int×Unit)(p5:List Int)(p6:Int)(p7:List Int):Option E_58_100_1_1:=S_58_100_1_1 some p0 p1 p2 p3 p4 p5 p6 p7
noncomputable def Md0{R:Type}:Orc R:=orL Lz0 (fun a=>J_58_100_1_1 a.1 a.2.1 a.2.2.1 a.2.2.2.1 a.2.2.2.2.1 a.2.2.2.2.2.1 a.2.2.2.2.2.2.1 a.2.2.2.2.2.2.2.1) Lu0 Me0
theorem Ue0{R:Type}:okF (R:=R) Ek0 2 (ni (nf 100 0) 0) Md0:=jp Ah0 (os:=[]) trivial Lz0 (fun R k a=>S_58_100_1_1 k a.1 a.2.1 a.2.2.1 a.2.2.2.1 a.2.2.2.2.1 a.2.2.2.2.2.1 a.2.2.2.2.2.2.1 a.2.2.2.2.2.2.2.1) Lu0 (fun k a=>by kernel_rfl) (fun Y a=>by
 unfold S_58_100_1_1
 repeat' first|apply gdN|apply Bb0|rfl) Uf0
noncomputable def Ly0:PS:=⟨89,[(0,.yl 4 58 (.kc (.pair .junk (.pair .junk (.pair .junk (.pair .junk (.pair .junk (.pair .junk (.pair (.ptr 2 []) (.pair .junk (.pair .junk (.pair .junk (.pair .junk (.pair .junk (.pair .junk (.pair .junk (.pair .junk (.pair .junk (.pair .junk (.pair .junk (.pair .junk (.pair .junk (.pair .junk (.pair .junk (.pair .junk (.pair .junk (.pair .junk (.pair .junk (.pair .junk (.pair .junk (.pair .junk (.pair .junk (.pair .junk (.pair .junk (.pair .junk (.pair .junk (.pair .junk (.pair .junk (.pair .junk (.pair .junk (.pair .junk (.pair .junk (.pair .junk (.pair .junk (.pair .junk (.pure .unit PUnit.unit)))))))))))))))))))))))))))))))))))))))))))))),(1,.kc (.ptr 3 [])),(3,.hv (.int .i64)),(6,.hv (.int .i64)),(7,.kc (.ptr 5 []))],[.mem (.hv Li0),.mem (.pr (.kc (.nil 122 Dx0)) (.hv Ex0)),.mem (.pr (.kc (.whole 6)) (.hv Ex0)),.mem (.hv (.slice (.int .u32))),.gh 0,.mem (.hv Dx0),.vec 122 Dx0],5⟩
inductive Sp.E_58_100_1_2 where
 |e0 (p0 p1:Int) (p2:Bd0) (p3 p4:Am0) (p5:List Int) (p6:Fq0) (p7:Cw0)
 |e1 (p0 p1:Int) (p2:Bd0) (p3 p4:Am0) (p5:List Int) (p6:Fq0) (p7:Cw0)
noncomputable def Sp.B_58_100_1_2{R:Type}(r:Option E_58_100_1_2)(k0 k1:Int->Int->Bd0->Am0->Am0->List Int->Fq0->Cw0->Option R):Option R:=match r with
 |none=>none
 |some (.e0 p0 p1 p2 p3 p4 p5 p6 p7)=>k0 p0 p1 p2 p3 p4 p5 p6 p7
 |some (.e1 p0 p1 p2 p3 p4 p5 p6 p7)=>k1 p0 p1 p2 p3 p4 p5 p6 p7
theorem Kd0{A R:Type}{r:Option E_58_100_1_2}{f:A->Option R}{k0:Int->Int->Bd0->Am0->Am0->List Int->Fq0->Cw0->Option A}{k1:Int->Int->Bd0->Am0->Am0->List Int->Fq0->Cw0->Option A}{l0:Int->Int->Bd0->Am0->Am0->List Int->Fq0->Cw0->Option R}{l1:Int->Int->Bd0->Am0->Am0->List Int->Fq0->Cw0->Option R}(h0:∀p0 p1 p2 p3 p4 p5 p6 p7,(k0 p0 p1 p2 p3 p4 p5 p6 p7).bind f=l0 p0 p1 p2 p3 p4 p5 p6 p7)(h1:∀p0 p1 p2 p3 p4 p5 p6 p7,(k1 p0 p1 p2 p3 p4 p5 p6 p7).bind f=l1 p0 p1 p2 p3 p4 p5 p6 p7):(B_58_100_1_2 r k0 k1).bind f=B_58_100_1_2 r l0 l1:=by
 cases r with
 |none=>rfl
 |some e=>cases e<;>first|apply h0|apply h1
noncomputable def Lt0{R:Type}(k:Ex->St->Option R):E_58_100_1_2->Option R
 | .e0 p0 p1 p2 p3 p4 p5 p6 p7=>k Ex.normal (sx 89 [(0,CV.yld 4 58 (CV.pair CV.junk (CV.pair CV.junk (CV.pair CV.junk (CV.pair CV.junk (CV.pair CV.junk (CV.pair CV.junk (CV.pair (CV.ptr 2 []) (CV.pair CV.junk (CV.pair CV.junk (CV.pair CV.junk (CV.pair CV.junk (CV.pair CV.junk (CV.pair CV.junk (CV.pair CV.junk (CV.pair CV.junk (CV.pair CV.junk (CV.pair CV.junk (CV.pair CV.junk (CV.pair CV.junk (CV.pair CV.junk (CV.pair CV.junk (CV.pair CV.junk (CV.pair CV.junk (CV.pair CV.junk (CV.pair CV.junk (CV.pair CV.junk (CV.pair CV.junk (CV.pair CV.junk (CV.pair CV.junk (CV.pair CV.junk (CV.pair CV.junk (CV.pair CV.junk (CV.pair CV.junk (CV.pair CV.junk (CV.pair CV.junk (CV.pair CV.junk (CV.pair CV.junk (CV.pair CV.junk (CV.pair CV.junk (CV.pair CV.junk (CV.pair CV.junk (CV.pair CV.junk (CV.pair CV.junk (CV.pure Ty.unit PUnit.unit))))))))))))))))))))))))))))))))))))))))))))),(1,CV.ptr 3 []),(3,CV.int i64 (wrap i64 (p0+wrap i64 (p1+2)))),(6,CV.int i64 p1),(7,CV.ptr 5 []),(80,CV.int i64 p0),(81,CV.int i64 p1),(82,CV.int i64 (wrap i64 (p1+2))),(83,CV.int i64 (wrap i64 (p0+wrap i64 (p1+2)))),(84,CV.yld 4 58 (CV.pair CV.junk (CV.pair CV.junk (CV.pair CV.junk (CV.pair CV.junk (CV.pair CV.junk (CV.pair CV.junk (CV.pair (CV.ptr 2 []) (CV.pair CV.junk (CV.pair CV.junk (CV.pair CV.junk (CV.pair CV.junk (CV.pair CV.junk (CV.pair CV.junk (CV.pair CV.junk (CV.pair CV.junk (CV.pair CV.junk (CV.pair CV.junk (CV.pair CV.junk (CV.pair CV.junk (CV.pair CV.junk (CV.pair CV.junk (CV.pair CV.junk (CV.pair CV.junk (CV.pair CV.junk (CV.pair CV.junk (CV.pair CV.junk (CV.pair CV.junk (CV.pair CV.junk (CV.pair CV.junk (CV.pair CV.junk (CV.pair CV.junk (CV.pair CV.junk (CV.pair CV.junk (CV.pair CV.junk (CV.pair CV.junk (CV.pair CV.junk (CV.pair CV.junk (CV.pair CV.junk (CV.pair CV.junk (CV.pair CV.junk (CV.pair CV.junk (CV.pair CV.junk (CV.pair CV.junk (CV.pure Ty.unit PUnit.unit))))))))))))))))))))))))))))))))))))))))))))),(85,CV.int i64 (wrap i64 (p0+wrap i64 (p1+2)))),(86,CV.pure (Ty.pair (Ty.int i64) (Ty.pair (Ty.slice (Ty.int u32)) Ty.unit)) p6),(87,CV.bool true),(88,CV.bool false)] [Blk.mem (CV.pure (Ty.pair (Ty.pair (Ty.slice (Ty.int u32)) (Ty.pair (Ty.slice (Ty.int i64)) (Ty.pair (Ty.int i64) Ty.unit))) (Ty.pair (Ty.int i64) (Ty.pair (Ty.int i64) Ty.unit))) p2),Blk.mem (CV.pair (CV.nil 122 (Ty.pair (Ty.int i64) (Ty.pair (Ty.slice (Ty.int u32)) Ty.unit))) (CV.pure (Ty.pair (Ty.int i64) (Ty.pair (Ty.int i64) Ty.unit)) p3)),Blk.mem (CV.pair (CV.whole 7) (CV.pure (Ty.pair (Ty.int i64) (Ty.pair (Ty.int i64) Ty.unit)) ((wrap i64 (p0+wrap i64 (p1+2)),p4.2):(Lk0)))),Blk.mem (CV.pure (Ty.slice (Ty.int u32)) p5),Blk.ghost 0,Blk.mem (CV.pure (Ty.pair (Ty.int i64) (Ty.pair (Ty.slice (Ty.int u32)) Ty.unit)) p6),Blk.dead,Blk.vec 122 (Ty.pair (Ty.int i64) (Ty.pair (Ty.slice (Ty.int u32)) Ty.unit)) (((v_61 p7 (p6.1) (p6.2.1)).1):Cu1)] 5)
 | .e1 p0 p1 p2 p3 p4 p5 p6 p7=>k Ex.normal (sx 89 [(0,CV.yld 4 58 (CV.pair CV.junk (CV.pair CV.junk (CV.pair CV.junk (CV.pair CV.junk (CV.pair CV.junk (CV.pair CV.junk (CV.pair (CV.ptr 2 []) (CV.pair CV.junk (CV.pair CV.junk (CV.pair CV.junk (CV.pair CV.junk (CV.pair CV.junk (CV.pair CV.junk (CV.pair CV.junk (CV.pair CV.junk (CV.pair CV.junk (CV.pair CV.junk (CV.pair CV.junk (CV.pair CV.junk (CV.pair CV.junk (CV.pair CV.junk (CV.pair CV.junk (CV.pair CV.junk (CV.pair CV.junk (CV.pair CV.junk (CV.pair CV.junk (CV.pair CV.junk (CV.pair CV.junk (CV.pair CV.junk (CV.pair CV.junk (CV.pair CV.junk (CV.pair CV.junk (CV.pair CV.junk (CV.pair CV.junk (CV.pair CV.junk (CV.pair CV.junk (CV.pair CV.junk (CV.pair CV.junk (CV.pair CV.junk (CV.pair CV.junk (CV.pair CV.junk (CV.pair CV.junk (CV.pair CV.junk (CV.pure Ty.unit PUnit.unit))))))))))))))))))))))))))))))))))))))))))))),(1,CV.ptr 3 []),(3,CV.int i64 (wrap i64 (p0+wrap i64 (p1+2)))),(6,CV.int i64 p1),(7,CV.ptr 5 []),(80,CV.int i64 p0),(81,CV.int i64 p1),(82,CV.int i64 (wrap i64 (p1+2))),(83,CV.int i64 (wrap i64 (p0+wrap i64 (p1+2)))),(84,CV.yld 4 58 (CV.pair CV.junk (CV.pair CV.junk (CV.pair CV.junk (CV.pair CV.junk (CV.pair CV.junk (CV.pair CV.junk (CV.pair (CV.ptr 2 []) (CV.pair CV.junk (CV.pair CV.junk (CV.pair CV.junk (CV.pair CV.junk (CV.pair CV.junk (CV.pair CV.junk (CV.pair CV.junk (CV.pair CV.junk (CV.pair CV.junk (CV.pair CV.junk (CV.pair CV.junk (CV.pair CV.junk (CV.pair CV.junk (CV.pair CV.junk (CV.pair CV.junk (CV.pair CV.junk (CV.pair CV.junk (CV.pair CV.junk (CV.pair CV.junk (CV.pair CV.junk (CV.pair CV.junk (CV.pair CV.junk (CV.pair CV.junk (CV.pair CV.junk (CV.pair CV.junk (CV.pair CV.junk (CV.pair CV.junk (CV.pair CV.junk (CV.pair CV.junk (CV.pair CV.junk (CV.pair CV.junk (CV.pair CV.junk (CV.pair CV.junk (CV.pair CV.junk (CV.pair CV.junk (CV.pair CV.junk (CV.pure Ty.unit PUnit.unit))))))))))))))))))))))))))))))))))))))))))))),(85,CV.int i64 (wrap i64 (p0+wrap i64 (p1+2)))),(86,CV.pure (Ty.pair (Ty.int i64) (Ty.pair (Ty.slice (Ty.int u32)) Ty.unit)) p6),(87,CV.bool true),(88,CV.bool false)] [Blk.mem (CV.pure (Ty.pair (Ty.pair (Ty.slice (Ty.int u32)) (Ty.pair (Ty.slice (Ty.int i64)) (Ty.pair (Ty.int i64) Ty.unit))) (Ty.pair (Ty.int i64) (Ty.pair (Ty.int i64) Ty.unit))) p2),Blk.mem (CV.pair (CV.nil 122 (Ty.pair (Ty.int i64) (Ty.pair (Ty.slice (Ty.int u32)) Ty.unit))) (CV.pure (Ty.pair (Ty.int i64) (Ty.pair (Ty.int i64) Ty.unit)) p3)),Blk.mem (CV.pair (CV.whole 6) (CV.pure (Ty.pair (Ty.int i64) (Ty.pair (Ty.int i64) Ty.unit)) ((wrap i64 (p0+wrap i64 (p1+2)),p4.2):(Lk0)))),Blk.mem (CV.pure (Ty.slice (Ty.int u32)) p5),Blk.ghost 0,Blk.mem (CV.pure (Ty.pair (Ty.int i64) (Ty.pair (Ty.slice (Ty.int u32)) Ty.unit)) p6),Blk.vec 122 (Ty.pair (Ty.int i64) (Ty.pair (Ty.slice (Ty.int u32)) Ty.unit)) p7] 5)
noncomputable def Sp.S_58_100_1_2{R:Type}(k:E_58_100_1_2->Option R)(p0 p1:Int)(p2:(List Int×List Int×Int×Unit)×Int×Int×Unit)(p3 p4:Int×Int×Unit)(p5:List Int)(p6:Int×List Int×Unit)(p7:List (Int×List Int×Unit)):Option R:=
 bif decide (p6.1>=0)then gd (p_61 p7 (p6.1) (p6.2.1)) (k (E_58_100_1_2.e0 p0 p1 p2 p3 p4 p5 p6 p7))else k (E_58_100_1_2.e1 p0 p1 p2 p3 p4 p5 p6 p7)
noncomputable def Sp.J_58_100_1_2(p0 p1:Int)(p2:(List Int×List Int×Int×Unit)×Int×Int×Unit)(p3 p4:Int×Int×Unit)(p5:List Int)(p6:Int×List Int×Unit)(p7:List (Int×List Int×Unit)):Option E_58_100_1_2:=S_58_100_1_2 some p0 p1 p2 p3 p4 p5 p6 p7
noncomputable def Mc0{R:Type}:Orc R:=orL Ly0 (fun a=>J_58_100_1_2 a.1 a.2.1 a.2.2.1 a.2.2.2.1 a.2.2.2.2.1 a.2.2.2.2.2.1 a.2.2.2.2.2.2.1 a.2.2.2.2.2.2.2.1) Lt0 Md0
theorem Ud0{R:Type}:okF (R:=R) Ek0 2 (ni (nf 100 0) 0) Mc0:=jp Ah0 (os:=[]) trivial Ly0 (fun R k a=>S_58_100_1_2 k a.1 a.2.1 a.2.2.1 a.2.2.2.1 a.2.2.2.2.1 a.2.2.2.2.2.1 a.2.2.2.2.2.2.1 a.2.2.2.2.2.2.2.1) Lt0 (fun k a=>by kernel_rfl) (fun Y a=>by
 unfold S_58_100_1_2
 repeat' first|apply gdN|apply Bb0|rfl) Ue0
noncomputable def Lx0:PS:=⟨89,[(0,.yl 4 58 (.kc (.pair .junk (.pair .junk (.pair .junk (.pair .junk (.pair .junk (.pair .junk (.pair (.ptr 2 []) (.pair .junk (.pair .junk (.pair .junk (.pair .junk (.pair .junk (.pair .junk (.pair .junk (.pair .junk (.pair .junk (.pair .junk (.pair .junk (.pair .junk (.pair .junk (.pair .junk (.pair .junk (.pair .junk (.pair .junk (.pair .junk (.pair .junk (.pair .junk (.pair .junk (.pair .junk (.pair .junk (.pair .junk (.pair .junk (.pair .junk (.pair .junk (.pair .junk (.pair .junk (.pair .junk (.pair .junk (.pair .junk (.pair .junk (.pair .junk (.pair .junk (.pair .junk (.pure .unit PUnit.unit)))))))))))))))))))))))))))))))))))))))))))))),(1,.kc (.ptr 3 [])),(3,.hv (.int .i64)),(6,.hv (.int .i64)),(7,.kc (.ptr 5 []))],[.mem (.hv Li0),.mem (.pr (.kc (.nil 122 Dx0)) (.hv Ex0)),.mem (.pr (.kc (.whole 7)) (.hv Ex0)),.mem (.hv (.slice (.int .u32))),.gh 0,.mem (.pr (.hv (.int .i64)) (.kc (.pair (.whole 6) (.pure .unit PUnit.unit)))),.vec 41 (.int .u32),.vec 122 Dx0],5⟩
inductive Sp.E_58_100_1_3 where
 |e0 (p0 p1:Int) (p2:Bd0) (p3 p4:Am0) (p5:List Int) (p6:Int) (p7:List Int) (p8:Cw0)
 |e1 (p0 p1:Int) (p2:Bd0) (p3 p4:Am0) (p5:List Int) (p6:Int) (p7:List Int) (p8:Cw0)
noncomputable def Sp.B_58_100_1_3{R:Type}(r:Option E_58_100_1_3)(k0 k1:Int->Int->Bd0->Am0->Am0->List Int->Int->List Int->Cw0->Option R):Option R:=match r with
 |none=>none
 |some (.e0 p0 p1 p2 p3 p4 p5 p6 p7 p8)=>k0 p0 p1 p2 p3 p4 p5 p6 p7 p8
 |some (.e1 p0 p1 p2 p3 p4 p5 p6 p7 p8)=>k1 p0 p1 p2 p3 p4 p5 p6 p7 p8
theorem Kc0{A R:Type}{r:Option E_58_100_1_3}{f:A->Option R}{k0:Int->Int->Bd0->Am0->Am0->List Int->Int->List Int->Cw0->Option A}{k1:Int->Int->Bd0->Am0->Am0->List Int->Int->List Int->Cw0->Option A}{l0:Int->Int->Bd0->Am0->Am0->List Int->Int->List Int->Cw0->Option R}{l1:Int->Int->Bd0->Am0->Am0->List Int->Int->List Int->Cw0->Option R}(h0:∀p0 p1 p2 p3 p4 p5 p6 p7 p8,(k0 p0 p1 p2 p3 p4 p5 p6 p7 p8).bind f=l0 p0 p1 p2 p3 p4 p5 p6 p7 p8)(h1:∀p0 p1 p2 p3 p4 p5 p6 p7 p8,(k1 p0 p1 p2 p3 p4 p5 p6 p7 p8).bind f=l1 p0 p1 p2 p3 p4 p5 p6 p7 p8):(B_58_100_1_3 r k0 k1).bind f=B_58_100_1_3 r l0 l1:=by
 cases r with
 |none=>rfl
 |some e=>cases e<;>first|apply h0|apply h1
noncomputable def Ls0{R:Type}(k:Ex->St->Option R):E_58_100_1_3->Option R
 | .e0 p0 p1 p2 p3 p4 p5 p6 p7 p8=>k Ex.normal (sx 89 [(0,CV.yld 4 58 (CV.pair CV.junk (CV.pair CV.junk (CV.pair CV.junk (CV.pair CV.junk (CV.pair CV.junk (CV.pair CV.junk (CV.pair (CV.ptr 2 []) (CV.pair CV.junk (CV.pair CV.junk (CV.pair CV.junk (CV.pair CV.junk (CV.pair CV.junk (CV.pair CV.junk (CV.pair CV.junk (CV.pair CV.junk (CV.pair CV.junk (CV.pair CV.junk (CV.pair CV.junk (CV.pair CV.junk (CV.pair CV.junk (CV.pair CV.junk (CV.pair CV.junk (CV.pair CV.junk (CV.pair CV.junk (CV.pair CV.junk (CV.pair CV.junk (CV.pair CV.junk (CV.pair CV.junk (CV.pair CV.junk (CV.pair CV.junk (CV.pair CV.junk (CV.pair CV.junk (CV.pair CV.junk (CV.pair CV.junk (CV.pair CV.junk (CV.pair CV.junk (CV.pair CV.junk (CV.pair CV.junk (CV.pair CV.junk (CV.pair CV.junk (CV.pair CV.junk (CV.pair CV.junk (CV.pair CV.junk (CV.pure Ty.unit PUnit.unit))))))))))))))))))))))))))))))))))))))))))))),(1,CV.ptr 3 []),(3,CV.int i64 (wrap i64 (p0+wrap i64 (p1+2)))),(6,CV.int i64 p1),(7,CV.ptr 5 []),(80,CV.int i64 p0),(81,CV.int i64 p1),(82,CV.int i64 (wrap i64 (p1+2))),(83,CV.int i64 (wrap i64 (p0+wrap i64 (p1+2)))),(84,CV.yld 4 58 (CV.pair CV.junk (CV.pair CV.junk (CV.pair CV.junk (CV.pair CV.junk (CV.pair CV.junk (CV.pair CV.junk (CV.pair (CV.ptr 2 []) (CV.pair CV.junk (CV.pair CV.junk (CV.pair CV.junk (CV.pair CV.junk (CV.pair CV.junk (CV.pair CV.junk (CV.pair CV.junk (CV.pair CV.junk (CV.pair CV.junk (CV.pair CV.junk (CV.pair CV.junk (CV.pair CV.junk (CV.pair CV.junk (CV.pair CV.junk (CV.pair CV.junk (CV.pair CV.junk (CV.pair CV.junk (CV.pair CV.junk (CV.pair CV.junk (CV.pair CV.junk (CV.pair CV.junk (CV.pair CV.junk (CV.pair CV.junk (CV.pair CV.junk (CV.pair CV.junk (CV.pair CV.junk (CV.pair CV.junk (CV.pair CV.junk (CV.pair CV.junk (CV.pair CV.junk (CV.pair CV.junk (CV.pair CV.junk (CV.pair CV.junk (CV.pair CV.junk (CV.pair CV.junk (CV.pair CV.junk (CV.pure Ty.unit PUnit.unit))))))))))))))))))))))))))))))))))))))))))))),(85,CV.int i64 (wrap i64 (p0+wrap i64 (p1+2)))),(86,CV.pair (CV.int i64 p6) (CV.pair (CV.whole 6) (CV.pure Ty.unit PUnit.unit))),(87,CV.bool true),(88,CV.bool false)] [Blk.mem (CV.pure (Ty.pair (Ty.pair (Ty.slice (Ty.int u32)) (Ty.pair (Ty.slice (Ty.int i64)) (Ty.pair (Ty.int i64) Ty.unit))) (Ty.pair (Ty.int i64) (Ty.pair (Ty.int i64) Ty.unit))) p2),Blk.mem (CV.pair (CV.nil 122 (Ty.pair (Ty.int i64) (Ty.pair (Ty.slice (Ty.int u32)) Ty.unit))) (CV.pure (Ty.pair (Ty.int i64) (Ty.pair (Ty.int i64) Ty.unit)) p3)),Blk.mem (CV.pair (CV.whole 8) (CV.pure (Ty.pair (Ty.int i64) (Ty.pair (Ty.int i64) Ty.unit)) ((wrap i64 (p0+wrap i64 (p1+2)),p4.2):(Lk0)))),Blk.mem (CV.pure (Ty.slice (Ty.int u32)) p5),Blk.ghost 0,Blk.mem (CV.pair (CV.int i64 p6) (CV.pair (CV.whole 6) (CV.pure Ty.unit PUnit.unit))),Blk.fvec 41 (Ty.int u32) p7,Blk.dead,Blk.vec 122 (Ty.pair (Ty.int i64) (Ty.pair (Ty.slice (Ty.int u32)) Ty.unit)) (((v_61 p8 p6 p7).1):Cu1)] 5)
 | .e1 p0 p1 p2 p3 p4 p5 p6 p7 p8=>k Ex.normal (sx 89 [(0,CV.yld 4 58 (CV.pair CV.junk (CV.pair CV.junk (CV.pair CV.junk (CV.pair CV.junk (CV.pair CV.junk (CV.pair CV.junk (CV.pair (CV.ptr 2 []) (CV.pair CV.junk (CV.pair CV.junk (CV.pair CV.junk (CV.pair CV.junk (CV.pair CV.junk (CV.pair CV.junk (CV.pair CV.junk (CV.pair CV.junk (CV.pair CV.junk (CV.pair CV.junk (CV.pair CV.junk (CV.pair CV.junk (CV.pair CV.junk (CV.pair CV.junk (CV.pair CV.junk (CV.pair CV.junk (CV.pair CV.junk (CV.pair CV.junk (CV.pair CV.junk (CV.pair CV.junk (CV.pair CV.junk (CV.pair CV.junk (CV.pair CV.junk (CV.pair CV.junk (CV.pair CV.junk (CV.pair CV.junk (CV.pair CV.junk (CV.pair CV.junk (CV.pair CV.junk (CV.pair CV.junk (CV.pair CV.junk (CV.pair CV.junk (CV.pair CV.junk (CV.pair CV.junk (CV.pair CV.junk (CV.pair CV.junk (CV.pure Ty.unit PUnit.unit))))))))))))))))))))))))))))))))))))))))))))),(1,CV.ptr 3 []),(3,CV.int i64 (wrap i64 (p0+wrap i64 (p1+2)))),(6,CV.int i64 p1),(7,CV.ptr 5 []),(80,CV.int i64 p0),(81,CV.int i64 p1),(82,CV.int i64 (wrap i64 (p1+2))),(83,CV.int i64 (wrap i64 (p0+wrap i64 (p1+2)))),(84,CV.yld 4 58 (CV.pair CV.junk (CV.pair CV.junk (CV.pair CV.junk (CV.pair CV.junk (CV.pair CV.junk (CV.pair CV.junk (CV.pair (CV.ptr 2 []) (CV.pair CV.junk (CV.pair CV.junk (CV.pair CV.junk (CV.pair CV.junk (CV.pair CV.junk (CV.pair CV.junk (CV.pair CV.junk (CV.pair CV.junk (CV.pair CV.junk (CV.pair CV.junk (CV.pair CV.junk (CV.pair CV.junk (CV.pair CV.junk (CV.pair CV.junk (CV.pair CV.junk (CV.pair CV.junk (CV.pair CV.junk (CV.pair CV.junk (CV.pair CV.junk (CV.pair CV.junk (CV.pair CV.junk (CV.pair CV.junk (CV.pair CV.junk (CV.pair CV.junk (CV.pair CV.junk (CV.pair CV.junk (CV.pair CV.junk (CV.pair CV.junk (CV.pair CV.junk (CV.pair CV.junk (CV.pair CV.junk (CV.pair CV.junk (CV.pair CV.junk (CV.pair CV.junk (CV.pair CV.junk (CV.pair CV.junk (CV.pure Ty.unit PUnit.unit))))))))))))))))))))))))))))))))))))))))))))),(85,CV.int i64 (wrap i64 (p0+wrap i64 (p1+2)))),(86,CV.pair (CV.int i64 p6) (CV.pair (CV.whole 6) (CV.pure Ty.unit PUnit.unit))),(87,CV.bool true),(88,CV.bool false)] [Blk.mem (CV.pure (Ty.pair (Ty.pair (Ty.slice (Ty.int u32)) (Ty.pair (Ty.slice (Ty.int i64)) (Ty.pair (Ty.int i64) Ty.unit))) (Ty.pair (Ty.int i64) (Ty.pair (Ty.int i64) Ty.unit))) p2),Blk.mem (CV.pair (CV.nil 122 (Ty.pair (Ty.int i64) (Ty.pair (Ty.slice (Ty.int u32)) Ty.unit))) (CV.pure (Ty.pair (Ty.int i64) (Ty.pair (Ty.int i64) Ty.unit)) p3)),Blk.mem (CV.pair (CV.whole 7) (CV.pure (Ty.pair (Ty.int i64) (Ty.pair (Ty.int i64) Ty.unit)) ((wrap i64 (p0+wrap i64 (p1+2)),p4.2):(Lk0)))),Blk.mem (CV.pure (Ty.slice (Ty.int u32)) p5),Blk.ghost 0,Blk.mem (CV.pair (CV.int i64 p6) (CV.pair (CV.whole 6) (CV.pure Ty.unit PUnit.unit))),Blk.vec 41 (Ty.int u32) p7,Blk.vec 122 (Ty.pair (Ty.int i64) (Ty.pair (Ty.slice (Ty.int u32)) Ty.unit)) p8] 5)
noncomputable def Sp.S_58_100_1_3{R:Type}(k:E_58_100_1_3->Option R)(p0 p1:Int)(p2:(List Int×List Int×Int×Unit)×Int×Int×Unit)(p3 p4:Int×Int×Unit)(p5:List Int)(p6:Int)(p7:List Int)(p8:List (Int×List Int×Unit)):Option R:=
 bif decide (p6>=0)then gd (p_61 p8 p6 p7) (k (E_58_100_1_3.e0 p0 p1 p2 p3 p4 p5 p6 p7 p8))else k (E_58_100_1_3.e1 p0 p1 p2 p3 p4 p5 p6 p7 p8)
noncomputable def Sp.J_58_100_1_3(p0 p1:Int)(p2:(List Int×List Int×Int×Unit)×Int×Int×Unit)(p3 p4:Int×Int×Unit)(p5:List Int)(p6:Int)(p7:List Int)(p8:List (Int×List Int×Unit)):Option E_58_100_1_3:=S_58_100_1_3 some p0 p1 p2 p3 p4 p5 p6 p7 p8
noncomputable def Fs0{R:Type}:Orc R:=orL Lx0 (fun a=>J_58_100_1_3 a.1 a.2.1 a.2.2.1 a.2.2.2.1 a.2.2.2.2.1 a.2.2.2.2.2.1 a.2.2.2.2.2.2.1 a.2.2.2.2.2.2.2.1 a.2.2.2.2.2.2.2.2.1) Ls0 Mc0
theorem Kb0{R:Type}:okF (R:=R) Ek0 2 (ni (nf 100 0) 0) Fs0:=jp Ah0 (os:=[]) trivial Lx0 (fun R k a=>S_58_100_1_3 k a.1 a.2.1 a.2.2.1 a.2.2.2.1 a.2.2.2.2.1 a.2.2.2.2.2.1 a.2.2.2.2.2.2.1 a.2.2.2.2.2.2.2.1 a.2.2.2.2.2.2.2.2.1) Ls0 (fun k a=>by kernel_rfl) (fun Y a=>by
 unfold S_58_100_1_3
 repeat' first|apply gdN|apply Bb0|rfl) Ud0
noncomputable def T_58_100_0_1:PS:=⟨89,[(0,.yl 4 58 (.kc (.pair .junk (.pair .junk (.pair .junk (.pair .junk (.pair .junk (.pair .junk (.pair (.ptr 2 []) (.pair .junk (.pair .junk (.pair .junk (.pair .junk (.pair .junk (.pair .junk (.pair .junk (.pair .junk (.pair .junk (.pair .junk (.pair .junk (.pair .junk (.pair .junk (.pair .junk (.pair .junk (.pair .junk (.pair .junk (.pair .junk (.pair .junk (.pair .junk (.pair .junk (.pair .junk (.pair .junk (.pair .junk (.pair .junk (.pair .junk (.pair .junk (.pair .junk (.pair .junk (.pair .junk (.pair .junk (.pair .junk (.pair .junk (.pair .junk (.pair .junk (.pair .junk (.pure .unit PUnit.unit)))))))))))))))))))))))))))))))))))))))))))))),(1,.kc (.ptr 3 [])),(3,.hv (.int .i64))],[.mem (.hv Li0),.mem (.pr (.kc (.nil 122 Dx0)) (.hv Ex0)),.mem (.pr (.kc (.whole 5)) (.hv Ex0)),.mem (.hv (.slice (.int .u32))),.gh 0,.vec 122 Dx0],5⟩
inductive Sp.E_58_100_0_1 where
 |e0 (p1:Bd0) (p2 p3:Am0) (p4:List Int) (p5:Cw0)
 |e1 (p1:Bd0) (p2 p3:Am0) (p4:List Int) (p5:Cw0)
noncomputable def Sp.B_58_100_0_1{R:Type}(r:Option E_58_100_0_1)(k0 k1:Bd0->Am0->Am0->List Int->Cw0->Option R):Option R:=match r with
 |none=>none
 |some (.e0 p1 p2 p3 p4 p5)=>k0 p1 p2 p3 p4 p5
 |some (.e1 p1 p2 p3 p4 p5)=>k1 p1 p2 p3 p4 p5
noncomputable def Fr0{R:Type}(k:Ex->St->Option R):E_58_100_0_1->Option R
 | .e0 p1 p2 p3 p4 p5=>k Ex.ret (sx 89 [] [Blk.mem (CV.pure (Ty.pair (Ty.pair (Ty.slice (Ty.int u32)) (Ty.pair (Ty.slice (Ty.int i64)) (Ty.pair (Ty.int i64) Ty.unit))) (Ty.pair (Ty.int i64) (Ty.pair (Ty.int i64) Ty.unit))) p1),Blk.mem (CV.pair (CV.nil 122 (Ty.pair (Ty.int i64) (Ty.pair (Ty.slice (Ty.int u32)) Ty.unit))) (CV.pure (Ty.pair (Ty.int i64) (Ty.pair (Ty.int i64) Ty.unit)) p2)),Blk.mem (CV.pair (CV.whole 5) (CV.pure (Ty.pair (Ty.int i64) (Ty.pair (Ty.int i64) Ty.unit)) p3)),Blk.mem (CV.pure (Ty.slice (Ty.int u32)) p4),Blk.ghost 0,Blk.vec 122 (Ty.pair (Ty.int i64) (Ty.pair (Ty.slice (Ty.int u32)) Ty.unit)) p5] 5)
 | .e1 p1 p2 p3 p4 p5=>k (Ex.exit 0) (sx 89 [] [Blk.mem (CV.pure (Ty.pair (Ty.pair (Ty.slice (Ty.int u32)) (Ty.pair (Ty.slice (Ty.int i64)) (Ty.pair (Ty.int i64) Ty.unit))) (Ty.pair (Ty.int i64) (Ty.pair (Ty.int i64) Ty.unit))) p1),Blk.mem (CV.pair (CV.nil 122 (Ty.pair (Ty.int i64) (Ty.pair (Ty.slice (Ty.int u32)) Ty.unit))) (CV.pure (Ty.pair (Ty.int i64) (Ty.pair (Ty.int i64) Ty.unit)) p2)),Blk.mem (CV.pair (CV.whole 5) (CV.pure (Ty.pair (Ty.int i64) (Ty.pair (Ty.int i64) Ty.unit)) p3)),Blk.mem (CV.pure (Ty.slice (Ty.int u32)) p4),Blk.ghost 0,Blk.vec 122 (Ty.pair (Ty.int i64) (Ty.pair (Ty.slice (Ty.int u32)) Ty.unit)) p5] 5)
noncomputable def Sp.S_58_100_0_1{R:Type}(K:Int->((List Int×List Int×Int×Unit)×Int×Int×Unit)->(Int×Int×Unit)->(Int×Int×Unit)->List Int->(List (Int×List Int×Unit))->Option R)(k:E_58_100_0_1->Option R)(p0:Int)(p1:(List Int×List Int×Int×Unit)×Int×Int×Unit)(p2 p3:Int×Int×Unit)(p4:List Int)(p5:List (Int×List Int×Unit)):Option R:=
 bif decide (p0<(↑(length p4):Int))then gd (inB p0 (length p4)) (gd (p_91 (getD p4 (toNat p0) 0)) (bif !(v_91 (getD p4 (toNat p0) 0)).2.1 then k (E_58_100_0_1.e0 p1 p2 p3 p4 p5)else bif decide (wrap i64 (Int.tdiv ((v_91 (getD p4 (toNat p0) 0)).1) 256)>254)then k (E_58_100_0_1.e0 p1 p2 p3 p4 p5)else bif decide (Int.tmod ((v_91 (getD p4 (toNat p0) 0)).1) (256:Int)>(24:Int))then k (E_58_100_0_1.e0 p1 p2 p3 p4 p5)else bif decide (wrap i64 (wrap i64 (p0+Int.tmod ((v_91 (getD p4 (toNat p0) 0)).1) 256)+2)>(↑(length p4):Int))then k (E_58_100_0_1.e0 p1 p2 p3 p4 p5)else gd (inB (wrap i64 (wrap i64 (p0+Int.tmod ((v_91 (getD p4 (toNat p0) 0)).1) 256)+1)) (length p4)) (gd (p_91 (getD p4 (toNat (wrap i64 (wrap i64 (p0+Int.tmod ((v_91 (getD p4 (toNat p0) 0)).1) 256)+1))) 0)) (bif(v_91 (getD p4 (toNat (wrap i64 (wrap i64 (p0+Int.tmod ((v_91 (getD p4 (toNat p0) 0)).1) 256)+1))) 0)).2.1 then gd (sl3 p0 (wrap i64 (wrap i64 (p0+Int.tmod ((v_91 (getD p4 (toNat p0) 0)).1) 256)+1)) (↑(length p4):Int)) (gd (p_85 (take (toNat (wrap i64 (wrap i64 (p0+Int.tmod ((v_91 (getD p4 (toNat p0) 0)).1) 256)+1))-toNat p0) (drop (toNat p0) p4))) (bif(v_91 (getD p4 (toNat (wrap i64 (wrap i64 (p0+Int.tmod ((v_91 (getD p4 (toNat p0) 0)).1) 256)+1))) 0)).1==(v_85 (take (toNat (wrap i64 (wrap i64 (p0+Int.tmod ((v_91 (getD p4 (toNat p0) 0)).1) 256)+1))-toNat p0) (drop (toNat p0) p4))).1 then gd (sl3 (wrap i64 (p0+1)) (wrap i64 (wrap i64 (p0+Int.tmod ((v_91 (getD p4 (toNat p0) 0)).1) 256)+1)) (↑(length p4):Int)) (B_58_100_1_2 (J_58_100_1_2 p0 (Int.tmod ((v_91 (getD p4 (toNat p0) 0)).1) 256) p1 p2 p3 p4 (wrap i64 (Int.tdiv ((v_91 (getD p4 (toNat p0) 0)).1) 256),take (toNat (wrap i64 (wrap i64 (p0+Int.tmod ((v_91 (getD p4 (toNat p0) 0)).1) 256)+1))-toNat (wrap i64 (p0+1))) (drop (toNat (wrap i64 (p0+1))) p4),PUnit.unit) p5) (fun y60 y61 y62 y63 y64 y65 y66 y67=>K (wrap i64 (y60+wrap i64 (y61+2))) y62 y63 (wrap i64 (y60+wrap i64 (y61+2)),y64.2) y65 ((v_61 y67 (y66.1) (y66.2.1)).1)) fun y68 y69 y70 y71 y72 y73 y74 y75=>K (wrap i64 (y68+wrap i64 (y69+2))) y70 y71 (wrap i64 (y68+wrap i64 (y69+2)),y72.2) y73 y75)else B_58_100_1_3 (J_58_100_1_3 p0 (Int.tmod ((v_91 (getD p4 (toNat p0) 0)).1) 256) p1 p2 p3 p4 (-1:Int) [] p5) (fun y76 y77 y78 y79 y80 y81 y82 y83 y84=>K (wrap i64 (y76+wrap i64 (y77+2))) y78 y79 (wrap i64 (y76+wrap i64 (y77+2)),y80.2) y81 ((v_61 y84 y82 y83).1)) fun y85 y86 y87 y88 y89 y90 y91 y92 y93=>K (wrap i64 (y85+wrap i64 (y86+2))) y87 y88 (wrap i64 (y85+wrap i64 (y86+2)),y89.2) y90 y93))else B_58_100_1_3 (J_58_100_1_3 p0 (Int.tmod ((v_91 (getD p4 (toNat p0) 0)).1) 256) p1 p2 p3 p4 (-1:Int) [] p5) (fun y94 y95 y96 y97 y98 y99 y100 y101 y102=>K (wrap i64 (y94+wrap i64 (y95+2))) y96 y97 (wrap i64 (y94+wrap i64 (y95+2)),y98.2) y99 ((v_61 y102 y100 y101).1)) fun y103 y104 y105 y106 y107 y108 y109 y110 y111=>K (wrap i64 (y103+wrap i64 (y104+2))) y105 y106 (wrap i64 (y103+wrap i64 (y104+2)),y107.2) y108 y111))))else k (E_58_100_0_1.e1 p1 p2 p3 p4 p5)
noncomputable def Sp.L_58_100_0_1:Nat->Int->((List Int×List Int×Int×Unit)×Int×Int×Unit)->(Int×Int×Unit)->(Int×Int×Unit)->List Int->(List (Int×List Int×Unit))->Option E_58_100_0_1
 |0,_,_,_,_,_,_=>none
 |m+1,p0,p1,p2,p3,p4,p5=>S_58_100_0_1 (L_58_100_0_1 m) some p0 p1 p2 p3 p4 p5
noncomputable def Ep0(m:Nat)(a:T_58_100_0_1.E):Option E_58_100_0_1:=L_58_100_0_1 m a.1 a.2.1 a.2.2.1 a.2.2.2.1 a.2.2.2.2.1 a.2.2.2.2.2.1
noncomputable def Mf0{R:Type}:Orc R:=orL T_58_100_0_1 (Ep0 FU) Fr0
theorem Nt0{R:Type}(k:Ex->St->Option R):∀m a,De0 (Au0 Ek0 FU (ovr noO (evFn Ek0 fns FU 2)) (mkT (Hd0 (nf 100 0)) [Fs0]) (Hd0 (nf 100 0))) (St.norm (lv (nf 100 0))) m (T_58_100_0_1.inst a) k=(Ep0 m a).bind (Fr0 k):=lpN Ep0 (fun R K k a=>S_58_100_0_1 (fun p0 p1 p2 p3 p4 p5=>K (p0,p1,p2,p3,p4,p5,())) k a.1 a.2.1 a.2.2.1 a.2.2.2.1 a.2.2.2.2.1 a.2.2.2.2.2.1) (fun _=>rfl) (fun _ _=>rfl) (fun K a=>by kernel_rfl) (fun K a=>by
 unfold S_58_100_0_1
 repeat' first|apply gdN|apply Bb0|(apply Kd0<;>intros)|(apply Kc0<;>intros)|rfl)
theorem Ug0{R:Type}:okF (R:=R) Ek0 2 (nf 100 0) Mf0:=lp Ah0 (os:=[Fs0]) ⟨Kb0,trivial⟩ T_58_100_0_1 Ep0 (fun R K k a=>S_58_100_0_1 (fun p0 p1 p2 p3 p4 p5=>K (p0,p1,p2,p3,p4,p5,())) k a.1 a.2.1 a.2.2.1 a.2.2.2.1 a.2.2.2.2.1 a.2.2.2.2.2.1) Fr0 (fun _=>rfl) (fun _ _=>rfl) (fun k K a=>by kernel_rfl) (fun Y K a=>by
 unfold S_58_100_0_1
 repeat' first|apply gdN|apply Bb0|(apply Kd0<;>intros)|(apply Kc0<;>intros)|rfl) (ok0 _)
noncomputable def T_58_100_0_0:PS:=⟨89,[(0,.yl 4 58 (.kc (.pair .junk (.pair .junk (.pair .junk (.pair .junk (.pair .junk (.pair .junk (.pair (.ptr 2 []) (.pair .junk (.pair .junk (.pair .junk (.pair .junk (.pair .junk (.pair .junk (.pair .junk (.pair .junk (.pair .junk (.pair .junk (.pair .junk (.pair .junk (.pair .junk (.pair .junk (.pair .junk (.pair .junk (.pair .junk (.pair .junk (.pair .junk (.pair .junk (.pair .junk (.pair .junk (.pair .junk (.pair .junk (.pair .junk (.pair .junk (.pair .junk (.pair .junk (.pair .junk (.pair .junk (.pair .junk (.pair .junk (.pair .junk (.pair .junk (.pair .junk (.pair .junk (.pure .unit PUnit.unit)))))))))))))))))))))))))))))))))))))))))))))),(1,.kc (.ptr 3 [])),(3,.hv (.int .i64))],[.mem (.hv Li0),.mem (.pr (.kc (.nil 122 Dx0)) (.hv Ex0)),.mem (.pr (.kc (.nil 122 Dx0)) (.hv Ex0)),.mem (.hv (.slice (.int .u32))),.gh 0],5⟩
inductive Sp.E_58_100_0_0 where
 |e0 (p1:Bd0) (p2 p3:Am0) (p4:List Int)
 |e1 (p1:Bd0) (p2 p3:Am0) (p4:List Int)
 |e2 (p1:Bd0) (p2 p3:Am0) (p4:List Int) (p5:Cw0)
 |e3 (p1:Bd0) (p2 p3:Am0) (p4:List Int) (p5:Cw0)
noncomputable def Sp.B_58_100_0_0{R:Type}(r:Option E_58_100_0_0)(k0 k1:Bd0->Am0->Am0->List Int->Option R)(k2 k3:Bd0->Am0->Am0->List Int->Cw0->Option R):Option R:=match r with
 |none=>none
 |some (.e0 p1 p2 p3 p4)=>k0 p1 p2 p3 p4
 |some (.e1 p1 p2 p3 p4)=>k1 p1 p2 p3 p4
 |some (.e2 p1 p2 p3 p4 p5)=>k2 p1 p2 p3 p4 p5
 |some (.e3 p1 p2 p3 p4 p5)=>k3 p1 p2 p3 p4 p5
noncomputable def Lw0{R:Type}(k:Ex->St->Option R):E_58_100_0_0->Option R
 | .e0 p1 p2 p3 p4=>k Ex.ret (sx 89 [] [Blk.mem (CV.pure (Ty.pair (Ty.pair (Ty.slice (Ty.int u32)) (Ty.pair (Ty.slice (Ty.int i64)) (Ty.pair (Ty.int i64) Ty.unit))) (Ty.pair (Ty.int i64) (Ty.pair (Ty.int i64) Ty.unit))) p1),Blk.mem (CV.pair (CV.nil 122 (Ty.pair (Ty.int i64) (Ty.pair (Ty.slice (Ty.int u32)) Ty.unit))) (CV.pure (Ty.pair (Ty.int i64) (Ty.pair (Ty.int i64) Ty.unit)) p2)),Blk.mem (CV.pair (CV.nil 122 (Ty.pair (Ty.int i64) (Ty.pair (Ty.slice (Ty.int u32)) Ty.unit))) (CV.pure (Ty.pair (Ty.int i64) (Ty.pair (Ty.int i64) Ty.unit)) p3)),Blk.mem (CV.pure (Ty.slice (Ty.int u32)) p4),Blk.ghost 0] 5)
 | .e1 p1 p2 p3 p4=>k (Ex.exit 0) (sx 89 [] [Blk.mem (CV.pure (Ty.pair (Ty.pair (Ty.slice (Ty.int u32)) (Ty.pair (Ty.slice (Ty.int i64)) (Ty.pair (Ty.int i64) Ty.unit))) (Ty.pair (Ty.int i64) (Ty.pair (Ty.int i64) Ty.unit))) p1),Blk.mem (CV.pair (CV.nil 122 (Ty.pair (Ty.int i64) (Ty.pair (Ty.slice (Ty.int u32)) Ty.unit))) (CV.pure (Ty.pair (Ty.int i64) (Ty.pair (Ty.int i64) Ty.unit)) p2)),Blk.mem (CV.pair (CV.nil 122 (Ty.pair (Ty.int i64) (Ty.pair (Ty.slice (Ty.int u32)) Ty.unit))) (CV.pure (Ty.pair (Ty.int i64) (Ty.pair (Ty.int i64) Ty.unit)) p3)),Blk.mem (CV.pure (Ty.slice (Ty.int u32)) p4),Blk.ghost 0] 5)
 | .e2 p1 p2 p3 p4 p5=>k Ex.ret (sx 89 [] [Blk.mem (CV.pure (Ty.pair (Ty.pair (Ty.slice (Ty.int u32)) (Ty.pair (Ty.slice (Ty.int i64)) (Ty.pair (Ty.int i64) Ty.unit))) (Ty.pair (Ty.int i64) (Ty.pair (Ty.int i64) Ty.unit))) p1),Blk.mem (CV.pair (CV.nil 122 (Ty.pair (Ty.int i64) (Ty.pair (Ty.slice (Ty.int u32)) Ty.unit))) (CV.pure (Ty.pair (Ty.int i64) (Ty.pair (Ty.int i64) Ty.unit)) p2)),Blk.mem (CV.pair (CV.whole 5) (CV.pure (Ty.pair (Ty.int i64) (Ty.pair (Ty.int i64) Ty.unit)) p3)),Blk.mem (CV.pure (Ty.slice (Ty.int u32)) p4),Blk.ghost 0,Blk.vec 122 (Ty.pair (Ty.int i64) (Ty.pair (Ty.slice (Ty.int u32)) Ty.unit)) p5] 5)
 | .e3 p1 p2 p3 p4 p5=>k (Ex.exit 0) (sx 89 [] [Blk.mem (CV.pure (Ty.pair (Ty.pair (Ty.slice (Ty.int u32)) (Ty.pair (Ty.slice (Ty.int i64)) (Ty.pair (Ty.int i64) Ty.unit))) (Ty.pair (Ty.int i64) (Ty.pair (Ty.int i64) Ty.unit))) p1),Blk.mem (CV.pair (CV.nil 122 (Ty.pair (Ty.int i64) (Ty.pair (Ty.slice (Ty.int u32)) Ty.unit))) (CV.pure (Ty.pair (Ty.int i64) (Ty.pair (Ty.int i64) Ty.unit)) p2)),Blk.mem (CV.pair (CV.whole 5) (CV.pure (Ty.pair (Ty.int i64) (Ty.pair (Ty.int i64) Ty.unit)) p3)),Blk.mem (CV.pure (Ty.slice (Ty.int u32)) p4),Blk.ghost 0,Blk.vec 122 (Ty.pair (Ty.int i64) (Ty.pair (Ty.slice (Ty.int u32)) Ty.unit)) p5] 5)
noncomputable def Sp.S_58_100_0_0{R:Type}(K:Int->((List Int×List Int×Int×Unit)×Int×Int×Unit)->(Int×Int×Unit)->(Int×Int×Unit)->List Int->Option R)(KB:Int->((List Int×List Int×Int×Unit)×Int×Int×Unit)->(Int×Int×Unit)->(Int×Int×Unit)->List Int->(List (Int×List Int×Unit))->Option R)(k:E_58_100_0_0->Option R)(p0:Int)(p1:(List Int×List Int×Int×Unit)×Int×Int×Unit)(p2 p3:Int×Int×Unit)(p4:List Int):Option R:=
 bif decide (p0<(↑(length p4):Int))then gd (inB p0 (length p4)) (gd (p_91 (getD p4 (toNat p0) 0)) (bif !(v_91 (getD p4 (toNat p0) 0)).2.1 then k (E_58_100_0_0.e0 p1 p2 p3 p4)else bif decide (wrap i64 (Int.tdiv ((v_91 (getD p4 (toNat p0) 0)).1) 256)>254)then k (E_58_100_0_0.e0 p1 p2 p3 p4)else bif decide (Int.tmod ((v_91 (getD p4 (toNat p0) 0)).1) (256:Int)>(24:Int))then k (E_58_100_0_0.e0 p1 p2 p3 p4)else bif decide (wrap i64 (wrap i64 (p0+Int.tmod ((v_91 (getD p4 (toNat p0) 0)).1) 256)+2)>(↑(length p4):Int))then k (E_58_100_0_0.e0 p1 p2 p3 p4)else gd (inB (wrap i64 (wrap i64 (p0+Int.tmod ((v_91 (getD p4 (toNat p0) 0)).1) 256)+1)) (length p4)) (gd (p_91 (getD p4 (toNat (wrap i64 (wrap i64 (p0+Int.tmod ((v_91 (getD p4 (toNat p0) 0)).1) 256)+1))) 0)) (bif(v_91 (getD p4 (toNat (wrap i64 (wrap i64 (p0+Int.tmod ((v_91 (getD p4 (toNat p0) 0)).1) 256)+1))) 0)).2.1 then gd (sl3 p0 (wrap i64 (wrap i64 (p0+Int.tmod ((v_91 (getD p4 (toNat p0) 0)).1) 256)+1)) (↑(length p4):Int)) (gd (p_85 (take (toNat (wrap i64 (wrap i64 (p0+Int.tmod ((v_91 (getD p4 (toNat p0) 0)).1) 256)+1))-toNat p0) (drop (toNat p0) p4))) (bif(v_91 (getD p4 (toNat (wrap i64 (wrap i64 (p0+Int.tmod ((v_91 (getD p4 (toNat p0) 0)).1) 256)+1))) 0)).1==(v_85 (take (toNat (wrap i64 (wrap i64 (p0+Int.tmod ((v_91 (getD p4 (toNat p0) 0)).1) 256)+1))-toNat p0) (drop (toNat p0) p4))).1 then gd (sl3 (wrap i64 (p0+1)) (wrap i64 (wrap i64 (p0+Int.tmod ((v_91 (getD p4 (toNat p0) 0)).1) 256)+1)) (↑(length p4):Int)) (B_58_100_1_0 (J_58_100_1_0 p0 (Int.tmod ((v_91 (getD p4 (toNat p0) 0)).1) 256) p1 p2 p3 p4 (wrap i64 (Int.tdiv ((v_91 (getD p4 (toNat p0) 0)).1) 256),take (toNat (wrap i64 (wrap i64 (p0+Int.tmod ((v_91 (getD p4 (toNat p0) 0)).1) 256)+1))-toNat (wrap i64 (p0+1))) (drop (toNat (wrap i64 (p0+1))) p4),PUnit.unit)) (fun y54 y55 y56 y57 y58 y59 y60=>KB (wrap i64 (y54+wrap i64 (y55+2))) y56 y57 (wrap i64 (y54+wrap i64 (y55+2)),y58.2) y59 ((v_61 [] (y60.1) (y60.2.1)).1)) fun y61 y62 y63 y64 y65 y66 y67=>K (wrap i64 (y61+wrap i64 (y62+2))) y63 y64 (wrap i64 (y61+wrap i64 (y62+2)),y65.2) y66)else B_58_100_1_1 (J_58_100_1_1 p0 (Int.tmod ((v_91 (getD p4 (toNat p0) 0)).1) 256) p1 p2 p3 p4 (-1:Int) []) (fun y68 y69 y70 y71 y72 y73 y74 y75=>KB (wrap i64 (y68+wrap i64 (y69+2))) y70 y71 (wrap i64 (y68+wrap i64 (y69+2)),y72.2) y73 ((v_61 [] y74 y75).1)) fun y76 y77 y78 y79 y80 y81 y82 y83=>K (wrap i64 (y76+wrap i64 (y77+2))) y78 y79 (wrap i64 (y76+wrap i64 (y77+2)),y80.2) y81))else B_58_100_1_1 (J_58_100_1_1 p0 (Int.tmod ((v_91 (getD p4 (toNat p0) 0)).1) 256) p1 p2 p3 p4 (-1:Int) []) (fun y84 y85 y86 y87 y88 y89 y90 y91=>KB (wrap i64 (y84+wrap i64 (y85+2))) y86 y87 (wrap i64 (y84+wrap i64 (y85+2)),y88.2) y89 ((v_61 [] y90 y91).1)) fun y92 y93 y94 y95 y96 y97 y98 y99=>K (wrap i64 (y92+wrap i64 (y93+2))) y94 y95 (wrap i64 (y92+wrap i64 (y93+2)),y96.2) y97))))else k (E_58_100_0_0.e1 p1 p2 p3 p4)
noncomputable def Mg0:E_58_100_0_1->E_58_100_0_0
 | .e0 p1 p2 p3 p4 p5=> .e2 p1 p2 p3 p4 p5
 | .e1 p1 p2 p3 p4 p5=> .e3 p1 p2 p3 p4 p5
theorem Uk0(r:Option E_58_100_0_1):B_58_100_0_1 r (fun p1 p2 p3 p4 p5=>some (E_58_100_0_0.e2 p1 p2 p3 p4 p5)) (fun p1 p2 p3 p4 p5=>some (E_58_100_0_0.e3 p1 p2 p3 p4 p5))=r.bind fun e=>some (Mg0 e):=by
 cases r with
 |none=>rfl
 |some e=>cases e<;>rfl
noncomputable def Sp.L_58_100_0_0:Nat->Int->((List Int×List Int×Int×Unit)×Int×Int×Unit)->(Int×Int×Unit)->(Int×Int×Unit)->List Int->Option E_58_100_0_0
 |0,_,_,_,_,_=>none
 |m+1,p0,p1,p2,p3,p4=>S_58_100_0_0 (L_58_100_0_0 m) (fun q0 q1 q2 q3 q4 q5=>B_58_100_0_1 (L_58_100_0_1 m q0 q1 q2 q3 q4 q5) (fun p1 p2 p3 p4 p5=>some (E_58_100_0_0.e2 p1 p2 p3 p4 p5)) (fun p1 p2 p3 p4 p5=>some (E_58_100_0_0.e3 p1 p2 p3 p4 p5))) some p0 p1 p2 p3 p4
noncomputable def Hl0(m:Nat)(a:T_58_100_0_0.E):Option E_58_100_0_0:=L_58_100_0_0 m a.1 a.2.1 a.2.2.1 a.2.2.2.1 a.2.2.2.2.1
noncomputable def Hr0{R:Type}:Orc R:=orL T_58_100_0_0 (Hl0 FU) Lw0 Mf0
theorem Uh0{R:Type}:okF (R:=R) Ek0 2 (nf 100 0) Hr0:=lp2 Ah0 (os:=[Fs0]) ⟨Kb0,trivial⟩ T_58_100_0_0 T_58_100_0_1 Hl0 Ep0 (fun R K KB k a=>S_58_100_0_0 (fun p0 p1 p2 p3 p4=>K (p0,p1,p2,p3,p4,())) (fun q0 q1 q2 q3 q4 q5=>KB (q0,q1,q2,q3,q4,q5,())) k a.1 a.2.1 a.2.2.1 a.2.2.2.1 a.2.2.2.2.1) Lw0 Fr0 Mg0 (fun _=>rfl) (fun m a=>by
 unfold Hl0
 rw[L_58_100_0_0]
 simp only[Uk0]
 rfl) (fun k e=>by cases e<;>rfl) (fun k=>Nt0 k) (fun k K a=>by kernel_rfl) (fun Y K KB a=>by
 unfold S_58_100_0_0
 repeat' first|apply gdN|apply Bb0|(apply Uj0<;>intros)|(apply Ui0<;>intros)|rfl) Ug0
noncomputable def Tl0{R:Type}:List CV->List Blk->(CV->List Blk->Option R)->Option R:=Ee0 Ek0 FU (ovr noO (evFn Ek0 fns FU 2)) (mkT (fB fns 100) [Hr0]) (fO fns 100)
theorem On0{R:Type}(args:List CV)(hp:List Blk)(k:CV->List Blk->Option R)(r:R)(h:Tl0 args hp k=some r):evFn Ek0 fns FU 3 100 args hp k=some r:=runG Ah0 (os:=[Hr0]) ⟨Uh0,trivial⟩ h
noncomputable def Sy0{R:Type}:Nat->Option (List CV->List Blk->(CV->List Blk->Option R)->Option R):=fun f'=>bif Nat.beq f' 100 then some Tl0 else none
theorem Ys0{R:Type}:Dl0 (R:=R) Sy0 (evFn Ek0 fns FU 3):=by
 intro f' g h args hp k r hg
 dsimp only[Sy0]at h
 by_cases h100:f'=100
 ·subst h100
  injection h with h
  subst h
  exact Bk0 0 (On0 _ _ _ _ hg)
 rw[Bm0 h100,cond_false]at h
 cases h
noncomputable def Ir1{R:Type}:List CV->List Blk->(CV->List Blk->Option R)->Option R:=Ee0 Ek0 FU (ovr Sy0 (evFn Ek0 fns FU 3)) (mkT (fB fns 82) []) (fO fns 82)
theorem Ef1{R:Type}(args:List CV)(hp:List Blk)(k:CV->List Blk->Option R)(r:R)(h:Ir1 args hp k=some r):evFn Ek0 fns FU 4 82 args hp k=some r:=runG Ys0 (os:=[]) trivial h
noncomputable def T_58_101_0_0:PS:=⟨19,[(0,.hv (.slice (.int .u32))),(1,.kc (.clo 84 (.pure .unit PUnit.unit))),(7,.hv (.int .i64)),(8,.hv (.int .i64))],[.mem (.hv Li0),.mem (.pr (.kc (.nil 122 Dx0)) (.hv Ex0)),.mem (.pr (.kc (.nil 122 Dx0)) (.hv Ex0)),.mem (.hv (.slice (.int .u32))),.dead],5⟩
inductive Sp.E_58_101_0_0 where
 |e0 (p2:Int) (p3:Bd0) (p4 p5:Am0) (p6:List Int)
 |e1 (p3:Bd0) (p4 p5:Am0) (p6:List Int)
noncomputable def Sp.B_58_101_0_0{R:Type}(r:Option E_58_101_0_0)(k0:Int->Bd0->Am0->Am0->List Int->Option R)(k1:Bd0->Am0->Am0->List Int->Option R):Option R:=match r with
 |none=>none
 |some (.e0 p2 p3 p4 p5 p6)=>k0 p2 p3 p4 p5 p6
 |some (.e1 p3 p4 p5 p6)=>k1 p3 p4 p5 p6
noncomputable def Lr0{R:Type}(k:Ex->St->Option R):E_58_101_0_0->Option R
 | .e0 p2 p3 p4 p5 p6=>k Ex.ret (sx 19 [(4,CV.int i64 p2)] [Blk.mem (CV.pure (Ty.pair (Ty.pair (Ty.slice (Ty.int u32)) (Ty.pair (Ty.slice (Ty.int i64)) (Ty.pair (Ty.int i64) Ty.unit))) (Ty.pair (Ty.int i64) (Ty.pair (Ty.int i64) Ty.unit))) p3),Blk.mem (CV.pair (CV.nil 122 (Ty.pair (Ty.int i64) (Ty.pair (Ty.slice (Ty.int u32)) Ty.unit))) (CV.pure (Ty.pair (Ty.int i64) (Ty.pair (Ty.int i64) Ty.unit)) p4)),Blk.mem (CV.pair (CV.nil 122 (Ty.pair (Ty.int i64) (Ty.pair (Ty.slice (Ty.int u32)) Ty.unit))) (CV.pure (Ty.pair (Ty.int i64) (Ty.pair (Ty.int i64) Ty.unit)) p5)),Blk.mem (CV.pure (Ty.slice (Ty.int u32)) p6),Blk.dead] 5)
 | .e1 p3 p4 p5 p6=>k (Ex.exit 0) (sx 19 [] [Blk.mem (CV.pure (Ty.pair (Ty.pair (Ty.slice (Ty.int u32)) (Ty.pair (Ty.slice (Ty.int i64)) (Ty.pair (Ty.int i64) Ty.unit))) (Ty.pair (Ty.int i64) (Ty.pair (Ty.int i64) Ty.unit))) p3),Blk.mem (CV.pair (CV.nil 122 (Ty.pair (Ty.int i64) (Ty.pair (Ty.slice (Ty.int u32)) Ty.unit))) (CV.pure (Ty.pair (Ty.int i64) (Ty.pair (Ty.int i64) Ty.unit)) p4)),Blk.mem (CV.pair (CV.nil 122 (Ty.pair (Ty.int i64) (Ty.pair (Ty.slice (Ty.int u32)) Ty.unit))) (CV.pure (Ty.pair (Ty.int i64) (Ty.pair (Ty.int i64) Ty.unit)) p5)),Blk.mem (CV.pure (Ty.slice (Ty.int u32)) p6),Blk.dead] 5)
noncomputable def Sp.S_58_101_0_0{R:Type}(K:List Int->Int->Int->((List Int×List Int×Int×Unit)×Int×Int×Unit)->(Int×Int×Unit)->(Int×Int×Unit)->List Int->Option R)(k:E_58_101_0_0->Option R)(p0:List Int)(p1 p2:Int)(p3:(List Int×List Int×Int×Unit)×Int×Int×Unit)(p4 p5:Int×Int×Unit)(p6:List Int):Option R:=
 bif decide (p2<p1)then gd (inB p2 (length p0)) (bif getD p0 (toNat p2) (0:Int)!=(4294967295:Int)then k (E_58_101_0_0.e0 p2 p3 p4 p5 p6)else K p0 p1 (wrap i64 (p2+1)) p3 p4 p5 p6)else k (E_58_101_0_0.e1 p3 p4 p5 p6)
noncomputable def Sp.L_58_101_0_0:Nat->List Int->Int->Int->((List Int×List Int×Int×Unit)×Int×Int×Unit)->(Int×Int×Unit)->(Int×Int×Unit)->List Int->Option E_58_101_0_0
 |0,_,_,_,_,_,_,_=>none
 |m+1,p0,p1,p2,p3,p4,p5,p6=>S_58_101_0_0 (L_58_101_0_0 m) some p0 p1 p2 p3 p4 p5 p6
noncomputable def Le0(m:Nat)(a:T_58_101_0_0.E):Option E_58_101_0_0:=L_58_101_0_0 m a.1 a.2.1 a.2.2.1 a.2.2.2.1 a.2.2.2.2.1 a.2.2.2.2.2.1 a.2.2.2.2.2.2.1
noncomputable def Mb0{R:Type}:Orc R:=orL T_58_101_0_0 (Le0 FU) Lr0
theorem Uc0{R:Type}:okF (R:=R) Ek0 2 (nf 101 0) Mb0:=lp0 T_58_101_0_0 Le0 (fun R K k a=>S_58_101_0_0 (fun p0 p1 p2 p3 p4 p5 p6=>K (p0,p1,p2,p3,p4,p5,p6,())) k a.1 a.2.1 a.2.2.1 a.2.2.2.1 a.2.2.2.2.1 a.2.2.2.2.2.1 a.2.2.2.2.2.2.1) Lr0 (fun _ _ _=>by kernel_rfl) (fun _ _ _=>by
 unfold S_58_101_0_0
 repeat' first|apply gdN|apply Bb0|rfl) (ok0 _)
noncomputable def T_58_101_0_1:PS:=⟨19,[(0,.hv (.slice (.int .u32))),(1,.kc (.clo 84 (.pure .unit PUnit.unit))),(7,.hv (.int .i64)),(8,.hv (.int .i64))],[.mem (.hv Li0),.mem (.pr (.kc (.nil 122 Dx0)) (.hv Ex0)),.mem (.pr (.kc (.whole 5)) (.hv Ex0)),.mem (.hv (.slice (.int .u32))),.dead,.vec 122 Dx0],6⟩
inductive Sp.E_58_101_0_1 where
 |e0 (p2:Int) (p3:Bd0) (p4 p5:Am0) (p6:List Int) (p7:Cw0)
 |e1 (p3:Bd0) (p4 p5:Am0) (p6:List Int) (p7:Cw0)
noncomputable def Sp.B_58_101_0_1{R:Type}(r:Option E_58_101_0_1)(k0:Int->Bd0->Am0->Am0->List Int->Cw0->Option R)(k1:Bd0->Am0->Am0->List Int->Cw0->Option R):Option R:=match r with
 |none=>none
 |some (.e0 p2 p3 p4 p5 p6 p7)=>k0 p2 p3 p4 p5 p6 p7
 |some (.e1 p3 p4 p5 p6 p7)=>k1 p3 p4 p5 p6 p7
noncomputable def Lq0{R:Type}(k:Ex->St->Option R):E_58_101_0_1->Option R
 | .e0 p2 p3 p4 p5 p6 p7=>k Ex.ret (sx 19 [(4,CV.int i64 p2)] [Blk.mem (CV.pure (Ty.pair (Ty.pair (Ty.slice (Ty.int u32)) (Ty.pair (Ty.slice (Ty.int i64)) (Ty.pair (Ty.int i64) Ty.unit))) (Ty.pair (Ty.int i64) (Ty.pair (Ty.int i64) Ty.unit))) p3),Blk.mem (CV.pair (CV.nil 122 (Ty.pair (Ty.int i64) (Ty.pair (Ty.slice (Ty.int u32)) Ty.unit))) (CV.pure (Ty.pair (Ty.int i64) (Ty.pair (Ty.int i64) Ty.unit)) p4)),Blk.mem (CV.pair (CV.whole 5) (CV.pure (Ty.pair (Ty.int i64) (Ty.pair (Ty.int i64) Ty.unit)) p5)),Blk.mem (CV.pure (Ty.slice (Ty.int u32)) p6),Blk.dead,Blk.vec 122 (Ty.pair (Ty.int i64) (Ty.pair (Ty.slice (Ty.int u32)) Ty.unit)) p7] 6)
 | .e1 p3 p4 p5 p6 p7=>k (Ex.exit 0) (sx 19 [] [Blk.mem (CV.pure (Ty.pair (Ty.pair (Ty.slice (Ty.int u32)) (Ty.pair (Ty.slice (Ty.int i64)) (Ty.pair (Ty.int i64) Ty.unit))) (Ty.pair (Ty.int i64) (Ty.pair (Ty.int i64) Ty.unit))) p3),Blk.mem (CV.pair (CV.nil 122 (Ty.pair (Ty.int i64) (Ty.pair (Ty.slice (Ty.int u32)) Ty.unit))) (CV.pure (Ty.pair (Ty.int i64) (Ty.pair (Ty.int i64) Ty.unit)) p4)),Blk.mem (CV.pair (CV.whole 5) (CV.pure (Ty.pair (Ty.int i64) (Ty.pair (Ty.int i64) Ty.unit)) p5)),Blk.mem (CV.pure (Ty.slice (Ty.int u32)) p6),Blk.dead,Blk.vec 122 (Ty.pair (Ty.int i64) (Ty.pair (Ty.slice (Ty.int u32)) Ty.unit)) p7] 6)
noncomputable def Sp.S_58_101_0_1{R:Type}(K:List Int->Int->Int->((List Int×List Int×Int×Unit)×Int×Int×Unit)->(Int×Int×Unit)->(Int×Int×Unit)->List Int->(List (Int×List Int×Unit))->Option R)(k:E_58_101_0_1->Option R)(p0:List Int)(p1 p2:Int)(p3:(List Int×List Int×Int×Unit)×Int×Int×Unit)(p4 p5:Int×Int×Unit)(p6:List Int)(p7:List (Int×List Int×Unit)):Option R:=
 bif decide (p2<p1)then gd (inB p2 (length p0)) (bif getD p0 (toNat p2) (0:Int)!=(4294967295:Int)then k (E_58_101_0_1.e0 p2 p3 p4 p5 p6 p7)else K p0 p1 (wrap i64 (p2+1)) p3 p4 p5 p6 p7)else k (E_58_101_0_1.e1 p3 p4 p5 p6 p7)
noncomputable def Sp.L_58_101_0_1:Nat->List Int->Int->Int->((List Int×List Int×Int×Unit)×Int×Int×Unit)->(Int×Int×Unit)->(Int×Int×Unit)->List Int->(List (Int×List Int×Unit))->Option E_58_101_0_1
 |0,_,_,_,_,_,_,_,_=>none
 |m+1,p0,p1,p2,p3,p4,p5,p6,p7=>S_58_101_0_1 (L_58_101_0_1 m) some p0 p1 p2 p3 p4 p5 p6 p7
noncomputable def Ld0(m:Nat)(a:T_58_101_0_1.E):Option E_58_101_0_1:=L_58_101_0_1 m a.1 a.2.1 a.2.2.1 a.2.2.2.1 a.2.2.2.2.1 a.2.2.2.2.2.1 a.2.2.2.2.2.2.1 a.2.2.2.2.2.2.2.1
noncomputable def Hq0{R:Type}:Orc R:=orL T_58_101_0_1 (Ld0 FU) Lq0 Mb0
theorem Ub0{R:Type}:okF (R:=R) Ek0 2 (nf 101 0) Hq0:=lp0 T_58_101_0_1 Ld0 (fun R K k a=>S_58_101_0_1 (fun p0 p1 p2 p3 p4 p5 p6 p7=>K (p0,p1,p2,p3,p4,p5,p6,p7,())) k a.1 a.2.1 a.2.2.1 a.2.2.2.1 a.2.2.2.2.1 a.2.2.2.2.2.1 a.2.2.2.2.2.2.1 a.2.2.2.2.2.2.2.1) Lq0 (fun _ _ _=>by kernel_rfl) (fun _ _ _=>by
 unfold S_58_101_0_1
 repeat' first|apply gdN|apply Bb0|rfl) Uc0
noncomputable def By1{R:Type}:List CV->List Blk->(CV->List Blk->Option R)->Option R:=Ee0 Ek0 FU (ovr noO (evFn Ek0 fns FU 2)) (mkT (fB fns 101) [Hq0]) (fO fns 101)
theorem Zh0{R:Type}(args:List CV)(hp:List Blk)(k:CV->List Blk->Option R)(r:R)(h:By1 args hp k=some r):evFn Ek0 fns FU 3 101 args hp k=some r:=runG Ah0 (os:=[Hq0]) ⟨Ub0,trivial⟩ h
noncomputable def Sx0{R:Type}:Nat->Option (List CV->List Blk->(CV->List Blk->Option R)->Option R):=fun f'=>bif Nat.beq f' 101 then some By1 else none
theorem Yr0{R:Type}:Dl0 (R:=R) Sx0 (evFn Ek0 fns FU 3):=by
 intro f' g h args hp k r hg
 dsimp only[Sx0]at h
 by_cases h101:f'=101
 ·subst h101
  injection h with h
  subst h
  exact Bk0 0 (Zh0 _ _ _ _ hg)
 rw[Bm0 h101,cond_false]at h
 cases h
noncomputable def Iq1{R:Type}:List CV->List Blk->(CV->List Blk->Option R)->Option R:=Ee0 Ek0 FU (ovr Sx0 (evFn Ek0 fns FU 3)) (mkT (fB fns 83) []) (fO fns 83)
theorem Ee1{R:Type}(args:List CV)(hp:List Blk)(k:CV->List Blk->Option R)(r:R)(h:Iq1 args hp k=some r):evFn Ek0 fns FU 4 83 args hp k=some r:=runG Yr0 (os:=[]) trivial h
noncomputable def Bh1{R:Type}:Nat->Option (List CV->List Blk->(CV->List Blk->Option R)->Option R):=fun f'=>bif Nat.beq f' 82 then some Ir1 else bif Nat.beq f' 83 then some Iq1 else bif Nat.beq f' 100 then some Tl0 else none
theorem Yt0{R:Type}:Dl0 (R:=R) Bh1 (evFn Ek0 fns FU 4):=by
 intro f' g h args hp k r hg
 dsimp only[Bh1]at h
 by_cases h82:f'=82
 ·subst h82
  injection h with h
  subst h
  exact Bk0 0 (Ef1 _ _ _ _ hg)
 rw[Bm0 h82,cond_false]at h
 by_cases h83:f'=83
 ·subst h83
  injection h with h
  subst h
  exact Bk0 0 (Ee1 _ _ _ _ hg)
 rw[Bm0 h83,cond_false]at h
 by_cases h100:f'=100
 ·subst h100
  injection h with h
  subst h
  exact Bk0 1 (On0 _ _ _ _ hg)
 rw[Bm0 h100,cond_false]at h
 cases h
noncomputable def F_58(a0:(((List Int)×((List Int)×(Int×Unit)))×(Int×(Int×Unit))))(a1:Int):Option (((List (Int×((List Int)×Unit)))×(Int×(Int×Unit)))×Unit) :=
 gd (p_81 a0 a1) (B_58_100_0_0 (L_58_100_0_0 4611686018427387904 1 a0 (0,0,PUnit.unit) (1,0,PUnit.unit) ((v_81 a0 a1).1)) (fun y58 y59 y60 y61=>gd (sl3 (y60.1) (↑(length ((v_81 a0 a1).1)):Int) (↑(length ((v_81 a0 a1).1)):Int)) (B_58_101_0_0 (L_58_101_0_0 4611686018427387904 (drop (toNat (y60.1)) ((v_81 a0 a1).1)) (↑(length (drop (toNat (y60.1)) ((v_81 a0 a1).1))):Int) 0 y58 y59 y60 y61) (fun y62 y63 y64 y65 y66=>bif !decide (y62>=0)then some (([],y65.1,wrap i64 ((↑(length ((v_81 a0 a1).1)):Int)-y65.1),y65.2.2),PUnit.unit)else some (([],y65),PUnit.unit)) fun y67 y68 y69 y70=>some (([],y69.1,wrap i64 ((↑(length ((v_81 a0 a1).1)):Int)-y69.1),y69.2.2),PUnit.unit))) (fun y71 y72 y73 y74=>gd (sl3 (y73.1) (↑(length ((v_81 a0 a1).1)):Int) (↑(length ((v_81 a0 a1).1)):Int)) (B_58_101_0_0 (L_58_101_0_0 4611686018427387904 (drop (toNat (y73.1)) ((v_81 a0 a1).1)) (↑(length (drop (toNat (y73.1)) ((v_81 a0 a1).1))):Int) 0 y71 y72 y73 y74) (fun y75 y76 y77 y78 y79=>bif !decide (y75>=0)then some (([],y78.1,wrap i64 ((↑(length ((v_81 a0 a1).1)):Int)-y78.1),y78.2.2),PUnit.unit)else some (([],y78),PUnit.unit)) fun y80 y81 y82 y83=>some (([],y82.1,wrap i64 ((↑(length ((v_81 a0 a1).1)):Int)-y82.1),y82.2.2),PUnit.unit))) (fun y84 y85 y86 y87 y88=>gd (sl3 (y86.1) (↑(length ((v_81 a0 a1).1)):Int) (↑(length ((v_81 a0 a1).1)):Int)) (B_58_101_0_1 (L_58_101_0_1 4611686018427387904 (drop (toNat (y86.1)) ((v_81 a0 a1).1)) (↑(length (drop (toNat (y86.1)) ((v_81 a0 a1).1))):Int) 0 y84 y85 y86 y87 y88) (fun y89 y90 y91 y92 y93 y94=>bif !decide (y89>=0)then some ((y94,y92.1,wrap i64 ((↑(length ((v_81 a0 a1).1)):Int)-y92.1),y92.2.2),PUnit.unit)else some ((y94,y92),PUnit.unit)) fun y95 y96 y97 y98 y99=>some ((y99,y97.1,wrap i64 ((↑(length ((v_81 a0 a1).1)):Int)-y97.1),y97.2.2),PUnit.unit))) fun y100 y101 y102 y103 y104=>gd (sl3 (y102.1) (↑(length ((v_81 a0 a1).1)):Int) (↑(length ((v_81 a0 a1).1)):Int)) (B_58_101_0_1 (L_58_101_0_1 4611686018427387904 (drop (toNat (y102.1)) ((v_81 a0 a1).1)) (↑(length (drop (toNat (y102.1)) ((v_81 a0 a1).1))):Int) 0 y100 y101 y102 y103 y104) (fun y105 y106 y107 y108 y109 y110=>bif !decide (y105>=0)then some ((y110,y108.1,wrap i64 ((↑(length ((v_81 a0 a1).1)):Int)-y108.1),y108.2.2),PUnit.unit)else some ((y110,y108),PUnit.unit)) fun y111 y112 y113 y114 y115=>some ((y115,y113.1,wrap i64 ((↑(length ((v_81 a0 a1).1)):Int)-y113.1),y113.2.2),PUnit.unit)))
noncomputable def Sp.p_58(a0:(((List Int)×((List Int)×(Int×Unit)))×(Int×(Int×Unit))))(a1:Int):Bool:=(F_58 a0 a1).isSome
noncomputable def Sp.v_58(a0:(((List Int)×((List Int)×(Int×Unit)))×(Int×(Int×Unit))))(a1:Int):((List (Int×((List Int)×Unit)))×(Int×(Int×Unit)))×Unit:=(F_58 a0 a1).getD (dfH R_58)
noncomputable def s_58:Summ:=ownS A_58 122 [] Qt1 [] (fun x=>p_58 x.1 x.2.1) (fun x=>v_58 x.1 x.2.1)
theorem Kt2(a0:(((List Int)×((List Int)×(Int×Unit)))×(Int×(Int×Unit))))(a1:Int){y:((List (Int×((List Int)×Unit)))×(Int×(Int×Unit)))×Unit}(h:F_58 a0 a1=some y):p_58 a0 a1=true/\v_58 a0 a1=y:=pvG h
theorem Cr2(x:HDen A_58)(y:HDen R_58)(h:F_58 x.1 x.2.1=some y):evFn Ek0 fns FU 5 58 (ofH A_58 x) [] (ownK 122 [] Qt1 [])=some y:=runG Yt0 (os:=[]) trivial (Eq.trans (by kernel_rfl) h)
end
noncomputable section
abbrev A_65:List Ty:=[(.pair (.pair (.slice (.int .u32)) (.pair (.slice (.int .i64)) (.pair (.int .i64) .unit))) (.pair (.int .i64) (.pair (.int .i64) .unit)))]
abbrev R_65:List Ty:=[(.slice (.pair (.int .i64) (.pair (.slice (.int .u32)) .unit))),(.int .i64)]
noncomputable def Iv2:Nat->Option Summ:=smL [(20,s_20),(29,s_29),(58,s_58)]
noncomputable def F_65(a0:(((List Int)×((List Int)×(Int×Unit)))×(Int×(Int×Unit)))):Option ((List (Int×((List Int)×Unit)))×Int×Unit) :=
 gd (p_20 a0) (bif !(v_20 a0).1 then some ([],1,PUnit.unit)else gd (p_29 a0) (gd (p_58 a0 ((v_29 a0).1)) (some ((v_58 a0 ((v_29 a0).1)).1.1,0,PUnit.unit))))
noncomputable def Sp.p_65(a0:(((List Int)×((List Int)×(Int×Unit)))×(Int×(Int×Unit)))):Bool:=(F_65 a0).isSome
noncomputable def Sp.v_65(a0:(((List Int)×((List Int)×(Int×Unit)))×(Int×(Int×Unit)))):(List (Int×((List Int)×Unit)))×Int×Unit:=(F_65 a0).getD (dfH R_65)
noncomputable def s_65:Summ:=shS A_65 R_65 (fun x=>p_65 x.1) (fun x=>v_65 x.1)
theorem Ko2(a0:(((List Int)×((List Int)×(Int×Unit)))×(Int×(Int×Unit)))){y:(List (Int×((List Int)×Unit)))×Int×Unit}(h:F_65 a0=some y):p_65 a0=true/\v_65 a0=y:=pvG h
theorem Cm2(x:HDen A_65)(y:HDen R_65)(h:F_65 x.1=some y):rnF Iv2 1 65 A_65 R_65 x y:=runG Ah0 (os:=[]) trivial (Eq.trans (by kernel_rfl) h)
end
noncomputable section
abbrev A_31:List Ty:=[(.pair (.pair (.slice (.int .u32)) (.pair (.slice (.int .i64)) (.pair (.int .i64) .unit))) (.pair (.int .i64) (.pair (.int .i64) .unit))),(.int .i64)]
abbrev R_31:List Ty:=[(.slice (.int .u32)),(.int .i64)]
noncomputable def Br2:Nat->Option Summ:=smL [(65,s_65)]
noncomputable def T_31_0:PS:=⟨39,[(1,.hv (.int .i64)),(26,.hv (.slice (.pair (.int .i64) (.pair (.slice (.int .u32)) .unit)))),(27,.hv (.int .i64)),(28,.hv (.int .i64))],[],0⟩
inductive Sp.E_31_0 where
 |e0 (p1:List (Int×List Int×Unit)) (p3:Int)
 |e1
noncomputable def Sp.B_31_0{R:Type}(r:Option E_31_0)(k0:(List (Int×List Int×Unit))->Int->Option R)(k1:Option R):Option R:=match r with
 |none=>none
 |some (.e0 p1 p3)=>k0 p1 p3
 |some (.e1)=>k1
noncomputable def Sb1{R:Type}(k:Ex->St->Option R):E_31_0->Option R
 | .e0 p1 p3=>k Ex.ret (sx 39 [(4,CV.pure (Ty.slice (Ty.int u32)) (((getD p1 (toNat p3) Zd2).2.1):(List Int))),(5,CV.int i64 0)] [])
 | .e1=>k (Ex.exit 1) (sx 39 [] [])
noncomputable def Sp.S_31_0{R:Type}(K:Int->(List (Int×List Int×Unit))->Int->Int->Option R)(k:E_31_0->Option R)(p0:Int)(p1:List (Int×List Int×Unit))(p2 p3:Int):Option R:=
 bif decide (p3<p2)then gd (inB p3 (length p1)) (bif(getD p1 (toNat p3) Zd2).1==p0 then k (E_31_0.e0 p1 p3)else K p0 p1 p2 (wrap i64 (p3+1)))else k (E_31_0.e1)
noncomputable def Sp.L_31_0:Nat->Int->(List (Int×List Int×Unit))->Int->Int->Option E_31_0
 |0,_,_,_,_=>none
 |m+1,p0,p1,p2,p3=>S_31_0 (L_31_0 m) some p0 p1 p2 p3
noncomputable def Pv1(m:Nat)(a:T_31_0.E):Option E_31_0:=L_31_0 m a.1 a.2.1 a.2.2.1 a.2.2.2.1
noncomputable def Ud1{R:Type}:Orc R:=orL T_31_0 (Pv1 FU) Sb1
theorem Yp1{R:Type}:okF (R:=R) Br2 0 (nf 31 0) Ud1:=lp0 T_31_0 Pv1 (fun R K k a=>S_31_0 (fun p0 p1 p2 p3=>K (p0,p1,p2,p3,())) k a.1 a.2.1 a.2.2.1 a.2.2.2.1) Sb1 (fun _ _ _=>by kernel_rfl) (fun _ _ _=>by
 unfold S_31_0
 repeat' first|apply gdN|apply Bb0|rfl) (ok0 _)
noncomputable def F_31(a0:(((List Int)×((List Int)×(Int×Unit)))×(Int×(Int×Unit))))(a1:Int):Option ((List Int)×Int×Unit) :=
 gd (p_65 a0) (bif(v_65 a0).2.1 !=0 then some ([],(v_65 a0).2.1,PUnit.unit)else bif decide (a1<0)then some ([],2,PUnit.unit)else bif decide (a1>254)then some ([],2,PUnit.unit)else B_31_0 (L_31_0 4611686018427387904 a1 ((v_65 a0).1) (↑(length ((v_65 a0).1)):Int) 0) (fun y2 y3=>some ((getD y2 (toNat y3) Zd2).2.1,0,PUnit.unit)) (some ([],7,PUnit.unit)))
noncomputable def Sp.p_31(a0:(((List Int)×((List Int)×(Int×Unit)))×(Int×(Int×Unit))))(a1:Int):Bool:=(F_31 a0 a1).isSome
noncomputable def Sp.v_31(a0:(((List Int)×((List Int)×(Int×Unit)))×(Int×(Int×Unit))))(a1:Int):(List Int)×Int×Unit:=(F_31 a0 a1).getD (dfH R_31)
noncomputable def s_31:Summ:=shS A_31 R_31 (fun x=>p_31 x.1 x.2.1) (fun x=>v_31 x.1 x.2.1)
theorem Lm2(a0:(((List Int)×((List Int)×(Int×Unit)))×(Int×(Int×Unit))))(a1:Int){y:(List Int)×Int×Unit}(h:F_31 a0 a1=some y):p_31 a0 a1=true/\v_31 a0 a1=y:=pvG h
theorem Dm2(x:HDen A_31)(y:HDen R_31)(h:F_31 x.1 x.2.1=some y):rnF Br2 1 31 A_31 R_31 x y:=runG Ah0 (os:=[Ud1]) ⟨Yp1,trivial⟩ (Eq.trans (by kernel_rfl) h)
end
noncomputable section
abbrev A_30:List Ty:=[(.pair (.pair (.slice (.int .u32)) (.pair (.slice (.int .i64)) (.pair (.int .i64) .unit))) (.pair (.int .i64) (.pair (.int .i64) .unit)))]
abbrev R_30:List Ty:=[(.int .i64)]
noncomputable def Jh2:Nat->Option Summ:=smL [(31,s_31)]
noncomputable def F_30(a0:(((List Int)×((List Int)×(Int×Unit)))×(Int×(Int×Unit)))):Option (Int×Unit) :=
 gd (p_31 a0 254) (bif(v_31 a0 254).2.1 !=0 then some (0,PUnit.unit)else bif(↑(length ((v_31 a0 254).1)):Int)!=1 then some (0,PUnit.unit)else gd (inB 0 (length ((v_31 a0 254).1))) (bif decide (getD ((v_31 a0 254).1) 0 (0:Int)>(1073741824:Int))then some (0,PUnit.unit)else gd (inB 0 (length ((v_31 a0 254).1))) (some (wrap i64 (getD ((v_31 a0 254).1) 0 0),PUnit.unit))))
noncomputable def Sp.p_30(a0:(((List Int)×((List Int)×(Int×Unit)))×(Int×(Int×Unit)))):Bool:=(F_30 a0).isSome
noncomputable def Sp.v_30(a0:(((List Int)×((List Int)×(Int×Unit)))×(Int×(Int×Unit)))):Int×Unit:=(F_30 a0).getD (dfH R_30)
noncomputable def s_30:Summ:=shN A_30 R_30 (fun x=>p_30 x.1) (fun x=>v_30 x.1)
theorem Ln2(a0:(((List Int)×((List Int)×(Int×Unit)))×(Int×(Int×Unit)))){y:Int×Unit}(h:F_30 a0=some y):p_30 a0=true/\v_30 a0=y:=pvG h
theorem Dn2(x:HDen A_30)(y:HDen R_30)(h:F_30 x.1=some y):rnF Jh2 1 30 A_30 R_30 x y:=runG Ah0 (os:=[]) trivial (Eq.trans (by kernel_rfl) h)
end
noncomputable section
abbrev A_77:List Ty:=[(.int .i64),(.int .i64)]
abbrev R_77:List Ty:=[.bool]
noncomputable def Ip2:Nat->Option Summ:=smL []
noncomputable def F_77(a0 a1:Int):Option (Bool×Unit) :=
 bif decide (a0>=0)then some (decide (a0<=a1),PUnit.unit)else some (false,PUnit.unit)
noncomputable def Sp.p_77(a0 a1:Int):Bool:=(F_77 a0 a1).isSome
noncomputable def Sp.v_77(a0 a1:Int):Bool×Unit:=(F_77 a0 a1).getD (dfH R_77)
noncomputable def s_77:Summ:=shN A_77 R_77 (fun x=>p_77 x.1 x.2.1) (fun x=>v_77 x.1 x.2.1)
theorem Kh2(a0 a1:Int){y:Bool×Unit}(h:F_77 a0 a1=some y):p_77 a0 a1=true/\v_77 a0 a1=y:=pvG h
theorem Cd2(x:HDen A_77)(y:HDen R_77)(h:F_77 x.1 x.2.1=some y):rnF Ip2 1 77 A_77 R_77 x y:=runG Ah0 (os:=[]) trivial (Eq.trans (by kernel_rfl) h)
end
noncomputable section
abbrev A_79:List Ty:=[(.int .i64)]
abbrev R_79:List Ty:=[.bool]
noncomputable def Io2:Nat->Option Summ:=smL []
noncomputable def F_79(a0:Int):Option (Bool×Unit) :=
 bif decide (a0>=(-1099511627776:Int))then some (decide (a0<=1099511627776),PUnit.unit)else some (false,PUnit.unit)
noncomputable def Sp.p_79(a0:Int):Bool:=(F_79 a0).isSome
noncomputable def Sp.v_79(a0:Int):Bool×Unit:=(F_79 a0).getD (dfH R_79)
noncomputable def s_79:Summ:=shN A_79 R_79 (fun x=>p_79 x.1) (fun x=>v_79 x.1)
theorem Kg2(a0:Int){y:Bool×Unit}(h:F_79 a0=some y):p_79 a0=true/\v_79 a0=y:=pvG h
theorem Cc2(x:HDen A_79)(y:HDen R_79)(h:F_79 x.1=some y):rnF Io2 1 79 A_79 R_79 x y:=runG Ah0 (os:=[]) trivial (Eq.trans (by kernel_rfl) h)
end
noncomputable section
abbrev Cv1:Type:=Int×Int×Int×Int×Int×List Int×Int×Unit
abbrev A_56:List Ty:=[(.pair (.int .i64) (.pair (.int .i64) (.pair (.int .i64) (.pair (.int .i64) (.pair (.int .i64) (.pair (.slice (.int .i64)) (.pair (.int .i64) .unit)))))))]
abbrev R_56:List Ty:=[(.slice (.int .u32)),(.int .i64)]
noncomputable def Nc0:Nat->Option Summ:=smL [(77,s_77),(79,s_79)]
noncomputable def T_56_90_0_0:PS:=⟨19,[(0,.hv (.slice (.int .i64))),(1,.kc (.clo 78 (.pure .unit PUnit.unit))),(7,.hv (.int .i64)),(8,.hv (.int .i64))],[.mem (.hv (.pair (.int .i64) (.pair (.int .i64) (.pair (.int .i64) (.pair (.int .i64) (.pair (.int .i64) (.pair (.slice (.int .i64)) (.pair (.int .i64) .unit))))))))],1⟩
inductive Sp.E_56_90_0_0 where
 |e0 (p2:Int) (p3:Cv1)
 |e1 (p3:Cv1)
noncomputable def Sp.B_56_90_0_0{R:Type}(r:Option E_56_90_0_0)(k0:Int->Cv1->Option R)(k1:Cv1->Option R):Option R:=match r with
 |none=>none
 |some (.e0 p2 p3)=>k0 p2 p3
 |some (.e1 p3)=>k1 p3
noncomputable def Pf0{R:Type}(k:Ex->St->Option R):E_56_90_0_0->Option R
 | .e0 p2 p3=>k Ex.ret (sx 19 [(4,CV.int i64 p2)] [Blk.mem (CV.pure (Ty.pair (Ty.int i64) (Ty.pair (Ty.int i64) (Ty.pair (Ty.int i64) (Ty.pair (Ty.int i64) (Ty.pair (Ty.int i64) (Ty.pair (Ty.slice (Ty.int i64)) (Ty.pair (Ty.int i64) Ty.unit))))))) p3)] 1)
 | .e1 p3=>k (Ex.exit 0) (sx 19 [] [Blk.mem (CV.pure (Ty.pair (Ty.int i64) (Ty.pair (Ty.int i64) (Ty.pair (Ty.int i64) (Ty.pair (Ty.int i64) (Ty.pair (Ty.int i64) (Ty.pair (Ty.slice (Ty.int i64)) (Ty.pair (Ty.int i64) Ty.unit))))))) p3)] 1)
noncomputable def Sp.S_56_90_0_0{R:Type}(K:List Int->Int->Int->(Int×Int×Int×Int×Int×List Int×Int×Unit)->Option R)(k:E_56_90_0_0->Option R)(p0:List Int)(p1 p2:Int)(p3:Int×Int×Int×Int×Int×List Int×Int×Unit):Option R:=
 bif decide (p2<p1)then gd (inB p2 (length p0)) (gd (p_79 (getD p0 (toNat p2) 0)) (bif !(v_79 (getD p0 (toNat p2) 0)).1 then k (E_56_90_0_0.e0 p2 p3)else K p0 p1 (wrap i64 (p2+1)) p3))else k (E_56_90_0_0.e1 p3)
noncomputable def Sp.L_56_90_0_0:Nat->List Int->Int->Int->(Int×Int×Int×Int×Int×List Int×Int×Unit)->Option E_56_90_0_0
 |0,_,_,_,_=>none
 |m+1,p0,p1,p2,p3=>S_56_90_0_0 (L_56_90_0_0 m) some p0 p1 p2 p3
noncomputable def Oa0(m:Nat)(a:T_56_90_0_0.E):Option E_56_90_0_0:=L_56_90_0_0 m a.1 a.2.1 a.2.2.1 a.2.2.2.1
noncomputable def Jc0{R:Type}:Orc R:=orL T_56_90_0_0 (Oa0 FU) Pf0
theorem Ws0{R:Type}:okF (R:=R) Nc0 2 (nf 90 0) Jc0:=lp0 T_56_90_0_0 Oa0 (fun R K k a=>S_56_90_0_0 (fun p0 p1 p2 p3=>K (p0,p1,p2,p3,())) k a.1 a.2.1 a.2.2.1 a.2.2.2.1) Pf0 (fun _ _ _=>by kernel_rfl) (fun _ _ _=>by
 unfold S_56_90_0_0
 repeat' first|apply gdN|apply Bb0|rfl) (ok0 _)
noncomputable def Is1{R:Type}:List CV->List Blk->(CV->List Blk->Option R)->Option R:=Ee0 Nc0 FU (ovr noO (evFn Nc0 fns FU 2)) (mkT (fB fns 90) [Jc0]) (fO fns 90)
theorem Eg1{R:Type}(args:List CV)(hp:List Blk)(k:CV->List Blk->Option R)(r:R)(h:Is1 args hp k=some r):evFn Nc0 fns FU 3 90 args hp k=some r:=runG Ah0 (os:=[Jc0]) ⟨Ws0,trivial⟩ h
noncomputable def Sz0{R:Type}:Nat->Option (List CV->List Blk->(CV->List Blk->Option R)->Option R):=fun f'=>bif Nat.beq f' 90 then some Is1 else none
theorem Yu0{R:Type}:Dl0 (R:=R) Sz0 (evFn Nc0 fns FU 3):=by
 intro f' g h args hp k r hg
 dsimp only[Sz0]at h
 by_cases h90:f'=90
 ·subst h90
  injection h with h
  subst h
  exact Bk0 0 (Eg1 _ _ _ _ hg)
 rw[Bm0 h90,cond_false]at h
 cases h
noncomputable def It1{R:Type}:List CV->List Blk->(CV->List Blk->Option R)->Option R:=Ee0 Nc0 FU (ovr Sz0 (evFn Nc0 fns FU 3)) (mkT (fB fns 62) []) (fO fns 62)
theorem Eh1{R:Type}(args:List CV)(hp:List Blk)(k:CV->List Blk->Option R)(r:R)(h:It1 args hp k=some r):evFn Nc0 fns FU 4 62 args hp k=some r:=runG Yu0 (os:=[]) trivial h
noncomputable def Bi1{R:Type}:Nat->Option (List CV->List Blk->(CV->List Blk->Option R)->Option R):=fun f'=>bif Nat.beq f' 62 then some It1 else none
theorem No0{R:Type}:Dl0 (R:=R) Bi1 (evFn Nc0 fns FU 4):=by
 intro f' g h args hp k r hg
 dsimp only[Bi1]at h
 by_cases h62:f'=62
 ·subst h62
  injection h with h
  subst h
  exact Bk0 0 (Eh1 _ _ _ _ hg)
 rw[Bm0 h62,cond_false]at h
 cases h
noncomputable def T_56_0:PS:=⟨94,[(4,.kc (.ptr 0 [])),(5,.kc (.clo 80 (.pair (.ptr 0 []) (.pure .unit PUnit.unit)))),(76,.hv (.slice (.int .i64))),(77,.hv (.int .i64)),(78,.hv (.int .i64))],[.mem (.kc (.whole 1)),.vec 41 (.int .u32)],0⟩
inductive Sp.E_56_0 where
 |e0 (p3:List Int)
noncomputable def Sp.B_56_0{R:Type}(r:Option E_56_0)(k0:List Int->Option R):Option R:=match r with
 |none=>none
 |some (.e0 p3)=>k0 p3
noncomputable def Rg1{R:Type}(k:Ex->St->Option R):E_56_0->Option R
 | .e0 p3=>k (Ex.exit 0) (sx 94 [(4,CV.ptr 0 [])] [Blk.mem (CV.whole 1),Blk.vec 41 (Ty.int u32) p3])
noncomputable def Sp.S_56_0{R:Type}(K:List Int->Int->Int->List Int->Option R)(k:E_56_0->Option R)(p0:List Int)(p1 p2:Int)(p3:List Int):Option R:=
 bif decide (p2<p1)then gd (inB p2 (length p0)) (gd (room (length p3+1) 4) (gd (room (length (p3++[wrap u32 (Int.fdiv (wrap i64 (getD p0 (toNat p2) (0:Int)+(1099511627776:Int))) 4294967296)])+1) 4) (K p0 p1 (wrap i64 (p2+1)) (p3++[wrap u32 (Int.fdiv (wrap i64 (getD p0 (toNat p2) (0:Int)+(1099511627776:Int))) 4294967296)]++[wrap u32 (Sp.andI i64 (wrap i64 (getD p0 (toNat p2) (0:Int)+(1099511627776:Int))) 4294967295)]))))else k (E_56_0.e0 p3)
noncomputable def Sp.L_56_0:Nat->List Int->Int->Int->List Int->Option E_56_0
 |0,_,_,_,_=>none
 |m+1,p0,p1,p2,p3=>S_56_0 (L_56_0 m) some p0 p1 p2 p3
noncomputable def Pn1(m:Nat)(a:T_56_0.E):Option E_56_0:=L_56_0 m a.1 a.2.1 a.2.2.1 a.2.2.2.1
noncomputable def Ti1{R:Type}:Orc R:=orL T_56_0 (Pn1 FU) Rg1
theorem Xu1{R:Type}:okF (R:=R) Nc0 4 (nf 56 0) Ti1:=lp No0 (os:=[]) trivial T_56_0 Pn1 (fun R K k a=>S_56_0 (fun p0 p1 p2 p3=>K (p0,p1,p2,p3,())) k a.1 a.2.1 a.2.2.1 a.2.2.2.1) Rg1 (fun _=>rfl) (fun _ _=>rfl) (fun k K a=>by kernel_rfl) (fun Y K a=>by
 unfold S_56_0
 repeat' first|apply gdN|apply Bb0|rfl) (ok0 _)
noncomputable def F_56(a0:(Int×(Int×(Int×(Int×(Int×((List Int)×(Int×Unit)))))))):Option ((List Int)×Int×Unit) :=
 gd (p_77 (a0.1) 31) (bif !(v_77 (a0.1) 31).1 then some ([],1,PUnit.unit)else gd (p_77 (a0.2.2.1) 2) (bif !(v_77 (a0.2.2.1) 2).1 then some ([],1,PUnit.unit)else gd (p_77 (a0.2.2.2.1) 254) (bif !(v_77 (a0.2.2.2.1) 254).1 then some ([],1,PUnit.unit)else gd (p_77 (a0.2.2.2.2.1) 255) (bif !(v_77 (a0.2.2.2.2.1) 255).1 then some ([],1,PUnit.unit)else gd (p_77 (a0.2.2.2.2.2.2.1) 1073741824) (bif !(v_77 (a0.2.2.2.2.2.2.1) 1073741824).1 then some ([],1,PUnit.unit)else bif decide ((↑(length (a0.2.2.2.2.2.1)):Int)>8)then some ([],1,PUnit.unit)else B_56_90_0_0 (L_56_90_0_0 4611686018427387904 (a0.2.2.2.2.2.1) (↑(length (a0.2.2.2.2.2.1)):Int) 0 a0) (fun y13 y14=>bif decide (y13>=0)then some ([],1,PUnit.unit)else B_56_0 (L_56_0 4611686018427387904 (y14.2.2.2.2.2.1) (↑(length (y14.2.2.2.2.2.1)):Int) 0 ([wrap u32 (Sp.orI i64 (Sp.orI i64 (Sp.orI i64 (Sp.andI i64 (y14.1) 22) (wrap i64 (y14.2.2.1*256))) (wrap i64 (y14.2.2.2.1*65536))) (wrap i64 (y14.2.2.2.2.1*16777216)))]++[wrap u32 (y14.2.2.2.2.2.2.1)]++[wrap u32 (↑(length (y14.2.2.2.2.2.1)):Int)])) fun y15=>some (y15,0,PUnit.unit)) fun y16=>B_56_0 (L_56_0 4611686018427387904 (y16.2.2.2.2.2.1) (↑(length (y16.2.2.2.2.2.1)):Int) 0 ([wrap u32 (Sp.orI i64 (Sp.orI i64 (Sp.orI i64 (Sp.andI i64 (y16.1) 22) (wrap i64 (y16.2.2.1*256))) (wrap i64 (y16.2.2.2.1*65536))) (wrap i64 (y16.2.2.2.2.1*16777216)))]++[wrap u32 (y16.2.2.2.2.2.2.1)]++[wrap u32 (↑(length (y16.2.2.2.2.2.1)):Int)])) fun y17=>some (y17,0,PUnit.unit))))))
noncomputable def Sp.p_56(a0:(Int×(Int×(Int×(Int×(Int×((List Int)×(Int×Unit)))))))):Bool:=(F_56 a0).isSome
noncomputable def Sp.v_56(a0:(Int×(Int×(Int×(Int×(Int×((List Int)×(Int×Unit)))))))):(List Int)×Int×Unit:=(F_56 a0).getD (dfH R_56)
noncomputable def s_56:Summ:=shS A_56 R_56 (fun x=>p_56 x.1) (fun x=>v_56 x.1)
theorem Kv2(a0:(Int×(Int×(Int×(Int×(Int×((List Int)×(Int×Unit)))))))){y:(List Int)×Int×Unit}(h:F_56 a0=some y):p_56 a0=true/\v_56 a0=y:=pvG h
theorem Ct2(x:HDen A_56)(y:HDen R_56)(h:F_56 x.1=some y):rnF Nc0 5 56 A_56 R_56 x y:=runG No0 (os:=[Ti1]) ⟨Xu1,trivial⟩ (Eq.trans (by kernel_rfl) h)
end
noncomputable section
abbrev A_32:List Ty:=[(.slice (.int .u32))]
abbrev R_32:List Ty:=[(.pair (.int .i64) (.pair (.int .i64) (.pair (.int .i64) (.pair (.int .i64) (.pair (.int .i64) (.pair (.slice (.int .i64)) (.pair (.int .i64) .unit))))))),(.int .i64)]
noncomputable def Bq2:Nat->Option Summ:=smL [(56,s_56)]
noncomputable def T_32_0:PS:=⟨100,[(0,.hv (.slice (.int .u32))),(2,.kc (.ptr 0 [])),(5,.kc (.ptr 2 [])),(6,.hv (.int .i64))],[.mem (.pr (.hv (.int .i64)) (.pr (.hv (.int .i64)) (.pr (.hv (.int .i64)) (.pr (.hv (.int .i64)) (.pr (.hv (.int .i64)) (.pr (.kc (.whole 1)) (.hv (.pair (.int .i64) .unit)))))))),.vec 3 (.int .i64),.mem (.pr (.hv (.int .i64)) (.pr (.hv (.int .i64)) (.pr (.hv (.int .i64)) (.pr (.hv (.int .i64)) (.pr (.hv (.int .i64)) (.pr (.kc (.whole 3)) (.hv (.pair (.int .i64) .unit)))))))),.vec 3 (.int .i64)],0⟩
inductive Sp.E_32_0 where
 |e0
 |e1 (p2 p3 p4 p5 p6:Int) (p7:Int×Unit) (p8:List Int) (p9 p10 p11 p12 p13:Int) (p14:Int×Unit) (p15:List Int)
noncomputable def Sp.B_32_0{R:Type}(r:Option E_32_0)(k0:Option R)(k1:Int->Int->Int->Int->Int->(Int×Unit)->List Int->Int->Int->Int->Int->Int->(Int×Unit)->List Int->Option R):Option R:=match r with
 |none=>none
 |some (.e0)=>k0
 |some (.e1 p2 p3 p4 p5 p6 p7 p8 p9 p10 p11 p12 p13 p14 p15)=>k1 p2 p3 p4 p5 p6 p7 p8 p9 p10 p11 p12 p13 p14 p15
noncomputable def Sa1{R:Type}(k:Ex->St->Option R):E_32_0->Option R
 | .e0=>k Ex.ret (sx 100 [(2,CV.ptr 0 []),(3,CV.int i64 3)] [Blk.mem (CV.pair (CV.int i64 0) (CV.pair (CV.int i64 0) (CV.pair (CV.int i64 0) (CV.pair (CV.int i64 0) (CV.pair (CV.int i64 0) (CV.pair (CV.whole 1) (CV.pure (Ty.pair (Ty.int i64) Ty.unit) ((0,PUnit.unit):(Int×Unit))))))))),Blk.vec 3 (Ty.int i64) []])
 | .e1 p2 p3 p4 p5 p6 p7 p8 p9 p10 p11 p12 p13 p14 p15=>k (Ex.exit 0) (sx 100 [(2,CV.ptr 0 []),(5,CV.ptr 2 [])] [Blk.mem (CV.pair (CV.int i64 p2) (CV.pair (CV.int i64 p3) (CV.pair (CV.int i64 p4) (CV.pair (CV.int i64 p5) (CV.pair (CV.int i64 p6) (CV.pair (CV.whole 1) (CV.pure (Ty.pair (Ty.int i64) Ty.unit) p7))))))),Blk.vec 3 (Ty.int i64) p8,Blk.mem (CV.pair (CV.int i64 p9) (CV.pair (CV.int i64 p10) (CV.pair (CV.int i64 p11) (CV.pair (CV.int i64 p12) (CV.pair (CV.int i64 p13) (CV.pair (CV.whole 3) (CV.pure (Ty.pair (Ty.int i64) Ty.unit) p14))))))),Blk.vec 3 (Ty.int i64) p15])
noncomputable def Sp.S_32_0{R:Type}(K:List Int->Int->Int->Int->Int->Int->Int->(Int×Unit)->List Int->Int->Int->Int->Int->Int->(Int×Unit)->List Int->Option R)(k:E_32_0->Option R)(p0:List Int)(p1 p2 p3 p4 p5 p6:Int)(p7:Int×Unit)(p8:List Int)(p9 p10 p11 p12 p13:Int)(p14:Int×Unit)(p15:List Int):Option R:=
 bif decide (p1<(↑(length p0):Int))then gd (inB p1 (length p0)) (bif decide (getD p0 (toNat p1) (0:Int)>(512:Int))then k (E_32_0.e0)else gd (inB p1 (length p0)) (gd (inB (wrap i64 (p1+1)) (length p0)) (gd (room (length p15+1) 8) (K p0 (wrap i64 (p1+2)) p2 p3 p4 p5 p6 p7 p8 p9 p10 p11 p12 p13 p14 (p15++[wrap i64 (wrap i64 (wrap i64 (wrap i64 (getD p0 (toNat p1) 0)*4294967296)+wrap i64 (getD p0 (toNat (wrap i64 (p1+1))) 0))-1099511627776)])))))else k (E_32_0.e1 p2 p3 p4 p5 p6 p7 p8 p9 p10 p11 p12 p13 p14 p15)
noncomputable def Sp.L_32_0:Nat->List Int->Int->Int->Int->Int->Int->Int->(Int×Unit)->List Int->Int->Int->Int->Int->Int->(Int×Unit)->List Int->Option E_32_0
 |0,_,_,_,_,_,_,_,_,_,_,_,_,_,_,_,_=>none
 |m+1,p0,p1,p2,p3,p4,p5,p6,p7,p8,p9,p10,p11,p12,p13,p14,p15=>S_32_0 (L_32_0 m) some p0 p1 p2 p3 p4 p5 p6 p7 p8 p9 p10 p11 p12 p13 p14 p15
noncomputable def Pu1(m:Nat)(a:T_32_0.E):Option E_32_0:=L_32_0 m a.1 a.2.1 a.2.2.1 a.2.2.2.1 a.2.2.2.2.1 a.2.2.2.2.2.1 a.2.2.2.2.2.2.1 a.2.2.2.2.2.2.2.1 a.2.2.2.2.2.2.2.2.1 a.2.2.2.2.2.2.2.2.2.1 a.2.2.2.2.2.2.2.2.2.2.1 a.2.2.2.2.2.2.2.2.2.2.2.1 a.2.2.2.2.2.2.2.2.2.2.2.2.1 a.2.2.2.2.2.2.2.2.2.2.2.2.2.1 a.2.2.2.2.2.2.2.2.2.2.2.2.2.2.1 a.2.2.2.2.2.2.2.2.2.2.2.2.2.2.2.1
noncomputable def Uc1{R:Type}:Orc R:=orL T_32_0 (Pu1 FU) Sa1
theorem Yo1{R:Type}:okF (R:=R) Bq2 0 (nf 32 0) Uc1:=lp0 T_32_0 Pu1 (fun R K k a=>S_32_0 (fun p0 p1 p2 p3 p4 p5 p6 p7 p8 p9 p10 p11 p12 p13 p14 p15=>K (p0,p1,p2,p3,p4,p5,p6,p7,p8,p9,p10,p11,p12,p13,p14,p15,())) k a.1 a.2.1 a.2.2.1 a.2.2.2.1 a.2.2.2.2.1 a.2.2.2.2.2.1 a.2.2.2.2.2.2.1 a.2.2.2.2.2.2.2.1 a.2.2.2.2.2.2.2.2.1 a.2.2.2.2.2.2.2.2.2.1 a.2.2.2.2.2.2.2.2.2.2.1 a.2.2.2.2.2.2.2.2.2.2.2.1 a.2.2.2.2.2.2.2.2.2.2.2.2.1 a.2.2.2.2.2.2.2.2.2.2.2.2.2.1 a.2.2.2.2.2.2.2.2.2.2.2.2.2.2.1 a.2.2.2.2.2.2.2.2.2.2.2.2.2.2.2.1) Sa1 (fun _ _ _=>by kernel_rfl) (fun _ _ _=>by
 unfold S_32_0
 repeat' first|apply gdN|apply Bb0|rfl) (ok0 _)
noncomputable def F_32(a0:(List Int)):Option ((Int×(Int×(Int×(Int×(Int×((List Int)×(Int×Unit)))))))×Int×Unit) :=
 bif decide ((↑(length a0):Int)<3)then some ((0,0,0,0,0,[],0,PUnit.unit),3,PUnit.unit)else gd (inB 2 (length a0)) (bif decide (getD a0 2 (0:Int)>(8:Int))then some ((0,0,0,0,0,[],0,PUnit.unit),3,PUnit.unit)else gd (inB 2 (length a0)) (bif(↑(length a0):Int)!=wrap i64 (3+wrap i64 (2*wrap i64 (getD a0 2 0)))then some ((0,0,0,0,0,[],0,PUnit.unit),3,PUnit.unit)else gd (inB 1 (length a0)) (bif decide (getD a0 1 (0:Int)>(1073741824:Int))then some ((0,0,0,0,0,[],0,PUnit.unit),3,PUnit.unit)else gd (inB 0 (length a0)) (gd (inB 1 (length a0)) (bif Sp.andnI i64 (Sp.andI i64 (wrap i64 (getD a0 0 0)) 255) (22:Int)!=(0:Int)then some ((0,0,0,0,0,[],0,PUnit.unit),3,PUnit.unit)else B_32_0 (L_32_0 4611686018427387904 a0 3 0 0 0 0 0 (0,PUnit.unit) [] (Sp.andI i64 (wrap i64 (getD a0 0 0)) 255) 0 (Sp.andI i64 (Int.fdiv (wrap i64 (getD a0 0 0)) 256) 255) (Sp.andI i64 (Int.fdiv (wrap i64 (getD a0 0 0)) 65536) 255) (Int.fdiv (wrap i64 (getD a0 0 0)) 16777216) (wrap i64 (getD a0 1 0),PUnit.unit) []) (some ((0,0,0,0,0,[],0,PUnit.unit),3,PUnit.unit)) fun y18 y19 y20 y21 y22 y23 y24 y25 y26 y27 y28 y29 y30 y31=>gd (p_56 (y25,y26,y27,y28,y29,y31,y30)) (bif(v_56 (y25,y26,y27,y28,y29,y31,y30)).2.1 !=0 then some ((0,0,0,0,0,[],0,PUnit.unit),3,PUnit.unit)else some ((y25,y26,y27,y28,y29,y31,y30),0,PUnit.unit)))))))
noncomputable def Sp.p_32(a0:(List Int)):Bool:=(F_32 a0).isSome
noncomputable def Sp.v_32(a0:(List Int)):(Int×(Int×(Int×(Int×(Int×((List Int)×(Int×Unit)))))))×Int×Unit:=(F_32 a0).getD (dfH R_32)
noncomputable def s_32:Summ:=shS A_32 R_32 (fun x=>p_32 x.1) (fun x=>v_32 x.1)
theorem Ll2(a0:(List Int)){y:(Int×(Int×(Int×(Int×(Int×((List Int)×(Int×Unit)))))))×Int×Unit}(h:F_32 a0=some y):p_32 a0=true/\v_32 a0=y:=pvG h
theorem Dl2(x:HDen A_32)(y:HDen R_32)(h:F_32 x.1=some y):rnF Bq2 1 32 A_32 R_32 x y:=runG Ah0 (os:=[Uc1]) ⟨Yo1,trivial⟩ (Eq.trans (by kernel_rfl) h)
end
noncomputable section
abbrev A_33:List Ty:=[(.pair (.int .i64) (.pair (.int .i64) (.pair (.int .i64) (.pair (.int .i64) (.pair (.int .i64) (.pair (.slice (.int .i64)) (.pair (.int .i64) .unit)))))))]
abbrev R_33:List Ty:=[.bool]
noncomputable def Jg2:Nat->Option Summ:=smL []
noncomputable def F_33(a0:(Int×(Int×(Int×(Int×(Int×((List Int)×(Int×Unit)))))))):Option (Bool×Unit) :=
 some (Sp.andI i64 (a0.1) (6:Int)!=(0:Int),PUnit.unit)
noncomputable def Sp.p_33(a0:(Int×(Int×(Int×(Int×(Int×((List Int)×(Int×Unit)))))))):Bool:=(F_33 a0).isSome
noncomputable def Sp.v_33(a0:(Int×(Int×(Int×(Int×(Int×((List Int)×(Int×Unit)))))))):Bool×Unit:=(F_33 a0).getD (dfH R_33)
noncomputable def s_33:Summ:=shN A_33 R_33 (fun x=>p_33 x.1) (fun x=>v_33 x.1)
theorem Lk2(a0:(Int×(Int×(Int×(Int×(Int×((List Int)×(Int×Unit)))))))){y:Bool×Unit}(h:F_33 a0=some y):p_33 a0=true/\v_33 a0=y:=pvG h
theorem Dk2(x:HDen A_33)(y:HDen R_33)(h:F_33 x.1=some y):rnF Jg2 1 33 A_33 R_33 x y:=runG Ah0 (os:=[]) trivial (Eq.trans (by kernel_rfl) h)
end
noncomputable section
abbrev Nl1:Type:=List (Int×Int×Int×Int×Int×Int×Bool×Int×Unit)
abbrev Nk1:Type:=List (Int×Int×Int×Int×Int×List Int×Int×Unit)
abbrev Hb2:Ty:=(.slice (.pair (.int .i64) (.pair (.int .i64) (.pair (.int .i64) (.pair (.int .i64) (.pair (.int .i64) (.pair (.int .i64) (.pair .bool (.pair (.int .i64) .unit)))))))))
abbrev Ha2:Ty:=(.pair (.int .i64) (.pair (.int .i64) (.pair (.int .i64) (.pair (.int .i64) (.pair (.int .i64) (.pair (.slice (.int .i64)) (.pair (.int .i64) .unit)))))))
abbrev Nj1:Type:=Int×Bool×Unit
abbrev A_9:List Ty:=[(.pair (.pair (.slice (.int .u32)) (.pair (.slice (.int .i64)) (.pair (.int .i64) .unit))) (.pair (.int .i64) (.pair (.int .i64) .unit))),(.slice (.pair (.int .i64) (.pair (.int .i64) (.pair (.int .i64) (.pair (.int .i64) (.pair (.int .i64) (.pair (.int .i64) (.pair .bool (.pair (.int .i64) .unit)))))))))]
abbrev R_9:List Ty:=[(.pair (.slice (.pair (.int .i64) (.pair (.int .i64) (.pair (.int .i64) (.pair (.int .i64) (.pair (.int .i64) (.pair (.int .i64) (.pair .bool (.pair (.int .i64) .unit))))))))) (.pair (.slice (.pair (.int .i64) (.pair (.int .i64) (.pair (.int .i64) (.pair (.int .i64) (.pair (.int .i64) (.pair (.slice (.int .i64)) (.pair (.int .i64) .unit)))))))) (.pair (.int .i64) (.pair .bool .unit)))),(.int .i64)]
noncomputable def sm_9:Nat->Option Summ:=smL [(6,s_6),(10,s_10),(20,s_20),(30,s_30),(31,s_31),(32,s_32),(33,s_33)]
noncomputable def T_9_0:PS:=⟨86,[(2,.kc (.ptr 0 [])),(4,.kc (.ptr 1 [])),(6,.kc (.ptr 4 [])),(29,.hv Hb2),(30,.hv (.int .i64)),(31,.hv (.int .i64))],[.mem (.hv (.pair (.pair (.slice (.int .u32)) (.pair (.slice (.int .i64)) (.pair (.int .i64) .unit))) (.pair (.int .i64) (.pair (.int .i64) .unit)))),.mem (.pr (.kc (.whole 2)) (.pr (.kc (.whole 3)) (.hv (.pair (.int .i64) (.pair .bool .unit))))),.vec 60 (.pair (.int .i64) (.pair (.int .i64) (.pair (.int .i64) (.pair (.int .i64) (.pair (.int .i64) (.pair (.int .i64) (.pair .bool (.pair (.int .i64) .unit)))))))),.vec 79 Ha2,.mem (.pr (.hv Hb2) (.pr (.kc (.whole 5)) (.hv (.pair (.int .i64) (.pair .bool .unit))))),.vec 79 Ha2],0⟩
inductive Sp.E_9_0 where
 |e0 (p4:Nj1) (p5:Nl1) (p6:Nk1) (p7:Nl1) (p8:Nj1) (p9:Nk1)
noncomputable def Sp.B_9_0{R:Type}(r:Option E_9_0)(k0:Nj1->Nl1->Nk1->Nl1->Nj1->Nk1->Option R):Option R:=match r with
 |none=>none
 |some (.e0 p4 p5 p6 p7 p8 p9)=>k0 p4 p5 p6 p7 p8 p9
noncomputable def Hh2{R:Type}(k:Ex->St->Option R):E_9_0->Option R
 | .e0 p4 p5 p6 p7 p8 p9=>k (Ex.exit 0) (sx 86 [(4,CV.ptr 0 []),(6,CV.ptr 3 [])] [Blk.mem (CV.pair (CV.whole 1) (CV.pair (CV.whole 2) (CV.pure (Ty.pair (Ty.int i64) (Ty.pair Ty.bool Ty.unit)) p4))),Blk.vec 60 (Ty.pair (Ty.int i64) (Ty.pair (Ty.int i64) (Ty.pair (Ty.int i64) (Ty.pair (Ty.int i64) (Ty.pair (Ty.int i64) (Ty.pair (Ty.int i64) (Ty.pair Ty.bool (Ty.pair (Ty.int i64) Ty.unit)))))))) p5,Blk.vec 79 (Ty.pair (Ty.int i64) (Ty.pair (Ty.int i64) (Ty.pair (Ty.int i64) (Ty.pair (Ty.int i64) (Ty.pair (Ty.int i64) (Ty.pair (Ty.slice (Ty.int i64)) (Ty.pair (Ty.int i64) Ty.unit))))))) p6,Blk.mem (CV.pair (CV.pure (Ty.slice (Ty.pair (Ty.int i64) (Ty.pair (Ty.int i64) (Ty.pair (Ty.int i64) (Ty.pair (Ty.int i64) (Ty.pair (Ty.int i64) (Ty.pair (Ty.int i64) (Ty.pair Ty.bool (Ty.pair (Ty.int i64) Ty.unit))))))))) p7) (CV.pair (CV.whole 4) (CV.pure (Ty.pair (Ty.int i64) (Ty.pair Ty.bool Ty.unit)) p8))),Blk.vec 79 (Ty.pair (Ty.int i64) (Ty.pair (Ty.int i64) (Ty.pair (Ty.int i64) (Ty.pair (Ty.int i64) (Ty.pair (Ty.int i64) (Ty.pair (Ty.slice (Ty.int i64)) (Ty.pair (Ty.int i64) Ty.unit))))))) p9])
noncomputable def Sp.S_9_0{R:Type}(K:(List (Int×Int×Int×Int×Int×Int×Bool×Int×Unit))->Int->Int->((List Int×List Int×Int×Unit)×Int×Int×Unit)->(Int×Bool×Unit)->(List (Int×Int×Int×Int×Int×Int×Bool×Int×Unit))->(List (Int×Int×Int×Int×Int×List Int×Int×Unit))->(List (Int×Int×Int×Int×Int×Int×Bool×Int×Unit))->(Int×Bool×Unit)->(List (Int×Int×Int×Int×Int×List Int×Int×Unit))->Option R)(k:E_9_0->Option R)(p0:List (Int×Int×Int×Int×Int×Int×Bool×Int×Unit))(p1 p2:Int)(p3:(List Int×List Int×Int×Unit)×Int×Int×Unit)(p4:Int×Bool×Unit)(p5:List (Int×Int×Int×Int×Int×Int×Bool×Int×Unit))(p6:List (Int×Int×Int×Int×Int×List Int×Int×Unit))(p7:List (Int×Int×Int×Int×Int×Int×Bool×Int×Unit))(p8:Int×Bool×Unit)(p9:List (Int×Int×Int×Int×Int×List Int×Int×Unit)):Option R:=
 bif decide (p2<p1)then gd (inB p2 (length p0)) (gd (p_31 p3 p2) (bif(v_31 p3 p2).2.1 !=0 then K p0 p1 (wrap i64 (p2+1)) p3 p4 p5 p6 p7 p8 p9 else bif decide ((↑(length ((v_31 p3 p2).1)):Int)<1)then K p0 p1 (wrap i64 (p2+1)) p3 p4 p5 p6 p7 p8 p9 else gd (inB 0 (length ((v_31 p3 p2).1))) (bif wrap i64 (getD ((v_31 p3 p2).1) 0 0)!=(getD p0 (toNat p2) Zd0).1 then K p0 p1 (wrap i64 (p2+1)) p3 p4 p5 p6 p7 p8 p9 else gd (sl3 1 (↑(length ((v_31 p3 p2).1)):Int) (↑(length ((v_31 p3 p2).1)):Int)) (gd (p_32 (drop 1 ((v_31 p3 p2).1))) (bif(v_32 (drop 1 ((v_31 p3 p2).1))).2.1 !=0 then K p0 p1 (wrap i64 (p2+1)) p3 p4 p5 p6 p7 p8 p9 else gd (p_33 ((v_32 (drop 1 ((v_31 p3 p2).1))).1)) (bif !(v_33 ((v_32 (drop 1 ((v_31 p3 p2).1))).1)).1 then K p0 p1 (wrap i64 (p2+1)) p3 p4 p5 p6 p7 p8 p9 else gd (inB p2 (length p9)) (gd (decide (toNat p2<length p9)&&true&&true) (gd (p_10 (p7,List.set p9 (toNat p2) ((v_32 (drop 1 ((v_31 p3 p2).1))).1),p8)) (bif !(v_10 (p7,List.set p9 (toNat p2) ((v_32 (drop 1 ((v_31 p3 p2).1))).1),p8)).1 then gd (inB p2 (length (List.set p9 (toNat p2) ((v_32 (drop 1 ((v_31 p3 p2).1))).1)))) (gd (decide (toNat p2<length (List.set p9 (toNat p2) ((v_32 (drop 1 ((v_31 p3 p2).1))).1)))&&true&&true) (K p0 p1 (wrap i64 (p2+1)) p3 p4 p5 p6 p7 p8 (List.set (List.set p9 (toNat p2) ((v_32 (drop 1 ((v_31 p3 p2).1))).1)) (toNat p2) (0,0,0,0,0,[],0,PUnit.unit))))else K p0 p1 (wrap i64 (p2+1)) p3 p4 p5 p6 p7 p8 (List.set p9 (toNat p2) ((v_32 (drop 1 ((v_31 p3 p2).1))).1)))))))))))else k (E_9_0.e0 p4 p5 p6 p7 p8 p9)
noncomputable def Sp.L_9_0:Nat->(List (Int×Int×Int×Int×Int×Int×Bool×Int×Unit))->Int->Int->((List Int×List Int×Int×Unit)×Int×Int×Unit)->(Int×Bool×Unit)->(List (Int×Int×Int×Int×Int×Int×Bool×Int×Unit))->(List (Int×Int×Int×Int×Int×List Int×Int×Unit))->(List (Int×Int×Int×Int×Int×Int×Bool×Int×Unit))->(Int×Bool×Unit)->(List (Int×Int×Int×Int×Int×List Int×Int×Unit))->Option E_9_0
 |0,_,_,_,_,_,_,_,_,_,_=>none
 |m+1,p0,p1,p2,p3,p4,p5,p6,p7,p8,p9=>S_9_0 (L_9_0 m) some p0 p1 p2 p3 p4 p5 p6 p7 p8 p9
noncomputable def Fa2(m:Nat)(a:T_9_0.E):Option E_9_0:=L_9_0 m a.1 a.2.1 a.2.2.1 a.2.2.2.1 a.2.2.2.2.1 a.2.2.2.2.2.1 a.2.2.2.2.2.2.1 a.2.2.2.2.2.2.2.1 a.2.2.2.2.2.2.2.2.1 a.2.2.2.2.2.2.2.2.2.1
noncomputable def Hn2{R:Type}:Orc R:=orL T_9_0 (Fa2 FU) Hh2
theorem Hr2{R:Type}:okF (R:=R) sm_9 0 (nf 9 0) Hn2:=lp0 T_9_0 Fa2 (fun R K k a=>S_9_0 (fun p0 p1 p2 p3 p4 p5 p6 p7 p8 p9=>K (p0,p1,p2,p3,p4,p5,p6,p7,p8,p9,())) k a.1 a.2.1 a.2.2.1 a.2.2.2.1 a.2.2.2.2.1 a.2.2.2.2.2.1 a.2.2.2.2.2.2.1 a.2.2.2.2.2.2.2.1 a.2.2.2.2.2.2.2.2.1 a.2.2.2.2.2.2.2.2.2.1) Hh2 (fun _ _ _=>by kernel_rfl) (fun _ _ _=>by
 unfold S_9_0
 repeat' first|apply gdN|apply Bb0|rfl) (ok0 _)
noncomputable def F_9(a0:(((List Int)×((List Int)×(Int×Unit)))×(Int×(Int×Unit))))(a1:(List (Int×(Int×(Int×(Int×(Int×(Int×(Bool×(Int×Unit)))))))))):Option (((List (Int×(Int×(Int×(Int×(Int×(Int×(Bool×(Int×Unit)))))))))×((List (Int×(Int×(Int×(Int×(Int×((List Int)×(Int×Unit))))))))×(Int×(Bool×Unit))))×Int×Unit) :=
 gd (p_20 a0) (bif !(v_20 a0).1 then some (([],[],0,false,PUnit.unit),1,PUnit.unit)else gd (p_6 a1) (bif(v_6 a1).2.1 !=0 then some (([],[],0,false,PUnit.unit),(v_6 a1).2.1,PUnit.unit)else gd (p_30 a0) (B_9_0 (L_9_0 4611686018427387904 a1 (↑(length a1):Int) 0 a0 (0,false,PUnit.unit) [] [] ((v_6 a1).1.1) ((v_30 a0).1,(v_6 a1).1.2.2.2) ((v_6 a1).1.2.1)) fun y6 y7 y8 y9 y10 y11=>some ((y9,y11,y10),0,PUnit.unit))))
noncomputable def Sp.p_9(a0:(((List Int)×((List Int)×(Int×Unit)))×(Int×(Int×Unit))))(a1:(List (Int×(Int×(Int×(Int×(Int×(Int×(Bool×(Int×Unit)))))))))):Bool:=(F_9 a0 a1).isSome
noncomputable def Sp.v_9(a0:(((List Int)×((List Int)×(Int×Unit)))×(Int×(Int×Unit))))(a1:(List (Int×(Int×(Int×(Int×(Int×(Int×(Bool×(Int×Unit)))))))))):((List (Int×(Int×(Int×(Int×(Int×(Int×(Bool×(Int×Unit)))))))))×((List (Int×(Int×(Int×(Int×(Int×((List Int)×(Int×Unit))))))))×(Int×(Bool×Unit))))×Int×Unit:=(F_9 a0 a1).getD (dfH R_9)
noncomputable def s_9:Summ:=shS A_9 R_9 (fun x=>p_9 x.1 x.2.1) (fun x=>v_9 x.1 x.2.1)
theorem pv_9(a0:(((List Int)×((List Int)×(Int×Unit)))×(Int×(Int×Unit))))(a1:(List (Int×(Int×(Int×(Int×(Int×(Int×(Bool×(Int×Unit)))))))))){y:((List (Int×(Int×(Int×(Int×(Int×(Int×(Bool×(Int×Unit)))))))))×((List (Int×(Int×(Int×(Int×(Int×((List Int)×(Int×Unit))))))))×(Int×(Bool×Unit))))×Int×Unit}(h:F_9 a0 a1=some y):p_9 a0 a1=true/\v_9 a0 a1=y:=pvG h
theorem Jp2(x:HDen A_9)(y:HDen R_9)(h:F_9 x.1 x.2.1=some y):rnF sm_9 1 9 A_9 R_9 x y:=runG Ah0 (os:=[Hn2]) ⟨Hr2,trivial⟩ (Eq.trans (by kernel_rfl) h)
end
noncomputable section
abbrev A_47:List Ty:=[(.pair (.int .i64) (.pair (.int .u32) .unit))]
abbrev R_47:List Ty:=[.bool]
noncomputable def Jb2:Nat->Option Summ:=smL []
noncomputable def F_47(a0:(Int×(Int×Unit))):Option (Bool×Unit) :=
 bif decide (a0.1>=0)then some (decide (a0.1<=1099511627776),PUnit.unit)else some (false,PUnit.unit)
noncomputable def Sp.p_47(a0:(Int×(Int×Unit))):Bool:=(F_47 a0).isSome
noncomputable def Sp.v_47(a0:(Int×(Int×Unit))):Bool×Unit:=(F_47 a0).getD (dfH R_47)
noncomputable def s_47:Summ:=shN A_47 R_47 (fun x=>p_47 x.1) (fun x=>v_47 x.1)
theorem Lc2(a0:(Int×(Int×Unit))){y:Bool×Unit}(h:F_47 a0=some y):p_47 a0=true/\v_47 a0=y:=pvG h
theorem Da2(x:HDen A_47)(y:HDen R_47)(h:F_47 x.1=some y):rnF Jb2 1 47 A_47 R_47 x y:=runG Ah0 (os:=[]) trivial (Eq.trans (by kernel_rfl) h)
end
noncomputable section
abbrev A_48:List Ty:=[(.pair (.pair (.slice (.int .u32)) (.pair (.slice (.int .i64)) (.pair (.int .i64) .unit))) (.pair (.int .i64) (.pair (.int .i64) .unit))),(.int .i64),(.int .i64)]
abbrev R_48:List Ty:=[(.slice (.pair .bool (.pair (.int .i64) (.pair (.int .u32) .unit)))),.bool]
noncomputable def Bp2:Nat->Option Summ:=smL []
noncomputable def T_48_0:PS:=⟨32,[(2,.hv (.int .i64)),(3,.kc (.ptr 0 [])),(8,.kc (.whole 1)),(9,.hv (.int .i64))],[.mem (.hv (.pair (.pair (.slice (.int .u32)) (.pair (.slice (.int .i64)) (.pair (.int .i64) .unit))) (.pair (.int .i64) (.pair (.int .i64) .unit)))),.vec 136 (.pair .bool (.pair (.int .i64) (.pair (.int .u32) .unit)))],0⟩
inductive Sp.E_48_0 where
 |e0
 |e1 (p3:List (Bool×Int×Int×Unit))
noncomputable def Sp.B_48_0{R:Type}(r:Option E_48_0)(k0:Option R)(k1:(List (Bool×Int×Int×Unit))->Option R):Option R:=match r with
 |none=>none
 |some (.e0)=>k0
 |some (.e1 p3)=>k1 p3
noncomputable def Rk1{R:Type}(k:Ex->St->Option R):E_48_0->Option R
 | .e0=>k Ex.ret (sx 32 [(6,CV.whole 0),(7,CV.bool false)] [Blk.vec 136 (Ty.pair Ty.bool (Ty.pair (Ty.int i64) (Ty.pair (Ty.int u32) Ty.unit))) []])
 | .e1 p3=>k (Ex.exit 0) (sx 32 [(8,CV.whole 0)] [Blk.vec 136 (Ty.pair Ty.bool (Ty.pair (Ty.int i64) (Ty.pair (Ty.int u32) Ty.unit))) p3])
noncomputable def Sp.S_48_0{R:Type}(K:Int->Int->((List Int×List Int×Int×Unit)×Int×Int×Unit)->(List (Bool×Int×Int×Unit))->Option R)(k:E_48_0->Option R)(p0 p1:Int)(p2:(List Int×List Int×Int×Unit)×Int×Int×Unit)(p3:List (Bool×Int×Int×Unit)):Option R:=
 bif decide (p1<p0)then gd (inB p1 (length (p2.1.2.1))) (bif decide (getD (p2.1.2.1) (toNat p1) 0>=p2.1.2.2.1)then k (E_48_0.e0)else gd (room (length p3+1) 24) (K p0 (wrap i64 (p1+1)) p2 (p3++[(true,p1,0,PUnit.unit)])))else k (E_48_0.e1 p3)
noncomputable def Sp.L_48_0:Nat->Int->Int->((List Int×List Int×Int×Unit)×Int×Int×Unit)->(List (Bool×Int×Int×Unit))->Option E_48_0
 |0,_,_,_,_=>none
 |m+1,p0,p1,p2,p3=>S_48_0 (L_48_0 m) some p0 p1 p2 p3
noncomputable def Pq1(m:Nat)(a:T_48_0.E):Option E_48_0:=L_48_0 m a.1 a.2.1 a.2.2.1 a.2.2.2.1
noncomputable def Tm1{R:Type}:Orc R:=orL T_48_0 (Pq1 FU) Rk1
theorem Xy1{R:Type}:okF (R:=R) Bp2 0 (nf 48 0) Tm1:=lp0 T_48_0 Pq1 (fun R K k a=>S_48_0 (fun p0 p1 p2 p3=>K (p0,p1,p2,p3,())) k a.1 a.2.1 a.2.2.1 a.2.2.2.1) Rk1 (fun _ _ _=>by kernel_rfl) (fun _ _ _=>by
 unfold S_48_0
 repeat' first|apply gdN|apply Bb0|rfl) (ok0 _)
noncomputable def F_48(a0:(((List Int)×((List Int)×(Int×Unit)))×(Int×(Int×Unit))))(a1 a2:Int):Option ((List (Bool×(Int×(Int×Unit))))×Bool×Unit) :=
 B_48_0 (L_48_0 4611686018427387904 a2 a1 a0 []) (some ([],false,PUnit.unit)) fun y1=>some (y1,true,PUnit.unit)
noncomputable def Sp.p_48(a0:(((List Int)×((List Int)×(Int×Unit)))×(Int×(Int×Unit))))(a1 a2:Int):Bool:=(F_48 a0 a1 a2).isSome
noncomputable def Sp.v_48(a0:(((List Int)×((List Int)×(Int×Unit)))×(Int×(Int×Unit))))(a1 a2:Int):(List (Bool×(Int×(Int×Unit))))×Bool×Unit:=(F_48 a0 a1 a2).getD (dfH R_48)
noncomputable def s_48:Summ:=ownS A_48 136 [] (.slice (.pair .bool (.pair (.int .i64) (.pair (.int .u32) .unit)))) [.bool] (fun x=>p_48 x.1 x.2.1 x.2.2.1) (fun x=>v_48 x.1 x.2.1 x.2.2.1)
theorem Lb2(a0:(((List Int)×((List Int)×(Int×Unit)))×(Int×(Int×Unit))))(a1 a2:Int){y:(List (Bool×(Int×(Int×Unit))))×Bool×Unit}(h:F_48 a0 a1 a2=some y):p_48 a0 a1 a2=true/\v_48 a0 a1 a2=y:=pvG h
theorem Cz2(x:HDen A_48)(y:HDen R_48)(h:F_48 x.1 x.2.1 x.2.2.1=some y):evFn Bp2 fns FU 1 48 (ofH A_48 x) [] (ownK 136 [] (.slice (.pair .bool (.pair (.int .i64) (.pair (.int .u32) .unit)))) [.bool])=some y:=runG Ah0 (os:=[Tm1]) ⟨Xy1,trivial⟩ (Eq.trans (by kernel_rfl) h)
end
noncomputable section
abbrev A_95:List Ty:=[(.pair (.slice (.int .u32)) (.pair (.slice (.int .i64)) (.pair (.int .i64) .unit))),(.pair (.int .i64) (.pair (.int .u32) .unit)),(.int .i64),(.int .i64)]
abbrev R_95:List Ty:=[(.int .i64)]
noncomputable def Ij2:Nat->Option Summ:=smL [(26,s_26)]
noncomputable def F_95(a0:((List Int)×((List Int)×(Int×Unit))))(a1:(Int×(Int×Unit)))(a2 a3:Int):Option (Int×Unit) :=
 gd (p_26 a0) (bif !(v_26 a0).1 then some (1,PUnit.unit)else bif decide (a1.1<0)then some (1,PUnit.unit)else bif decide (a1.1>1099511627776)then some (1,PUnit.unit)else bif decide (a2<0)then some (2,PUnit.unit)else bif decide (a2>=a3)then some (2,PUnit.unit)else some (0,PUnit.unit))
noncomputable def Sp.p_95(a0:((List Int)×((List Int)×(Int×Unit))))(a1:(Int×(Int×Unit)))(a2 a3:Int):Bool:=(F_95 a0 a1 a2 a3).isSome
noncomputable def Sp.v_95(a0:((List Int)×((List Int)×(Int×Unit))))(a1:(Int×(Int×Unit)))(a2 a3:Int):Int×Unit:=(F_95 a0 a1 a2 a3).getD (dfH R_95)
noncomputable def s_95:Summ:=shN A_95 R_95 (fun x=>p_95 x.1 x.2.1 x.2.2.1 x.2.2.2.1) (fun x=>v_95 x.1 x.2.1 x.2.2.1 x.2.2.2.1)
theorem Ka2(a0:((List Int)×((List Int)×(Int×Unit))))(a1:(Int×(Int×Unit)))(a2 a3:Int){y:Int×Unit}(h:F_95 a0 a1 a2 a3=some y):p_95 a0 a1 a2 a3=true/\v_95 a0 a1 a2 a3=y:=pvG h
theorem Bw2(x:HDen A_95)(y:HDen R_95)(h:F_95 x.1 x.2.1 x.2.2.1 x.2.2.2.1=some y):rnF Ij2 1 95 A_95 R_95 x y:=runG Ah0 (os:=[]) trivial (Eq.trans (by kernel_rfl) h)
end
end Go.Ev
