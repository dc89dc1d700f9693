/- Helpers: functions of the program as Lean functions, and what they compute. No condition. -/
import Derived.Test.YtaaagikcbnbncaaG5P1
import Derived.Test.YtaaagikcbnbncaaG5P2
import Derived.Test.YtaaagikcbnbncaaProg
import Derived.Test.YtaaagikcbnbncaaE5P2
import Derived.Test.YtaaagikcbnbncaaG5P0
set_option maxRecDepth 10000
set_option linter.unusedVariables false
set_option linter.unusedSimpArgs false
open Go.IntKind (wrap i64 i32 i16 i8 u64 u32 u16 u8)
open List (getD length take drop replicate)
open Int (toNat)
open Go.Ev.Sp
namespace Go.Ev
open Go
set_option maxRecDepth 100000
set_option maxHeartbeats 4000000
set_option linter.unusedVariables false
noncomputable section
abbrev Zt66_0:Type:=(List Int×List Int×Int×Unit)×List Int×Unit
abbrev Zt66_1:Type:=Int×Int×Unit
abbrev Zy66_2:Ty:=(.pair (.pair (.slice (.int .u32)) (.pair (.slice (.int .i64)) (.pair (.int .i64) .unit))) (.pair (.arr 32 (.int .u8)) .unit))
abbrev Zy66_3:Ty:=(.pair (.int .i64) (.pair (.int .u32) .unit))
abbrev Zt66_4:Type:=((List Int)×((List Int)×(Int×Unit)))×((List Int)×Unit)
abbrev Zt66_5:Type:=Int×(Int×Unit)
abbrev A_66:List Ty:=[(.pair (.pair (.slice (.int .u32)) (.pair (.slice (.int .i64)) (.pair (.int .i64) .unit))) (.pair (.arr 32 (.int .u8)) .unit)),(.int .i64),(.pair (.int .i64) (.pair (.int .u32) .unit))]
abbrev R_66:List Ty:=[(.pair (.pair (.slice (.int .u32)) (.pair (.slice (.int .i64)) (.pair (.int .i64) .unit))) (.pair (.arr 32 (.int .u8)) .unit)),(.pair (.int .i64) (.pair (.int .u32) .unit)),(.int .i64)]
noncomputable def sm_66:Nat->Option Summ:=smL [(28,s_28),(34,s_34),(71,s_71),(76,s_76),(83,s_83),(93,s_93)]
noncomputable def T_66_1:PS:=⟨86,[(1,.hv (.int .i64)),(3,.kc (.ptr 0 [])),(5,.kc (.ptr 1 [])),(6,.kc (.ptr 2 [])),(7,.kc (.ptr 5 [])),(9,.hv (.int .i64))],[.mem (.hv Zy66_2),.mem (.hv Zy66_3),.mem (.pr (.pr (.kc (.whole 3)) (.pr (.kc (.whole 4)) (.hv (.pair (.int .i64) .unit)))) (.hv (.pair (.arr 32 (.int .u8)) .unit))),.vec 42 (.int .u32),.vec 3 (.int .i64),.mem (.hv Zy66_3)],0⟩
inductive Sp.E_66_1 where
 |e0 (p1:Int)
 |e1 (p0:Int) (p2:Zt66_0) (p3:Zt66_1)
 |e2 (p0:Int) (p2:Zt66_0) (p3:Zt66_1)
noncomputable def Sp.B_66_1{R:Type}(r:Option E_66_1)(k0:Int->Option R)(k1 k2:Int->Zt66_0->Zt66_1->Option R):Option R:=match r with
 |none=>none
 |some (.e0 p1)=>k0 p1
 |some (.e1 p0 p2 p3)=>k1 p0 p2 p3
 |some (.e2 p0 p2 p3)=>k2 p0 p2 p3
theorem Bn_66_1{A R:Type}{r:Option E_66_1}{f:A->Option R}{k0:Int->Option A}{k1:Int->Zt66_0->Zt66_1->Option A}{k2:Int->Zt66_0->Zt66_1->Option A}{l0:Int->Option R}{l1:Int->Zt66_0->Zt66_1->Option R}{l2:Int->Zt66_0->Zt66_1->Option R}(h0:∀p1,(k0 p1).bind f=l0 p1)(h1:∀p0 p2 p3,(k1 p0 p2 p3).bind f=l1 p0 p2 p3)(h2:∀p0 p2 p3,(k2 p0 p2 p3).bind f=l2 p0 p2 p3):(B_66_1 r k0 k1 k2).bind f=B_66_1 r l0 l1 l2:=by
 cases r with
 |none=>rfl
 |some e=>cases e<;>first|apply h0|apply h1|apply h2
noncomputable def Y_66_1{R:Type}(k:Ex->St->Option R):E_66_1->Option R
 | .e0 p1=>k Ex.ret (sx 86 [(6,CV.ptr 0 []),(7,CV.ptr 3 []),(8,CV.int i64 p1)] [Blk.mem (CV.pair (CV.pair (CV.whole 1) (CV.pair (CV.whole 2) (CV.pure (Ty.pair (Ty.int i64) Ty.unit) ((0,PUnit.unit):(Int×Unit))))) (CV.pure (Ty.pair (Ty.arr 32 (Ty.int u8)) Ty.unit) ((replicate 32 (0:Int),PUnit.unit):((List Int)×Unit)))),Blk.vec 42 (Ty.int u32) [],Blk.vec 3 (Ty.int i64) [],Blk.mem (CV.pure (Ty.pair (Ty.int i64) (Ty.pair (Ty.int u32) Ty.unit)) ((0,0,PUnit.unit):(Zt66_5)))])
 | .e1 p0 p2 p3=>k Ex.ret (sx 86 [(6,CV.ptr 0 []),(7,CV.ptr 3 []),(8,CV.int i64 ((v_76 (p2.1) (wrap i64 (wrap i64 (Int.tdiv (wrap i64 (p0*(↑(length (p2.1.1)):Int))) 2)+0)) 0 p3).2.2.1))] [Blk.mem (CV.pair (CV.pair (CV.whole 1) (CV.pair (CV.whole 2) (CV.pure (Ty.pair (Ty.int i64) Ty.unit) ((0,PUnit.unit):(Int×Unit))))) (CV.pure (Ty.pair (Ty.arr 32 (Ty.int u8)) Ty.unit) ((replicate 32 (0:Int),PUnit.unit):((List Int)×Unit)))),Blk.vec 42 (Ty.int u32) [],Blk.vec 3 (Ty.int i64) [],Blk.mem (CV.pure (Ty.pair (Ty.int i64) (Ty.pair (Ty.int u32) Ty.unit)) ((0,0,PUnit.unit):(Zt66_5)))])
 | .e2 p0 p2 p3=>k Ex.ret (sx 86 [(6,CV.ptr 0 []),(7,CV.ptr 1 []),(8,CV.int i64 ((v_76 (p2.1) (wrap i64 (wrap i64 (Int.tdiv (wrap i64 (p0*(↑(length (p2.1.1)):Int))) 2)+0)) 0 p3).2.2.1))] [Blk.mem (CV.pure (Ty.pair (Ty.pair (Ty.slice (Ty.int u32)) (Ty.pair (Ty.slice (Ty.int i64)) (Ty.pair (Ty.int i64) Ty.unit))) (Ty.pair (Ty.arr 32 (Ty.int u8)) Ty.unit)) (((v_76 (p2.1) (wrap i64 (wrap i64 (Int.tdiv (wrap i64 (p0*(↑(length (p2.1.1)):Int))) 2)+0)) 0 p3).1,p2.2.1,PUnit.unit):(Zt66_4))),Blk.mem (CV.pure (Ty.pair (Ty.int i64) (Ty.pair (Ty.int u32) Ty.unit)) (((v_76 (p2.1) (wrap i64 (wrap i64 (Int.tdiv (wrap i64 (p0*(↑(length (p2.1.1)):Int))) 2)+0)) 0 p3).2.1):(Zt66_5)))])
noncomputable def Sp.S_66_1{R:Type}(k:E_66_1->Option R)(p0 p1:Int)(p2:(List Int×List Int×Int×Unit)×List Int×Unit)(p3:Int×Int×Unit)(p4:Int×Unit)(p5:List Int×Unit)(p6 p7:List Int)(p8:Int×Int×Unit):Option R:=
 bif p1 !=0 then k (E_66_1.e0 p1)else gd (p_76 (p2.1) (wrap i64 (wrap i64 (Int.tdiv (wrap i64 (p0*(↑(length (p2.1.1)):Int))) 2)+0)) 0 p3) (bif(v_76 (p2.1) (wrap i64 (wrap i64 (Int.tdiv (wrap i64 (p0*(↑(length (p2.1.1)):Int))) 2)+0)) 0 p3).2.2.1 !=0 then bif(v_76 (p2.1) (wrap i64 (wrap i64 (Int.tdiv (wrap i64 (p0*(↑(length (p2.1.1)):Int))) 2)+0)) 0 p3).2.2.1 !=18 then k (E_66_1.e1 p0 p2 p3)else k (E_66_1.e2 p0 p2 p3)else k (E_66_1.e2 p0 p2 p3))
noncomputable def Sp.J_66_1(p0 p1:Int)(p2:(List Int×List Int×Int×Unit)×List Int×Unit)(p3:Int×Int×Unit)(p4:Int×Unit)(p5:List Int×Unit)(p6 p7:List Int)(p8:Int×Int×Unit):Option E_66_1:=S_66_1 some p0 p1 p2 p3 p4 p5 p6 p7 p8
noncomputable def O_66_1{R:Type}:Orc R:=orL T_66_1 (fun a=>J_66_1 a.1 a.2.1 a.2.2.1 a.2.2.2.1 a.2.2.2.2.1 a.2.2.2.2.2.1 a.2.2.2.2.2.2.1 a.2.2.2.2.2.2.2.1 a.2.2.2.2.2.2.2.2.1) Y_66_1
theorem OK_66_1{R:Type}:okF (R:=R) sm_66 0 (ni (nf 66 0) 0) O_66_1:=jp noO_ok (os:=[]) trivial T_66_1 (fun R k a=>S_66_1 k a.1 a.2.1 a.2.2.1 a.2.2.2.1 a.2.2.2.2.1 a.2.2.2.2.2.1 a.2.2.2.2.2.2.1 a.2.2.2.2.2.2.2.1 a.2.2.2.2.2.2.2.2.1) Y_66_1 (fun k a=>by kernel_rfl) (fun Y a=>by
 unfold S_66_1
 repeat' first|apply gdN|apply condN|rfl) (ok0 _)
noncomputable def T_66_0:PS:=⟨86,[(1,.hv (.int .i64)),(3,.kc (.ptr 0 [])),(5,.kc (.ptr 1 [])),(6,.kc (.ptr 2 [])),(7,.kc (.ptr 5 [])),(9,.hv (.int .i64))],[.mem (.hv Zy66_2),.mem (.hv Zy66_3),.mem (.pr (.pr (.kc (.whole 3)) (.pr (.kc (.whole 4)) (.hv (.pair (.int .i64) .unit)))) (.hv (.pair (.arr 32 (.int .u8)) .unit))),.vec 42 (.int .u32),.vec 3 (.int .i64),.mem (.hv Zy66_3)],0⟩
inductive Sp.E_66_0 where
 |e0 (y21:Int)
 |e1 (y22:Int) (y23:Zt66_0) (y24:Zt66_1)
 |e2 (y25:Int) (y26:Zt66_0) (y27:Zt66_1)
noncomputable def Sp.B_66_0{R:Type}(r:Option E_66_0)(k0:Int->Option R)(k1 k2:Int->Zt66_0->Zt66_1->Option R):Option R:=match r with
 |none=>none
 |some (.e0 y21)=>k0 y21
 |some (.e1 y22 y23 y24)=>k1 y22 y23 y24
 |some (.e2 y25 y26 y27)=>k2 y25 y26 y27
noncomputable def Y_66_0{R:Type}(k:Ex->St->Option R):E_66_0->Option R
 | .e0 y21=>k Ex.ret (sx 86 [(6,CV.ptr 0 []),(7,CV.ptr 3 []),(8,CV.int i64 y21)] [Blk.mem (CV.pair (CV.pair (CV.whole 1) (CV.pair (CV.whole 2) (CV.pure (Ty.pair (Ty.int i64) Ty.unit) ((0,PUnit.unit):(Int×Unit))))) (CV.pure (Ty.pair (Ty.arr 32 (Ty.int u8)) Ty.unit) ((replicate 32 (0:Int),PUnit.unit):((List Int)×Unit)))),Blk.vec 42 (Ty.int u32) [],Blk.vec 3 (Ty.int i64) [],Blk.mem (CV.pure (Ty.pair (Ty.int i64) (Ty.pair (Ty.int u32) Ty.unit)) ((0,0,PUnit.unit):(Zt66_5)))])
 | .e1 y22 y23 y24=>k Ex.ret (sx 86 [(6,CV.ptr 0 []),(7,CV.ptr 3 []),(8,CV.int i64 ((v_76 (y23.1) (wrap i64 (wrap i64 (Int.tdiv (wrap i64 (y22*(↑(length (y23.1.1)):Int))) 2)+0)) 0 y24).2.2.1))] [Blk.mem (CV.pair (CV.pair (CV.whole 1) (CV.pair (CV.whole 2) (CV.pure (Ty.pair (Ty.int i64) Ty.unit) ((0,PUnit.unit):(Int×Unit))))) (CV.pure (Ty.pair (Ty.arr 32 (Ty.int u8)) Ty.unit) ((replicate 32 (0:Int),PUnit.unit):((List Int)×Unit)))),Blk.vec 42 (Ty.int u32) [],Blk.vec 3 (Ty.int i64) [],Blk.mem (CV.pure (Ty.pair (Ty.int i64) (Ty.pair (Ty.int u32) Ty.unit)) ((0,0,PUnit.unit):(Zt66_5)))])
 | .e2 y25 y26 y27=>k Ex.ret (sx 86 [(6,CV.ptr 0 []),(7,CV.ptr 1 []),(8,CV.int i64 ((v_76 (y26.1) (wrap i64 (wrap i64 (Int.tdiv (wrap i64 (y25*(↑(length (y26.1.1)):Int))) 2)+0)) 0 y27).2.2.1))] [Blk.mem (CV.pure (Ty.pair (Ty.pair (Ty.slice (Ty.int u32)) (Ty.pair (Ty.slice (Ty.int i64)) (Ty.pair (Ty.int i64) Ty.unit))) (Ty.pair (Ty.arr 32 (Ty.int u8)) Ty.unit)) (((v_76 (y26.1) (wrap i64 (wrap i64 (Int.tdiv (wrap i64 (y25*(↑(length (y26.1.1)):Int))) 2)+0)) 0 y27).1,y26.2.1,PUnit.unit):(Zt66_4))),Blk.mem (CV.pure (Ty.pair (Ty.int i64) (Ty.pair (Ty.int u32) Ty.unit)) (((v_76 (y26.1) (wrap i64 (wrap i64 (Int.tdiv (wrap i64 (y25*(↑(length (y26.1.1)):Int))) 2)+0)) 0 y27).2.1):(Zt66_5)))])
noncomputable def Sp.S_66_0{R:Type}(k:E_66_0->Option R)(p0 p1:Int)(p2:(List Int×List Int×Int×Unit)×List Int×Unit)(p3:Int×Int×Unit)(p4:Int×Unit)(p5:List Int×Unit)(p6 p7:List Int)(p8:Int×Int×Unit):Option R:=
 gd (p_71 p2 p0) (bif p1==0 then gd (p_34 p2) (bif decide ((v_71 p2 p0).1.1<(v_34 p2).1)then B_66_1 (J_66_1 p0 20 p2 p3 p4 p5 p6 p7 p8) (fun y21=>k (E_66_0.e0 y21)) (fun y22 y23 y24=>k (E_66_0.e1 y22 y23 y24)) fun y25 y26 y27=>k (E_66_0.e2 y25 y26 y27)else B_66_1 (J_66_1 p0 p1 p2 p3 p4 p5 p6 p7 p8) (fun y28=>k (E_66_0.e0 y28)) (fun y29 y30 y31=>k (E_66_0.e1 y29 y30 y31)) fun y32 y33 y34=>k (E_66_0.e2 y32 y33 y34))else B_66_1 (J_66_1 p0 p1 p2 p3 p4 p5 p6 p7 p8) (fun y35=>k (E_66_0.e0 y35)) (fun y36 y37 y38=>k (E_66_0.e1 y36 y37 y38)) fun y39 y40 y41=>k (E_66_0.e2 y39 y40 y41))
noncomputable def Sp.J_66_0(p0 p1:Int)(p2:(List Int×List Int×Int×Unit)×List Int×Unit)(p3:Int×Int×Unit)(p4:Int×Unit)(p5:List Int×Unit)(p6 p7:List Int)(p8:Int×Int×Unit):Option E_66_0:=S_66_0 some p0 p1 p2 p3 p4 p5 p6 p7 p8
noncomputable def O_66_0{R:Type}:Orc R:=orL T_66_0 (fun a=>J_66_0 a.1 a.2.1 a.2.2.1 a.2.2.2.1 a.2.2.2.2.1 a.2.2.2.2.2.1 a.2.2.2.2.2.2.1 a.2.2.2.2.2.2.2.1 a.2.2.2.2.2.2.2.2.1) Y_66_0
theorem OK_66_0{R:Type}:okF (R:=R) sm_66 0 (nf 66 0) O_66_0:=jp noO_ok (os:=[O_66_1]) ⟨OK_66_1,trivial⟩ T_66_0 (fun R k a=>S_66_0 k a.1 a.2.1 a.2.2.1 a.2.2.2.1 a.2.2.2.2.1 a.2.2.2.2.2.1 a.2.2.2.2.2.2.1 a.2.2.2.2.2.2.2.1 a.2.2.2.2.2.2.2.2.1) Y_66_0 (fun k a=>by kernel_rfl) (fun Y a=>by
 unfold S_66_0
 repeat' first|apply gdN|apply condN|(apply Bn_66_1<;>intros)|rfl) (ok0 _)
noncomputable def F_66(a0:(((List Int)×((List Int)×(Int×Unit)))×((List Int)×Unit)))(a1:Int)(a2:(Int×(Int×Unit))):Option ((((List Int)×((List Int)×(Int×Unit)))×((List Int)×Unit))×(Int×(Int×Unit))×Int×Unit) :=
 bif decide (a2.1<0)then some ((([],[],0,PUnit.unit),replicate 32 (0:Int),PUnit.unit),(0,0,PUnit.unit),1,PUnit.unit)else gd p_28 (bif decide (a2.1>v_28.1.1)then some ((([],[],0,PUnit.unit),replicate 32 (0:Int),PUnit.unit),(0,0,PUnit.unit),1,PUnit.unit)else gd (p_83 a0 a1) (bif(v_83 a0 a1).1==0 then gd (p_93 a0 a1) (bif(v_93 a0 a1).1 then B_66_0 (J_66_0 a1 6 a0 a2 (0,PUnit.unit) (replicate 32 (0:Int),PUnit.unit) [] [] (0,0,PUnit.unit)) (fun y25=>some ((([],[],0,PUnit.unit),replicate 32 (0:Int),PUnit.unit),(0,0,PUnit.unit),y25,PUnit.unit)) (fun y26 y27 y28=>some ((([],[],0,PUnit.unit),replicate 32 (0:Int),PUnit.unit),(0,0,PUnit.unit),(v_76 (y27.1) (wrap i64 (wrap i64 (Int.tdiv (wrap i64 (y26*(↑(length (y27.1.1)):Int))) 2)+0)) 0 y28).2.2.1,PUnit.unit)) fun y29 y30 y31=>some (((v_76 (y30.1) (wrap i64 (wrap i64 (Int.tdiv (wrap i64 (y29*(↑(length (y30.1.1)):Int))) 2)+0)) 0 y31).1,y30.2.1,PUnit.unit),(v_76 (y30.1) (wrap i64 (wrap i64 (Int.tdiv (wrap i64 (y29*(↑(length (y30.1.1)):Int))) 2)+0)) 0 y31).2.1,(v_76 (y30.1) (wrap i64 (wrap i64 (Int.tdiv (wrap i64 (y29*(↑(length (y30.1.1)):Int))) 2)+0)) 0 y31).2.2.1,PUnit.unit)else B_66_0 (J_66_0 a1 ((v_83 a0 a1).1) a0 a2 (0,PUnit.unit) (replicate 32 (0:Int),PUnit.unit) [] [] (0,0,PUnit.unit)) (fun y32=>some ((([],[],0,PUnit.unit),replicate 32 (0:Int),PUnit.unit),(0,0,PUnit.unit),y32,PUnit.unit)) (fun y33 y34 y35=>some ((([],[],0,PUnit.unit),replicate 32 (0:Int),PUnit.unit),(0,0,PUnit.unit),(v_76 (y34.1) (wrap i64 (wrap i64 (Int.tdiv (wrap i64 (y33*(↑(length (y34.1.1)):Int))) 2)+0)) 0 y35).2.2.1,PUnit.unit)) fun y36 y37 y38=>some (((v_76 (y37.1) (wrap i64 (wrap i64 (Int.tdiv (wrap i64 (y36*(↑(length (y37.1.1)):Int))) 2)+0)) 0 y38).1,y37.2.1,PUnit.unit),(v_76 (y37.1) (wrap i64 (wrap i64 (Int.tdiv (wrap i64 (y36*(↑(length (y37.1.1)):Int))) 2)+0)) 0 y38).2.1,(v_76 (y37.1) (wrap i64 (wrap i64 (Int.tdiv (wrap i64 (y36*(↑(length (y37.1.1)):Int))) 2)+0)) 0 y38).2.2.1,PUnit.unit))else B_66_0 (J_66_0 a1 ((v_83 a0 a1).1) a0 a2 (0,PUnit.unit) (replicate 32 (0:Int),PUnit.unit) [] [] (0,0,PUnit.unit)) (fun y39=>some ((([],[],0,PUnit.unit),replicate 32 (0:Int),PUnit.unit),(0,0,PUnit.unit),y39,PUnit.unit)) (fun y40 y41 y42=>some ((([],[],0,PUnit.unit),replicate 32 (0:Int),PUnit.unit),(0,0,PUnit.unit),(v_76 (y41.1) (wrap i64 (wrap i64 (Int.tdiv (wrap i64 (y40*(↑(length (y41.1.1)):Int))) 2)+0)) 0 y42).2.2.1,PUnit.unit)) fun y43 y44 y45=>some (((v_76 (y44.1) (wrap i64 (wrap i64 (Int.tdiv (wrap i64 (y43*(↑(length (y44.1.1)):Int))) 2)+0)) 0 y45).1,y44.2.1,PUnit.unit),(v_76 (y44.1) (wrap i64 (wrap i64 (Int.tdiv (wrap i64 (y43*(↑(length (y44.1.1)):Int))) 2)+0)) 0 y45).2.1,(v_76 (y44.1) (wrap i64 (wrap i64 (Int.tdiv (wrap i64 (y43*(↑(length (y44.1.1)):Int))) 2)+0)) 0 y45).2.2.1,PUnit.unit)))
noncomputable def Sp.p_66(a0:(((List Int)×((List Int)×(Int×Unit)))×((List Int)×Unit)))(a1:Int)(a2:(Int×(Int×Unit))):Bool:=(F_66 a0 a1 a2).isSome
noncomputable def Sp.v_66(a0:(((List Int)×((List Int)×(Int×Unit)))×((List Int)×Unit)))(a1:Int)(a2:(Int×(Int×Unit))):(((List Int)×((List Int)×(Int×Unit)))×((List Int)×Unit))×(Int×(Int×Unit))×Int×Unit:=(F_66 a0 a1 a2).getD (dfH R_66)
noncomputable def s_66:Summ:=shS A_66 R_66 (fun x=>p_66 x.1 x.2.1 x.2.2.1) (fun x=>v_66 x.1 x.2.1 x.2.2.1)
theorem pv_66(a0:(((List Int)×((List Int)×(Int×Unit)))×((List Int)×Unit)))(a1:Int)(a2:(Int×(Int×Unit))){y:(((List Int)×((List Int)×(Int×Unit)))×((List Int)×Unit))×(Int×(Int×Unit))×Int×Unit}(h:F_66 a0 a1 a2=some y):p_66 a0 a1 a2=true/\v_66 a0 a1 a2=y:=pvG h
theorem run_66(x:HDen A_66)(y:HDen R_66)(h:F_66 x.1 x.2.1 x.2.2.1=some y):rnF sm_66 1 66 A_66 R_66 x y:=runG noO_ok (os:=[O_66_0]) ⟨OK_66_0,trivial⟩ (Eq.trans (by kernel_rfl) h)
end
noncomputable section
abbrev A_29:List Ty:=[(.pair (.int .i64) (.pair (.int .i64) (.pair (.int .i64) (.pair (.pair (.int .i64) (.pair (.int .i64) (.pair (.arr 32 (.int .u8)) (.pair (.pair (.int .i64) (.pair (.slice (.arr 32 (.int .u8))) (.pair (.slice (.arr 32 (.int .u8))) .unit))) .unit)))) .unit)))),(.pair (.pair (.slice (.int .u32)) (.pair (.slice (.int .i64)) (.pair (.int .i64) .unit))) (.pair (.arr 32 (.int .u8)) .unit)),(.pair (.int .i64) (.pair (.int .u32) .unit))]
abbrev R_29:List Ty:=[(.pair (.int .i64) (.pair (.int .i64) (.pair (.int .i64) (.pair (.pair (.int .i64) (.pair (.int .i64) (.pair (.arr 32 (.int .u8)) (.pair (.pair (.int .i64) (.pair (.slice (.arr 32 (.int .u8))) (.pair (.slice (.arr 32 (.int .u8))) .unit))) .unit)))) .unit)))),(.pair (.pair (.slice (.int .u32)) (.pair (.slice (.int .i64)) (.pair (.int .i64) .unit))) (.pair (.arr 32 (.int .u8)) .unit)),(.pair (.int .i64) (.pair (.int .u32) .unit)),(.int .i64)]
noncomputable def sm_29:Nat->Option Summ:=smL [(40,s_40),(41,s_41),(66,s_66)]
noncomputable def F_29(a0:(Int×(Int×(Int×((Int×(Int×((List Int)×((Int×((List (List Int))×((List (List Int))×Unit)))×Unit))))×Unit)))))(a1:(((List Int)×((List Int)×(Int×Unit)))×((List Int)×Unit)))(a2:(Int×(Int×Unit))):Option ((Int×(Int×(Int×((Int×(Int×((List Int)×((Int×((List (List Int))×((List (List Int))×Unit)))×Unit))))×Unit))))×(((List Int)×((List Int)×(Int×Unit)))×((List Int)×Unit))×(Int×(Int×Unit))×Int×Unit) :=
 gd (p_40 a0 a1 a2) (bif(v_40 a0 a1 a2).1 !=0 then gd (p_41 ((v_40 a0 a1 a2).1)) (some ((v_41 ((v_40 a0 a1 a2).1)).1,(v_41 ((v_40 a0 a1 a2).1)).2.1,(v_41 ((v_40 a0 a1 a2).1)).2.2.1,(v_41 ((v_40 a0 a1 a2).1)).2.2.2.1,PUnit.unit))else bif a0.1 !=2 then gd (p_41 6) (some ((v_41 6).1,(v_41 6).2.1,(v_41 6).2.2.1,(v_41 6).2.2.2.1,PUnit.unit))else gd (p_66 a1 (a0.2.1) a2) (bif(v_66 a1 (a0.2.1) a2).2.2.1==0 then some ((0,0,0,(0,0,replicate 32 (0:Int),(0,[],[],PUnit.unit),PUnit.unit),PUnit.unit),(v_66 a1 (a0.2.1) a2).1,(v_66 a1 (a0.2.1) a2).2.1,0,PUnit.unit)else bif(v_66 a1 (a0.2.1) a2).2.2.1==18 then some ((0,0,0,(0,0,replicate 32 (0:Int),(0,[],[],PUnit.unit),PUnit.unit),PUnit.unit),(v_66 a1 (a0.2.1) a2).1,(v_66 a1 (a0.2.1) a2).2.1,18,PUnit.unit)else gd (p_41 ((v_66 a1 (a0.2.1) a2).2.2.1)) (some ((v_41 ((v_66 a1 (a0.2.1) a2).2.2.1)).1,(v_41 ((v_66 a1 (a0.2.1) a2).2.2.1)).2.1,(v_41 ((v_66 a1 (a0.2.1) a2).2.2.1)).2.2.1,(v_41 ((v_66 a1 (a0.2.1) a2).2.2.1)).2.2.2.1,PUnit.unit))))
noncomputable def Sp.p_29(a0:(Int×(Int×(Int×((Int×(Int×((List Int)×((Int×((List (List Int))×((List (List Int))×Unit)))×Unit))))×Unit)))))(a1:(((List Int)×((List Int)×(Int×Unit)))×((List Int)×Unit)))(a2:(Int×(Int×Unit))):Bool:=(F_29 a0 a1 a2).isSome
noncomputable def Sp.v_29(a0:(Int×(Int×(Int×((Int×(Int×((List Int)×((Int×((List (List Int))×((List (List Int))×Unit)))×Unit))))×Unit)))))(a1:(((List Int)×((List Int)×(Int×Unit)))×((List Int)×Unit)))(a2:(Int×(Int×Unit))):(Int×(Int×(Int×((Int×(Int×((List Int)×((Int×((List (List Int))×((List (List Int))×Unit)))×Unit))))×Unit))))×(((List Int)×((List Int)×(Int×Unit)))×((List Int)×Unit))×(Int×(Int×Unit))×Int×Unit:=(F_29 a0 a1 a2).getD (dfH R_29)
noncomputable def s_29:Summ:=shS A_29 R_29 (fun x=>p_29 x.1 x.2.1 x.2.2.1) (fun x=>v_29 x.1 x.2.1 x.2.2.1)
theorem pv_29(a0:(Int×(Int×(Int×((Int×(Int×((List Int)×((Int×((List (List Int))×((List (List Int))×Unit)))×Unit))))×Unit)))))(a1:(((List Int)×((List Int)×(Int×Unit)))×((List Int)×Unit)))(a2:(Int×(Int×Unit))){y:(Int×(Int×(Int×((Int×(Int×((List Int)×((Int×((List (List Int))×((List (List Int))×Unit)))×Unit))))×Unit))))×(((List Int)×((List Int)×(Int×Unit)))×((List Int)×Unit))×(Int×(Int×Unit))×Int×Unit}(h:F_29 a0 a1 a2=some y):p_29 a0 a1 a2=true/\v_29 a0 a1 a2=y:=pvG h
theorem run_29(x:HDen A_29)(y:HDen R_29)(h:F_29 x.1 x.2.1 x.2.2.1=some y):rnF sm_29 2 29 A_29 R_29 x y:=runG noO_ok (os:=[]) trivial (Eq.trans (by kernel_rfl) h)
end
noncomputable section
abbrev A_30:List Ty:=[(.slice (.int .u32)),(.slice (.int .u32))]
abbrev R_30:List Ty:=[.bool]
noncomputable def sm_30:Nat->Option Summ:=smL []
noncomputable def T_30_0:PS:=⟨26,[(0,.hv (.slice (.int .u32))),(1,.hv (.slice (.int .u32))),(12,.hv (.int .i64)),(13,.hv (.int .i64))],[],0⟩
inductive Sp.E_30_0 where
 |e0
 |e1
noncomputable def Sp.B_30_0{R:Type}(r:Option E_30_0)(k0 k1:Option R):Option R:=match r with
 |none=>none
 |some (.e0)=>k0
 |some (.e1)=>k1
noncomputable def Y_30_0{R:Type}(k:Ex->St->Option R):E_30_0->Option R
 | .e0=>k Ex.ret (sx 26 [(4,CV.bool false)] [])
 | .e1=>k (Ex.exit 0) (sx 26 [] [])
noncomputable def Sp.S_30_0{R:Type}(K:List Int->List Int->Int->Int->Option R)(k:E_30_0->Option R)(p0 p1:List Int)(p2 p3:Int):Option R:=
 bif decide (p3<p2)then gd (inB p3 (length p0)) (gd (inB p3 (length p1)) (bif getD p0 (toNat p3) 0 !=getD p1 (toNat p3) 0 then k (E_30_0.e0)else K p0 p1 p2 (wrap i64 (p3+1))))else k (E_30_0.e1)
noncomputable def Sp.L_30_0:Nat->List Int->List Int->Int->Int->Option E_30_0
 |0,_,_,_,_=>none
 |m+1,p0,p1,p2,p3=>S_30_0 (L_30_0 m) some p0 p1 p2 p3
noncomputable def l_30_0(m:Nat)(a:T_30_0.E):Option E_30_0:=L_30_0 m a.1 a.2.1 a.2.2.1 a.2.2.2.1
noncomputable def O_30_0{R:Type}:Orc R:=orL T_30_0 (l_30_0 FU) Y_30_0
theorem OK_30_0{R:Type}:okF (R:=R) sm_30 0 (nf 30 0) O_30_0:=lp0 T_30_0 l_30_0 (fun R K k a=>S_30_0 (fun p0 p1 p2 p3=>K (p0,p1,p2,p3,())) k a.1 a.2.1 a.2.2.1 a.2.2.2.1) Y_30_0 (fun _ _ _=>by kernel_rfl) (fun _ _ _=>by
 unfold S_30_0
 repeat' first|apply gdN|apply condN|rfl) (ok0 _)
noncomputable def F_30(a0 a1:(List Int)):Option (Bool×Unit) :=
 bif(↑(length a0):Int)!=(↑(length a1):Int)then some (false,PUnit.unit)else B_30_0 (L_30_0 4611686018427387904 a0 a1 (↑(length a0):Int) 0) (some (false,PUnit.unit)) (some (true,PUnit.unit))
noncomputable def Sp.p_30(a0 a1:(List Int)):Bool:=(F_30 a0 a1).isSome
noncomputable def Sp.v_30(a0 a1:(List Int)):Bool×Unit:=(F_30 a0 a1).getD (dfH R_30)
noncomputable def s_30:Summ:=shN A_30 R_30 (fun x=>p_30 x.1 x.2.1) (fun x=>v_30 x.1 x.2.1)
theorem pv_30(a0 a1:(List Int)){y:Bool×Unit}(h:F_30 a0 a1=some y):p_30 a0 a1=true/\v_30 a0 a1=y:=pvG h
theorem run_30(x:HDen A_30)(y:HDen R_30)(h:F_30 x.1 x.2.1=some y):rnF sm_30 1 30 A_30 R_30 x y:=runG noO_ok (os:=[O_30_0]) ⟨OK_30_0,trivial⟩ (Eq.trans (by kernel_rfl) h)
end
noncomputable section
abbrev Zt5_0:Type:=Int×Int×Int×(Int×Int×List Int×(Int×List (List Int)×List (List Int)×Unit)×Unit)×Unit
abbrev Zt5_1:Type:=(List Int×List Int×Int×Unit)×List Int×Unit
abbrev Zt5_2:Type:=Int×Int×List Int×(Int×List (List Int)×List (List Int)×Unit)×Unit
abbrev Zy5_3:Ty:=(.pair (.int .i64) (.pair (.int .i64) (.pair (.int .i64) (.pair (.pair (.int .i64) (.pair (.int .i64) (.pair (.arr 32 (.int .u8)) (.pair (.pair (.int .i64) (.pair (.slice (.arr 32 (.int .u8))) (.pair (.slice (.arr 32 (.int .u8))) .unit))) .unit)))) .unit))))
abbrev Zy5_4:Ty:=(.pair (.pair (.slice (.int .u32)) (.pair (.slice (.int .i64)) (.pair (.int .i64) .unit))) (.pair (.arr 32 (.int .u8)) .unit))
abbrev Zy5_5:Ty:=(.pair (.int .i64) (.pair (.int .i64) (.pair (.arr 32 (.int .u8)) (.pair (.pair (.int .i64) (.pair (.slice (.arr 32 (.int .u8))) (.pair (.slice (.arr 32 (.int .u8))) .unit))) .unit))))
abbrev Zt5_6:Type:=Int×Int×Unit
abbrev A_5:List Ty:=[(.pair (.pair (.slice (.int .u32)) (.pair (.slice (.int .i64)) (.pair (.int .i64) .unit))) (.pair (.arr 32 (.int .u8)) .unit)),(.pair (.int .i64) (.pair (.int .i64) (.pair (.arr 32 (.int .u8)) (.pair (.pair (.int .i64) (.pair (.slice (.arr 32 (.int .u8))) (.pair (.slice (.arr 32 (.int .u8))) .unit))) .unit)))),(.slice (.int .u32)),(.int .u16),(.int .u32)]
abbrev R_5:List Ty:=[.bool]
noncomputable def sm_5:Nat->Option Summ:=smL [(8,s_8),(9,s_9),(10,s_10),(11,s_11),(15,s_15),(16,s_16),(23,s_23),(24,s_24),(25,s_25),(26,s_26),(27,s_27),(28,s_28),(29,s_29),(30,s_30)]
noncomputable def T_5_0_1:PS:=⟨206,[(5,.kc (.ptr 0 [])),(11,.hv (.slice (.int .u32))),(12,.hv (.int .i64)),(13,.hv .bool),(14,.kc (.whole 1)),(15,.kc (.ptr 2 [])),(16,.kc (.ptr 3 [])),(17,.kc (.ptr 4 [])),(18,.kc (.ptr 5 [])),(20,.hv (.int .i64))],[.mem (.hv Zy5_4),.fvec 42 (.int .u32),.mem (.hv Zy5_5),.mem (.hv Zy5_3),.mem (.hv Zy5_4),.mem (.hv (.pair (.int .i64) (.pair (.int .u32) .unit)))],0⟩
inductive Sp.E_5_0_1 where
 |e0
 |e1 (p0:List Int) (p1:Int) (p2:Bool) (p4:Zt5_1) (p6:Zt5_2) (p7:Zt5_0) (p8:Zt5_1) (p9:Zt5_6)
noncomputable def Sp.B_5_0_1{R:Type}(r:Option E_5_0_1)(k0:Option R)(k1:List Int->Int->Bool->Zt5_1->Zt5_2->Zt5_0->Zt5_1->Zt5_6->Option R):Option R:=match r with
 |none=>none
 |some (.e0)=>k0
 |some (.e1 p0 p1 p2 p4 p6 p7 p8 p9)=>k1 p0 p1 p2 p4 p6 p7 p8 p9
noncomputable def Y_5_0_1{R:Type}(k:Ex->St->Option R):E_5_0_1->Option R
 | .e0=>k Ex.ret (sx 206 [(10,CV.bool false)] [])
 | .e1 p0 p1 p2 p4 p6 p7 p8 p9=>k (Ex.exit 0) (sx 206 [(5,CV.ptr 0 []),(11,CV.pure (Ty.slice (Ty.int u32)) p0),(12,CV.int i64 p1),(13,CV.bool p2),(15,CV.ptr 1 []),(16,CV.ptr 2 []),(17,CV.ptr 3 []),(18,CV.ptr 4 [])] [Blk.mem (CV.pure (Ty.pair (Ty.pair (Ty.slice (Ty.int u32)) (Ty.pair (Ty.slice (Ty.int i64)) (Ty.pair (Ty.int i64) Ty.unit))) (Ty.pair (Ty.arr 32 (Ty.int u8)) Ty.unit)) p4),Blk.mem (CV.pure (Ty.pair (Ty.int i64) (Ty.pair (Ty.int i64) (Ty.pair (Ty.arr 32 (Ty.int u8)) (Ty.pair (Ty.pair (Ty.int i64) (Ty.pair (Ty.slice (Ty.arr 32 (Ty.int u8))) (Ty.pair (Ty.slice (Ty.arr 32 (Ty.int u8))) Ty.unit))) Ty.unit)))) p6),Blk.mem (CV.pure (Ty.pair (Ty.int i64) (Ty.pair (Ty.int i64) (Ty.pair (Ty.int i64) (Ty.pair (Ty.pair (Ty.int i64) (Ty.pair (Ty.int i64) (Ty.pair (Ty.arr 32 (Ty.int u8)) (Ty.pair (Ty.pair (Ty.int i64) (Ty.pair (Ty.slice (Ty.arr 32 (Ty.int u8))) (Ty.pair (Ty.slice (Ty.arr 32 (Ty.int u8))) Ty.unit))) Ty.unit)))) Ty.unit)))) p7),Blk.mem (CV.pure (Ty.pair (Ty.pair (Ty.slice (Ty.int u32)) (Ty.pair (Ty.slice (Ty.int i64)) (Ty.pair (Ty.int i64) Ty.unit))) (Ty.pair (Ty.arr 32 (Ty.int u8)) Ty.unit)) p8),Blk.mem (CV.pure (Ty.pair (Ty.int i64) (Ty.pair (Ty.int u32) Ty.unit)) p9)])
noncomputable def Sp.S_5_0_1{R:Type}(K:List Int->Int->Bool->Int->((List Int×List Int×Int×Unit)×List Int×Unit)->List Int->(Int×Int×List Int×(Int×List (List Int)×List (List Int)×Unit)×Unit)->(Int×Int×Int×(Int×Int×List Int×(Int×List (List Int)×List (List Int)×Unit)×Unit)×Unit)->((List Int×List Int×Int×Unit)×List Int×Unit)->(Int×Int×Unit)->Option R)(k:E_5_0_1->Option R)(p0:List Int)(p1:Int)(p2:Bool)(p3:Int)(p4:(List Int×List Int×Int×Unit)×List Int×Unit)(p5:List Int)(p6:Int×Int×List Int×(Int×List (List Int)×List (List Int)×Unit)×Unit)(p7:Int×Int×Int×(Int×Int×List Int×(Int×List (List Int)×List (List Int)×Unit)×Unit)×Unit)(p8:(List Int×List Int×Int×Unit)×List Int×Unit)(p9:Int×Int×Unit):Option R:=
 bif decide (wrap i64 (p3*32)<(↑(length p5):Int))then gd (sl3 (wrap i64 (32*p3)) (if wrap i64 (wrap i64 (32*p3)+32)<(↑(length p5):Int)then wrap i64 (wrap i64 (32*p3)+32)else(↑(length p5):Int)) (↑(length p5):Int)) (gd (p_16 p7 p8 p3 (take (toNat (if wrap i64 (wrap i64 (32*p3)+32)<(↑(length p5):Int)then wrap i64 (wrap i64 (32*p3)+32)else(↑(length p5):Int))-toNat (wrap i64 (32*p3))) (drop (toNat (wrap i64 (32*p3))) p5)) p9) (bif(v_16 p7 p8 p3 (take (toNat (if wrap i64 (wrap i64 (32*p3)+32)<(↑(length p5):Int)then wrap i64 (wrap i64 (32*p3)+32)else(↑(length p5):Int))-toNat (wrap i64 (32*p3))) (drop (toNat (wrap i64 (32*p3))) p5)) p9).2.2.2.1 !=0 then k (E_5_0_1.e0)else K p0 p1 p2 (wrap i64 (p3+1)) p4 p5 p6 ((v_16 p7 p8 p3 (take (toNat (if wrap i64 (wrap i64 (32*p3)+32)<(↑(length p5):Int)then wrap i64 (wrap i64 (32*p3)+32)else(↑(length p5):Int))-toNat (wrap i64 (32*p3))) (drop (toNat (wrap i64 (32*p3))) p5)) p9).1) ((v_16 p7 p8 p3 (take (toNat (if wrap i64 (wrap i64 (32*p3)+32)<(↑(length p5):Int)then wrap i64 (wrap i64 (32*p3)+32)else(↑(length p5):Int))-toNat (wrap i64 (32*p3))) (drop (toNat (wrap i64 (32*p3))) p5)) p9).2.1) ((v_16 p7 p8 p3 (take (toNat (if wrap i64 (wrap i64 (32*p3)+32)<(↑(length p5):Int)then wrap i64 (wrap i64 (32*p3)+32)else(↑(length p5):Int))-toNat (wrap i64 (32*p3))) (drop (toNat (wrap i64 (32*p3))) p5)) p9).2.2.1)))else k (E_5_0_1.e1 p0 p1 p2 p4 p6 p7 p8 p9)
noncomputable def Sp.L_5_0_1:Nat->List Int->Int->Bool->Int->((List Int×List Int×Int×Unit)×List Int×Unit)->List Int->(Int×Int×List Int×(Int×List (List Int)×List (List Int)×Unit)×Unit)->(Int×Int×Int×(Int×Int×List Int×(Int×List (List Int)×List (List Int)×Unit)×Unit)×Unit)->((List Int×List Int×Int×Unit)×List Int×Unit)->(Int×Int×Unit)->Option E_5_0_1
 |0,_,_,_,_,_,_,_,_,_,_=>none
 |m+1,p0,p1,p2,p3,p4,p5,p6,p7,p8,p9=>S_5_0_1 (L_5_0_1 m) some p0 p1 p2 p3 p4 p5 p6 p7 p8 p9
noncomputable def l_5_0_1(m:Nat)(a:T_5_0_1.E):Option E_5_0_1:=L_5_0_1 m a.1 a.2.1 a.2.2.1 a.2.2.2.1 a.2.2.2.2.1 a.2.2.2.2.2.1 a.2.2.2.2.2.2.1 a.2.2.2.2.2.2.2.1 a.2.2.2.2.2.2.2.2.1 a.2.2.2.2.2.2.2.2.2.1
noncomputable def O_5_0_1{R:Type}:Orc R:=orL T_5_0_1 (l_5_0_1 FU) Y_5_0_1
theorem loop_5_0_1{R:Type}(k:Ex->St->Option R):∀m a,evLoopN (evCodeL sm_5 FU (ovr noO (evFn sm_5 fns FU 0)) (mkT (inner (nf 5 0)) []) (inner (nf 5 0))) (St.norm (lv (nf 5 0))) m (T_5_0_1.inst a) k=(l_5_0_1 m a).bind (Y_5_0_1 k):=lpN l_5_0_1 (fun R K k a=>S_5_0_1 (fun p0 p1 p2 p3 p4 p5 p6 p7 p8 p9=>K (p0,p1,p2,p3,p4,p5,p6,p7,p8,p9,())) k a.1 a.2.1 a.2.2.1 a.2.2.2.1 a.2.2.2.2.1 a.2.2.2.2.2.1 a.2.2.2.2.2.2.1 a.2.2.2.2.2.2.2.1 a.2.2.2.2.2.2.2.2.1 a.2.2.2.2.2.2.2.2.2.1) (fun _=>rfl) (fun _ _=>rfl) (fun K a=>by kernel_rfl) (fun K a=>by
 unfold S_5_0_1
 repeat' first|apply gdN|apply condN|rfl)
theorem OK_5_0_1{R:Type}:okF (R:=R) sm_5 0 (nf 5 0) O_5_0_1:=lp0 T_5_0_1 l_5_0_1 (fun R K k a=>S_5_0_1 (fun p0 p1 p2 p3 p4 p5 p6 p7 p8 p9=>K (p0,p1,p2,p3,p4,p5,p6,p7,p8,p9,())) k a.1 a.2.1 a.2.2.1 a.2.2.2.1 a.2.2.2.2.1 a.2.2.2.2.2.1 a.2.2.2.2.2.2.1 a.2.2.2.2.2.2.2.1 a.2.2.2.2.2.2.2.2.1 a.2.2.2.2.2.2.2.2.2.1) Y_5_0_1 (fun _ _ _=>by kernel_rfl) (fun _ _ _=>by
 unfold S_5_0_1
 repeat' first|apply gdN|apply condN|rfl) (ok0 _)
noncomputable def T_5_0:PS:=⟨206,[(5,.kc (.ptr 0 [])),(11,.hv (.slice (.int .u32))),(12,.hv (.int .i64)),(13,.hv .bool),(14,.kc (.whole 1)),(15,.kc (.ptr 2 [])),(16,.kc (.ptr 3 [])),(17,.kc (.ptr 4 [])),(18,.kc (.ptr 5 [])),(20,.hv (.int .i64))],[.mem (.hv Zy5_4),.vec 42 (.int .u32),.mem (.hv Zy5_5),.mem (.hv Zy5_3),.mem (.hv Zy5_4),.mem (.hv (.pair (.int .i64) (.pair (.int .u32) .unit)))],0⟩
inductive Sp.E_5_0 where
 |e0
 |e1 (p0:List Int) (p1:Int) (p2:Bool) (p4:Zt5_1) (p6:Zt5_2) (p7:Zt5_0) (p8:Zt5_1) (p9:Zt5_6)
 |e2
 |e3 (p0:List Int) (p1:Int) (p2:Bool) (p4:Zt5_1) (p6:Zt5_2) (p7:Zt5_0) (p8:Zt5_1) (p9:Zt5_6)
noncomputable def Sp.B_5_0{R:Type}(r:Option E_5_0)(k0:Option R)(k1:List Int->Int->Bool->Zt5_1->Zt5_2->Zt5_0->Zt5_1->Zt5_6->Option R)(k2:Option R)(k3:List Int->Int->Bool->Zt5_1->Zt5_2->Zt5_0->Zt5_1->Zt5_6->Option R):Option R:=match r with
 |none=>none
 |some (.e0)=>k0
 |some (.e1 p0 p1 p2 p4 p6 p7 p8 p9)=>k1 p0 p1 p2 p4 p6 p7 p8 p9
 |some (.e2)=>k2
 |some (.e3 p0 p1 p2 p4 p6 p7 p8 p9)=>k3 p0 p1 p2 p4 p6 p7 p8 p9
noncomputable def Y_5_0{R:Type}(k:Ex->St->Option R):E_5_0->Option R
 | .e0=>k Ex.ret (sx 206 [(10,CV.bool false)] [])
 | .e1 p0 p1 p2 p4 p6 p7 p8 p9=>k (Ex.exit 0) (sx 206 [(5,CV.ptr 0 []),(11,CV.pure (Ty.slice (Ty.int u32)) p0),(12,CV.int i64 p1),(13,CV.bool p2),(15,CV.ptr 1 []),(16,CV.ptr 2 []),(17,CV.ptr 3 []),(18,CV.ptr 4 [])] [Blk.mem (CV.pure (Ty.pair (Ty.pair (Ty.slice (Ty.int u32)) (Ty.pair (Ty.slice (Ty.int i64)) (Ty.pair (Ty.int i64) Ty.unit))) (Ty.pair (Ty.arr 32 (Ty.int u8)) Ty.unit)) p4),Blk.mem (CV.pure (Ty.pair (Ty.int i64) (Ty.pair (Ty.int i64) (Ty.pair (Ty.arr 32 (Ty.int u8)) (Ty.pair (Ty.pair (Ty.int i64) (Ty.pair (Ty.slice (Ty.arr 32 (Ty.int u8))) (Ty.pair (Ty.slice (Ty.arr 32 (Ty.int u8))) Ty.unit))) Ty.unit)))) p6),Blk.mem (CV.pure (Ty.pair (Ty.int i64) (Ty.pair (Ty.int i64) (Ty.pair (Ty.int i64) (Ty.pair (Ty.pair (Ty.int i64) (Ty.pair (Ty.int i64) (Ty.pair (Ty.arr 32 (Ty.int u8)) (Ty.pair (Ty.pair (Ty.int i64) (Ty.pair (Ty.slice (Ty.arr 32 (Ty.int u8))) (Ty.pair (Ty.slice (Ty.arr 32 (Ty.int u8))) Ty.unit))) Ty.unit)))) Ty.unit)))) p7),Blk.mem (CV.pure (Ty.pair (Ty.pair (Ty.slice (Ty.int u32)) (Ty.pair (Ty.slice (Ty.int i64)) (Ty.pair (Ty.int i64) Ty.unit))) (Ty.pair (Ty.arr 32 (Ty.int u8)) Ty.unit)) p8),Blk.mem (CV.pure (Ty.pair (Ty.int i64) (Ty.pair (Ty.int u32) Ty.unit)) p9)])
 | .e2=>k Ex.ret (sx 206 [(10,CV.bool false)] [])
 | .e3 p0 p1 p2 p4 p6 p7 p8 p9=>k (Ex.exit 0) (sx 206 [(5,CV.ptr 0 []),(11,CV.pure (Ty.slice (Ty.int u32)) p0),(12,CV.int i64 p1),(13,CV.bool p2),(15,CV.ptr 1 []),(16,CV.ptr 2 []),(17,CV.ptr 3 []),(18,CV.ptr 4 [])] [Blk.mem (CV.pure (Ty.pair (Ty.pair (Ty.slice (Ty.int u32)) (Ty.pair (Ty.slice (Ty.int i64)) (Ty.pair (Ty.int i64) Ty.unit))) (Ty.pair (Ty.arr 32 (Ty.int u8)) Ty.unit)) p4),Blk.mem (CV.pure (Ty.pair (Ty.int i64) (Ty.pair (Ty.int i64) (Ty.pair (Ty.arr 32 (Ty.int u8)) (Ty.pair (Ty.pair (Ty.int i64) (Ty.pair (Ty.slice (Ty.arr 32 (Ty.int u8))) (Ty.pair (Ty.slice (Ty.arr 32 (Ty.int u8))) Ty.unit))) Ty.unit)))) p6),Blk.mem (CV.pure (Ty.pair (Ty.int i64) (Ty.pair (Ty.int i64) (Ty.pair (Ty.int i64) (Ty.pair (Ty.pair (Ty.int i64) (Ty.pair (Ty.int i64) (Ty.pair (Ty.arr 32 (Ty.int u8)) (Ty.pair (Ty.pair (Ty.int i64) (Ty.pair (Ty.slice (Ty.arr 32 (Ty.int u8))) (Ty.pair (Ty.slice (Ty.arr 32 (Ty.int u8))) Ty.unit))) Ty.unit)))) Ty.unit)))) p7),Blk.mem (CV.pure (Ty.pair (Ty.pair (Ty.slice (Ty.int u32)) (Ty.pair (Ty.slice (Ty.int i64)) (Ty.pair (Ty.int i64) Ty.unit))) (Ty.pair (Ty.arr 32 (Ty.int u8)) Ty.unit)) p8),Blk.mem (CV.pure (Ty.pair (Ty.int i64) (Ty.pair (Ty.int u32) Ty.unit)) p9)])
noncomputable def Sp.S_5_0{R:Type}(K:List Int->Int->Bool->Int->((List Int×List Int×Int×Unit)×List Int×Unit)->List Int->(Int×Int×List Int×(Int×List (List Int)×List (List Int)×Unit)×Unit)->(Int×Int×Int×(Int×Int×List Int×(Int×List (List Int)×List (List Int)×Unit)×Unit)×Unit)->((List Int×List Int×Int×Unit)×List Int×Unit)->(Int×Int×Unit)->Option R)(KB:List Int->Int->Bool->Int->((List Int×List Int×Int×Unit)×List Int×Unit)->List Int->(Int×Int×List Int×(Int×List (List Int)×List (List Int)×Unit)×Unit)->(Int×Int×Int×(Int×Int×List Int×(Int×List (List Int)×List (List Int)×Unit)×Unit)×Unit)->((List Int×List Int×Int×Unit)×List Int×Unit)->(Int×Int×Unit)->Option R)(k:E_5_0->Option R)(p0:List Int)(p1:Int)(p2:Bool)(p3:Int)(p4:(List Int×List Int×Int×Unit)×List Int×Unit)(p5:List Int)(p6:Int×Int×List Int×(Int×List (List Int)×List (List Int)×Unit)×Unit)(p7:Int×Int×Int×(Int×Int×List Int×(Int×List (List Int)×List (List Int)×Unit)×Unit)×Unit)(p8:(List Int×List Int×Int×Unit)×List Int×Unit)(p9:Int×Int×Unit):Option R:=
 bif decide (wrap i64 (p3*32)<(↑(length p5):Int))then gd (sl3 (wrap i64 (32*p3)) (if wrap i64 (wrap i64 (32*p3)+32)<(↑(length p5):Int)then wrap i64 (wrap i64 (32*p3)+32)else(↑(length p5):Int)) (↑(length p5):Int)) (gd (decide (toNat (wrap i64 (32*p3))+(toNat (if wrap i64 (wrap i64 (32*p3)+32)<(↑(length p5):Int)then wrap i64 (wrap i64 (32*p3)+32)else(↑(length p5):Int))-toNat (wrap i64 (32*p3)))<=length p5)&&true&&p_16 p7 p8 p3 (take (toNat (if wrap i64 (wrap i64 (32*p3)+32)<(↑(length p5):Int)then wrap i64 (wrap i64 (32*p3)+32)else(↑(length p5):Int))-toNat (wrap i64 (32*p3))) (drop (toNat (wrap i64 (32*p3))) p5)) p9) (bif(v_16 p7 p8 p3 (take (toNat (if wrap i64 (wrap i64 (32*p3)+32)<(↑(length p5):Int)then wrap i64 (wrap i64 (32*p3)+32)else(↑(length p5):Int))-toNat (wrap i64 (32*p3))) (drop (toNat (wrap i64 (32*p3))) p5)) p9).2.2.2.1 !=0 then k (E_5_0.e0)else KB p0 p1 p2 (wrap i64 (p3+1)) p4 p5 p6 ((v_16 p7 p8 p3 (take (toNat (if wrap i64 (wrap i64 (32*p3)+32)<(↑(length p5):Int)then wrap i64 (wrap i64 (32*p3)+32)else(↑(length p5):Int))-toNat (wrap i64 (32*p3))) (drop (toNat (wrap i64 (32*p3))) p5)) p9).1) ((v_16 p7 p8 p3 (take (toNat (if wrap i64 (wrap i64 (32*p3)+32)<(↑(length p5):Int)then wrap i64 (wrap i64 (32*p3)+32)else(↑(length p5):Int))-toNat (wrap i64 (32*p3))) (drop (toNat (wrap i64 (32*p3))) p5)) p9).2.1) ((v_16 p7 p8 p3 (take (toNat (if wrap i64 (wrap i64 (32*p3)+32)<(↑(length p5):Int)then wrap i64 (wrap i64 (32*p3)+32)else(↑(length p5):Int))-toNat (wrap i64 (32*p3))) (drop (toNat (wrap i64 (32*p3))) p5)) p9).2.2.1)))else k (E_5_0.e1 p0 p1 p2 p4 p6 p7 p8 p9)
noncomputable def C_5_0:E_5_0_1->E_5_0
 | .e0=> .e2
 | .e1 p0 p1 p2 p4 p6 p7 p8 p9=> .e3 p0 p1 p2 p4 p6 p7 p8 p9
theorem BC_5_0(r:Option E_5_0_1):B_5_0_1 r (some (E_5_0.e2)) (fun p0 p1 p2 p4 p6 p7 p8 p9=>some (E_5_0.e3 p0 p1 p2 p4 p6 p7 p8 p9))=r.bind fun e=>some (C_5_0 e):=by
 cases r with
 |none=>rfl
 |some e=>cases e<;>rfl
noncomputable def Sp.L_5_0:Nat->List Int->Int->Bool->Int->((List Int×List Int×Int×Unit)×List Int×Unit)->List Int->(Int×Int×List Int×(Int×List (List Int)×List (List Int)×Unit)×Unit)->(Int×Int×Int×(Int×Int×List Int×(Int×List (List Int)×List (List Int)×Unit)×Unit)×Unit)->((List Int×List Int×Int×Unit)×List Int×Unit)->(Int×Int×Unit)->Option E_5_0
 |0,_,_,_,_,_,_,_,_,_,_=>none
 |m+1,p0,p1,p2,p3,p4,p5,p6,p7,p8,p9=>S_5_0 (L_5_0 m) (fun q0 q1 q2 q3 q4 q5 q6 q7 q8 q9=>B_5_0_1 (L_5_0_1 m q0 q1 q2 q3 q4 q5 q6 q7 q8 q9) (some (E_5_0.e2)) (fun p0 p1 p2 p4 p6 p7 p8 p9=>some (E_5_0.e3 p0 p1 p2 p4 p6 p7 p8 p9))) some p0 p1 p2 p3 p4 p5 p6 p7 p8 p9
noncomputable def l_5_0(m:Nat)(a:T_5_0.E):Option E_5_0:=L_5_0 m a.1 a.2.1 a.2.2.1 a.2.2.2.1 a.2.2.2.2.1 a.2.2.2.2.2.1 a.2.2.2.2.2.2.1 a.2.2.2.2.2.2.2.1 a.2.2.2.2.2.2.2.2.1 a.2.2.2.2.2.2.2.2.2.1
noncomputable def O_5_0{R:Type}:Orc R:=orL T_5_0 (l_5_0 FU) Y_5_0 O_5_0_1
theorem OK_5_0{R:Type}:okF (R:=R) sm_5 0 (nf 5 0) O_5_0:=lp2 noO_ok (os:=[]) trivial T_5_0 T_5_0_1 l_5_0 l_5_0_1 (fun R K KB k a=>S_5_0 (fun p0 p1 p2 p3 p4 p5 p6 p7 p8 p9=>K (p0,p1,p2,p3,p4,p5,p6,p7,p8,p9,())) (fun q0 q1 q2 q3 q4 q5 q6 q7 q8 q9=>KB (q0,q1,q2,q3,q4,q5,q6,q7,q8,q9,())) k a.1 a.2.1 a.2.2.1 a.2.2.2.1 a.2.2.2.2.1 a.2.2.2.2.2.1 a.2.2.2.2.2.2.1 a.2.2.2.2.2.2.2.1 a.2.2.2.2.2.2.2.2.1 a.2.2.2.2.2.2.2.2.2.1) Y_5_0 Y_5_0_1 C_5_0 (fun _=>rfl) (fun m a=>by
 unfold l_5_0
 rw[L_5_0]
 simp only[BC_5_0]
 rfl) (fun k e=>by cases e<;>rfl) (fun k=>loop_5_0_1 k) (fun k K a=>by kernel_rfl) (fun Y K KB a=>by
 unfold S_5_0
 repeat' first|apply gdN|apply condN|rfl) OK_5_0_1
noncomputable def F_5(a0:(((List Int)×((List Int)×(Int×Unit)))×((List Int)×Unit)))(a1:(Int×(Int×((List Int)×((Int×((List (List Int))×((List (List Int))×Unit)))×Unit)))))(a2:(List Int))(a3 a4:Int):Option (Bool) :=
 gd p_8 (bif !v_8.1 then some false else gd (p_15 a0) (bif(v_15 a0).1 then some true else gd (p_9 a1) (bif(v_9 a1).1 then some true else bif decide ((↑(length a2):Int)>100)then some true else bif(↑(length a2):Int)==0 then some true else bif(↑(length a2):Int)!=a1.2.1 then some true else bif a4==0 then some true else gd (p_23 (a1.1) a2) (bif !Ty.beq (Ty.arr 32 (Ty.int u8)) ((v_23 (a1.1) a2).1) (a1.2.2.1)then some true else gd (p_24 a0) (gd (room (length a2) 4) (gd (!(↑(length a2):Int)==0) (gd (inB (Int.tmod (wrap i64 a3) (↑(length a2):Int)) (length a2)) (gd (decide (toNat (Int.tmod (wrap i64 a3) (↑(length a2):Int))<length a2)&&true) (gd (inB (Int.tmod (wrap i64 a3) (↑(length a2):Int)) (length a2)) (gd (decide (toNat (Int.tmod (wrap i64 a3) (↑(length a2):Int))<length a2)&&true&&true) (gd (inB (Int.tmod (wrap i64 a3) 32) 32) (gd (decide (toNat (Int.tmod (wrap i64 a3) 32)<32)&&true) (gd (inB (Int.tmod (wrap i64 a3) 32) 32) (gd (decide (toNat (Int.tmod (wrap i64 a3) 32)<32)&&true) (gd (p_23 (a1.1) (List.set a2 (toNat (Int.tmod (wrap i64 a3) (↑(length a2):Int))) (Sp.xorI u32 (getD a2 (toNat (Int.tmod (wrap i64 a3) (↑(length a2):Int))) 0) a4))) (bif Ty.beq (Ty.arr 32 (Ty.int u8)) ((v_23 (a1.1) (List.set a2 (toNat (Int.tmod (wrap i64 a3) (↑(length a2):Int))) (Sp.xorI u32 (getD a2 (toNat (Int.tmod (wrap i64 a3) (↑(length a2):Int))) 0) a4))).1) (a1.2.2.1)then some true else gd (p_26 (a0.2.1) (List.set (a1.2.2.1) (toNat (Int.tmod (wrap i64 a3) 32)) (Sp.xorI u8 (getD (a1.2.2.1) (toNat (Int.tmod (wrap i64 a3) 32)) 0) (Sp.orI u8 (wrap u8 a4) 1))) (a1.2.2.2.1)) (bif(v_26 (a0.2.1) (List.set (a1.2.2.1) (toNat (Int.tmod (wrap i64 a3) 32)) (Sp.xorI u8 (getD (a1.2.2.1) (toNat (Int.tmod (wrap i64 a3) 32)) 0) (Sp.orI u8 (wrap u8 a4) 1))) (a1.2.2.2.1)).1 then some true else gd p_11 (gd p_28 (gd (p_27 (v_11.1) a0 a1 (v_28.1)) (bif(v_27 (v_11.1) a0 a1 (v_28.1)).2.2.2.1 !=0 then gd (p_10 ((v_27 (v_11.1) a0 a1 (v_28.1)).1)) (some ((v_10 ((v_27 (v_11.1) a0 a1 (v_28.1)).1)).1))else B_5_0 (L_5_0 4611686018427387904 ((v_24 a0).1) ((v_24 a0).2.1) ((v_24 a0).2.2.1) 0 a0 (List.set a2 (toNat (Int.tmod (wrap i64 a3) (↑(length a2):Int))) (Sp.xorI u32 (getD a2 (toNat (Int.tmod (wrap i64 a3) (↑(length a2):Int))) 0) a4)) (a1.1,a1.2.1,List.set (a1.2.2.1) (toNat (Int.tmod (wrap i64 a3) 32)) (Sp.xorI u8 (getD (a1.2.2.1) (toNat (Int.tmod (wrap i64 a3) 32)) 0) (Sp.orI u8 (wrap u8 a4) 1)),a1.2.2.2) ((v_27 (v_11.1) a0 a1 (v_28.1)).1) ((v_27 (v_11.1) a0 a1 (v_28.1)).2.1) ((v_27 (v_11.1) a0 a1 (v_28.1)).2.2.1)) (some false) (fun y20 y21 y22 y23 y24 y25 y26 y27=>gd (p_24 y26) (gd (p_29 y25 y26 y27) (bif(v_29 y25 y26 y27).2.2.2.1 !=14 then some false else bif !(v_24 y26).2.2.1==y22 then some false else bif(v_24 y26).2.1 !=y21 then some false else gd (p_30 ((v_24 y26).1) y20) (bif !(v_30 ((v_24 y26).1) y20).1 then some false else gd p_11 (gd p_28 (gd (p_27 (v_11.1) y23 y24 (v_28.1)) (some ((v_27 (v_11.1) y23 y24 (v_28.1)).2.2.2.1==14)))))))) (some false) fun y28 y29 y30 y31 y32 y33 y34 y35=>gd (p_24 y34) (gd (p_29 y33 y34 y35) (bif(v_29 y33 y34 y35).2.2.2.1 !=14 then some false else bif !(v_24 y34).2.2.1==y30 then some false else bif(v_24 y34).2.1 !=y29 then some false else gd (p_30 ((v_24 y34).1) y28) (bif !(v_30 ((v_24 y34).1) y28).1 then some false else gd p_11 (gd p_28 (gd (p_27 (v_11.1) y31 y32 (v_28.1)) (some ((v_27 (v_11.1) y31 y32 (v_28.1)).2.2.2.1==14)))))))))))))))))))))))))))
theorem run_5(a0:(((List Int)×((List Int)×(Int×Unit)))×((List Int)×Unit)))(a1:(Int×(Int×((List Int)×((Int×((List (List Int))×((List (List Int))×Unit)))×Unit)))))(a2:(List Int))(a3 a4:Int){b:Bool}(h:F_5 a0 a1 a2 a3 a4=some b):evFn sm_5 fns FU 1 5 (ofH A_5 (a0,a1,a2,a3,a4,())) [] bk=some b:=runG noO_ok (os:=[O_5_0]) ⟨OK_5_0,trivial⟩ (Eq.trans (by kernel_rfl) h)
end
end Go.Ev
namespace Go.Proofs
open Go.Shelf
noncomputable def Try.clone25_ren:Go.Shelf.Ren:=⟨fun|41=>25|n=>n,fun|22=>36|23=>42|4=>4|n=>n,fun|n=>n⟩
theorem Try.clone25:Go.Proofs.SlLaysE0.n41 Try.prog Try.clone25_ren:= {
 mixed:=by kernel_rfl
 f41:=⟨Try.f25.name,by decide,Try.func25.trans (congrArg some (by kernel_rfl))⟩
 t4:=Try.underlying4
 a4:=Try.isAgg4
 z4:=Try.sizeOf4
 v4:=Try.zeroValue4
 t22:=Try.underlying36
 a22:=Try.isAgg36
 z22:=Try.sizeOf36
 v22:=Try.zeroValue36}
noncomputable def Try.clone75_ren:Go.Shelf.Ren:=⟨fun|41=>75|n=>n,fun|22=>37|23=>3|4=>4|n=>n,fun|n=>n⟩
theorem Try.clone75:Go.Proofs.SlLaysE0.n41 Try.prog Try.clone75_ren:= {
 mixed:=by kernel_rfl
 f41:=⟨Try.f75.name,by decide,Try.func75.trans (congrArg some (by kernel_rfl))⟩
 t4:=Try.underlying4
 a4:=Try.isAgg4
 z4:=Try.sizeOf4
 v4:=Try.zeroValue4
 t22:=Try.underlying37
 a22:=Try.isAgg37
 z22:=Try.sizeOf37
 v22:=Try.zeroValue37}
end Go.Proofs
namespace Go.Ev
open Go Go.Proofs Go.RowKit
set_option maxRecDepth 100000
set_option maxHeartbeats 4000000
theorem info25:∃i,Try.prog.info? 42=some i/\i.zero=some (.int .u32 0)/\i.size=1/\i.bytes=4:=⟨_,rfl,by kernel_rfl,by kernel_rfl,by kernel_rfl⟩
theorem sok_25:SummOK Try.prog 25 (vecS (.int .u32) 42 4):=by
 obtain⟨i,hi,h0,h1,h2⟩:=info25
 exact clone_vec (by kernel_rfl) (by decide)
  (fun b off n c news w hl hn hb hc h3=>AnyE.slices_Clone Try.clone25 i _ 1 4 hi h0 h1 h2 (by kernel_rfl) (by decide) Try.sizeOf42 b off n c news w hl hn hb hc h3)
  (fun n c w=>AnyE.slices_Clone_nil Try.clone25 n c w)
  (fun a c w=>clone_zero Try.clone25 i _ 1 4 hi h0 h1 h2 (by kernel_rfl) (by decide) Try.sizeOf42 a c w)
theorem info75:∃i,Try.prog.info? 3=some i/\i.zero=some (.int .i64 0)/\i.size=1/\i.bytes=8:=⟨_,rfl,by kernel_rfl,by kernel_rfl,by kernel_rfl⟩
theorem sok_75:SummOK Try.prog 75 (vecS (.int .i64) 3 8):=by
 obtain⟨i,hi,h0,h1,h2⟩:=info75
 exact clone_vec (by kernel_rfl) (by decide)
  (fun b off n c news w hl hn hb hc h3=>AnyE.slices_Clone Try.clone75 i _ 1 8 hi h0 h1 h2 (by kernel_rfl) (by decide) Try.sizeOf3 b off n c news w hl hn hb hc h3)
  (fun n c w=>AnyE.slices_Clone_nil Try.clone75 n c w)
  (fun a c w=>clone_zero Try.clone75 i _ 1 8 hi h0 h1 h2 (by kernel_rfl) (by decide) Try.sizeOf3 a c w)
noncomputable def grow126_ren:Go.Shelf.Ren:=⟨fun|4=>126|n=>n,fun|25=>42|22=>36|20=>20|n=>n,fun|n=>n⟩
theorem grow126_lay:Go.Proofs.Lays8.n4 Try.prog grow126_ren:= {
 mixed:=by kernel_rfl
 f4:=⟨Try.f126.name,by decide,Try.func126.trans (congrArg some (by kernel_rfl))⟩
 t0:=Try.underlying0
 a0:=Try.isAgg0
 z0:=Try.sizeOf0
 v0:=Try.zeroValue0
 t3:=Try.underlying3
 a3:=Try.isAgg3
 z3:=Try.sizeOf3
 v3:=Try.zeroValue3
 t4:=Try.underlying4
 a4:=Try.isAgg4
 z4:=Try.sizeOf4
 v4:=Try.zeroValue4
 t9:=Try.underlying9
 a9:=Try.isAgg9
 z9:=Try.sizeOf9
 v9:=Try.zeroValue9
 t20:=Try.underlying20
 a20:=Try.isAgg20
 z20:=Try.sizeOf20
 v20:=Try.zeroValue20
 t22:=Try.underlying36
 a22:=Try.isAgg36
 z22:=Try.sizeOf36
 v22:=Try.zeroValue36}
theorem growinfo126:∃i,Try.prog.info? 42=some i/\i.zero=some (.int .u32 0)/\i.size=1/\i.bytes=4:=⟨_,rfl,by kernel_rfl,by kernel_rfl,by kernel_rfl⟩
theorem sok_126:SummOK Try.prog 126 (growS (.int .u32) 42 4):=by
 obtain⟨i,hi,h0,h1,h2⟩:=growinfo126
 exact grow_vec (by kernel_rfl) (by decide) (fun n w hn hb=>grow_calls grow126_lay i _ 1 4 hi h0 h1 h2 (by decide) (by decide) (by rfl) n w hn hb)
theorem sok_73:SummOK Try.prog 73 s_73:=sokN hm0 run_73 trivial
theorem sok_36:SummOK Try.prog 36 s_36:=sokN hm0 run_36 ⟨sok_73,trivial⟩
theorem sok_10:SummOK Try.prog 10 s_10:=sokN hm0 run_10 ⟨sok_36,trivial⟩
theorem sok_11:SummOK Try.prog 11 s_11:=sokS hm0 run_11 trivial
theorem sok_37:SummOK Try.prog 37 s_37:=sokN hm0 run_37 trivial
theorem sok_85:SummOK Try.prog 85 s_85:=sokN hm0 run_85 trivial
theorem sok_100:SummOK Try.prog 100 s_100:=sokN hm0 run_100 trivial
theorem sok_74:SummOK Try.prog 74 s_74:=sokS hm0 run_74 ⟨sok_85,sok_100,trivial⟩
theorem sok_38:SummOK Try.prog 38 s_38:=sokN hm0 run_38 ⟨sok_74,trivial⟩
theorem sok_13:SummOK Try.prog 13 s_13:=sokN hm0 run_13 ⟨sok_37,sok_38,trivial⟩
theorem sok_69:SummOK Try.prog 69 s_69:=sokN hm0 run_69 trivial
theorem sok_70:SummOK Try.prog 70 s_70:=sokN hm0 run_70 trivial
theorem sok_33:SummOK Try.prog 33 s_33:=sokN hm0 run_33 ⟨sok_69,sok_70,trivial⟩
theorem sok_84:SummOK Try.prog 84 s_84:=sokS hm0 run_84 trivial
theorem sok_97:SummOK Try.prog 97 s_97:=sokN hm0 run_97 trivial
theorem sok_116:SummOK Try.prog 116 s_116:=sokS hm0 run_116 trivial
theorem sok_117:SummOK Try.prog 117 s_117:=sokS hm0 run_117 trivial
theorem sok_98:SummOK Try.prog 98 s_98:=sokS hm0 run_98 ⟨sok_116,sok_117,sok_123,trivial⟩
theorem sok_71:SummOK Try.prog 71 s_71:=sokS hm0 run_71 ⟨sok_33,sok_84,sok_97,sok_98,trivial⟩
theorem sok_93:SummOK Try.prog 93 s_93:=sokN hm0 run_93 ⟨sok_84,trivial⟩
theorem sok_86:SummOK Try.prog 86 s_86:=sokS hm0 run_86 trivial
theorem sok_120:SummOK Try.prog 120 s_120:=sokN hm0 run_120 trivial
theorem sok_128:SummOK Try.prog 128 s_128:=sokN hm0 run_128 trivial
theorem sok_127:SummOK Try.prog 127 s_127:=sokN hm0 run_127 ⟨sok_128,trivial⟩
theorem sok_110:SummOK Try.prog 110 s_110:=sokN hm0 run_110 ⟨sok_100,sok_120,sok_127,trivial⟩
theorem sok_87:SummOK Try.prog 87 s_87:=sokN hm0 run_87 ⟨sok_110,trivial⟩
theorem sok_88:SummOK Try.prog 88 s_88:=sokN hm0 run_88 ⟨sok_110,trivial⟩
theorem sok_89:SummOK Try.prog 89 s_89:=sokN hm0 run_89 ⟨sok_110,trivial⟩
theorem sok_62:SummOK Try.prog 62 s_62:=sokN hm0 run_62 ⟨sok_85,sok_86,sok_87,sok_88,sok_89,trivial⟩
theorem sok_119:SummOK Try.prog 119 s_119:=sokS hm0 run_119 ⟨sok_126,trivial⟩
theorem sok_109:SummOK Try.prog 109 s_109:=sokN hm0 run_109 ⟨sok_62,sok_71,sok_84,sok_110,sok_116,sok_119,trivial⟩
theorem sok_82:SummOK Try.prog 82 s_82:=sokN hm0 run_82 ⟨sok_33,sok_71,sok_93,sok_109,trivial⟩
theorem sok_54:SummOK Try.prog 54 s_54:=sokN hm0 run_54 ⟨sok_82,trivial⟩
theorem sok_34:SummOK Try.prog 34 s_34:=sokN hm0 run_34 ⟨sok_54,sok_71,trivial⟩
theorem sok_41:SummOK Try.prog 41 s_41:=sokS hm0 run_41 trivial
theorem sok_44:SummOK Try.prog 44 s_44:=sokN hm0 run_44 trivial
theorem sok_61:SummOK Try.prog 61 s_61:=sokN hm0 run_61 trivial
theorem sok_90:SummOK Try.prog 90 s_90:=sokN hm0 run_90 trivial
theorem sok_63:SummOK Try.prog 63 s_63:=sokN hm0 run_63 ⟨sok_90,trivial⟩
theorem sok_65:SummOK Try.prog 65 s_65:=sokS hm0 run_65 ⟨sok_74,trivial⟩
theorem sok_101:SummOK Try.prog 101 s_101:=sokN hm0 run_101 ⟨sok_69,trivial⟩
theorem sok_76:SummOK Try.prog 76 s_76:=sokS hm0 run_76 ⟨sok_25,sok_75,sok_101,trivial⟩
theorem sok_91:SummOK Try.prog 91 s_91:=sokS hm0 run_91 ⟨sok_25,sok_75,sok_101,trivial⟩
theorem sok_27:SummOK Try.prog 27 s_27:=sokS hm0 run_27 ⟨sok_13,sok_25,sok_33,sok_34,sok_37,sok_38,sok_41,sok_44,sok_54,sok_61,sok_62,sok_63,sok_65,sok_75,sok_76,sok_91,trivial⟩
theorem sok_28:SummOK Try.prog 28 s_28:=sokN hm0 run_28 trivial
theorem sok_68:SummOK Try.prog 68 s_68:=sokN hm0 run_68 trivial
theorem sok_32:SummOK Try.prog 32 s_32:=sokN hm0 run_32 ⟨sok_68,trivial⟩
theorem sok_124:SummOK Try.prog 124 s_124:=sokN hm0 run_124 trivial
theorem sok_125:SummOK Try.prog 125 s_125:=sokN hm0 run_125 trivial
theorem sok_118:SummOK Try.prog 118 s_118:=sokN hm0 run_118 ⟨sok_124,sok_125,trivial⟩
theorem sok_99:SummOK Try.prog 99 s_99:=sokS hm0 run_99 ⟨sok_118,trivial⟩
theorem sok_72:SummOK Try.prog 72 s_72:=sokS hm0 run_72 ⟨sok_99,trivial⟩
theorem sok_35:SummOK Try.prog 35 s_35:=sokS hm0 run_35 ⟨sok_70,sok_72,trivial⟩
theorem sok_8:SummOK Try.prog 8 s_8:=sokN hm0 run_8 ⟨sok_10,sok_11,sok_13,sok_27,sok_28,sok_32,sok_35,trivial⟩
theorem sok_9:SummOK Try.prog 9 s_9:=sokN hm0 run_9 trivial
theorem sok_15:SummOK Try.prog 15 s_15:=sokN hm0 run_15 trivial
theorem sok_40:SummOK Try.prog 40 s_40:=sokN hm0 run_40 ⟨sok_13,sok_33,sok_37,sok_38,sok_44,sok_61,trivial⟩
theorem sok_16:SummOK Try.prog 16 s_16:=sokS hm0 run_16 ⟨sok_25,sok_40,sok_41,sok_44,sok_75,sok_76,trivial⟩
theorem sok_80:SummOK Try.prog 80 s_80:=sokS hm0 run_80 trivial
theorem sok_107:SummOK Try.prog 107 s_107:=sokN hm0 run_107 trivial
theorem sok_108:SummOK Try.prog 108 s_108:=sokN hm0 run_108 trivial
theorem sok_81:SummOK Try.prog 81 s_81:=sokN hm0 run_81 ⟨sok_107,sok_108,trivial⟩
theorem sok_53:SummOK Try.prog 53 s_53:=sokN hm0 run_53 ⟨sok_80,sok_81,trivial⟩
theorem sok_23:SummOK Try.prog 23 s_23:=sokN hm0 run_23 ⟨sok_53,trivial⟩
theorem sok_83:SummOK Try.prog 83 s_83:=sokN hm0 run_83 ⟨sok_33,sok_97,sok_109,trivial⟩
theorem sok_55:SummOK Try.prog 55 s_55:=sokS hm0 run_55 ⟨sok_25,sok_83,sok_84,trivial⟩
theorem sok_24:SummOK Try.prog 24 s_24:=sokS hm0 run_24 ⟨sok_34,sok_54,sok_55,trivial⟩
theorem sok_56:SummOK Try.prog 56 s_56:=sokN hm0 run_56 trivial
theorem sok_57:SummOK Try.prog 57 s_57:=sokS hm0 run_57 trivial
theorem sok_58:SummOK Try.prog 58 s_58:=sokN hm0 run_58 ⟨sok_53,trivial⟩
theorem sok_59:SummOK Try.prog 59 s_59:=sokN hm0 run_59 ⟨sok_53,trivial⟩
theorem sok_60:SummOK Try.prog 60 s_60:=sokN hm0 run_60 ⟨sok_53,trivial⟩
theorem sok_26:SummOK Try.prog 26 s_26:=sokN hm0 run_26 ⟨sok_56,sok_57,sok_58,sok_59,sok_60,trivial⟩
theorem sok_66:SummOK Try.prog 66 s_66:=sokS hm0 run_66 ⟨sok_28,sok_34,sok_71,sok_76,sok_83,sok_93,trivial⟩
theorem sok_29:SummOK Try.prog 29 s_29:=sokS hm0 run_29 ⟨sok_40,sok_41,sok_66,trivial⟩
theorem sok_30:SummOK Try.prog 30 s_30:=sokN hm0 run_30 trivial
theorem call_5{R:Type}(n base:Nat):CallOK Try.prog base (rokOf Try.prog smB fns) (evFn (R:=R) sm_5 fns FU n):=callG hm0 (l:=[(8,s_8),(9,s_9),(10,s_10),(11,s_11),(15,s_15),(16,s_16),(23,s_23),(24,s_24),(25,s_25),(26,s_26),(27,s_27),(28,s_28),(29,s_29),(30,s_30)]) ⟨sok_8,sok_9,sok_10,sok_11,sok_15,sok_16,sok_23,sok_24,sok_25,sok_26,sok_27,sok_28,sok_29,sok_30,trivial⟩ n base
end Go.Ev
