/- Helpers: functions of the program as Lean functions, and what they compute. No condition. -/
import Derived.Test.YtaaagikcbnbncaaGreatG6P1
import Derived.Test.YtaaagikcbnbncaaGreatG6P2
import Derived.Test.YtaaagikcbnbncaaGreatProg
import Derived.Test.YtaaagikcbnbncaaGreatE6P2
import Derived.Test.YtaaagikcbnbncaaGreatG6P0
set_option maxRecDepth 10000
set_option linter.unusedVariables false
set_option linter.unusedSimpArgs false
open Go.IntKind (wrap i64 i32 i16 i8 u64 u32 u16 u8)
open List (getD length take drop replicate)
open Int (toNat)
open Go.Ev.Sp
namespace Go.Ev
open Go
set_option maxRecDepth 100000
set_option maxHeartbeats 4000000
set_option linter.unusedVariables false
noncomputable section
abbrev A_64:List Ty:=[(.pair (.int .i64) (.pair (.int .i64) (.pair (.int .i64) (.pair (.pair (.int .i64) (.pair (.int .i64) (.pair (.arr 32 (.int .u8)) (.pair (.pair (.int .i64) (.pair (.slice (.arr 32 (.int .u8))) (.pair (.slice (.arr 32 (.int .u8))) .unit))) .unit)))) .unit)))),(.pair (.pair (.slice (.int .u32)) (.pair (.slice (.int .i64)) (.pair (.int .i64) .unit))) (.pair (.arr 32 (.int .u8)) .unit)),(.pair (.int .i64) (.pair (.int .u32) .unit))]
abbrev R_64:List Ty:=[(.int .i64)]
noncomputable def sm_64:Nat->Option Summ:=smL [(29,s_29),(37,s_37),(39,s_39),(40,s_40),(41,s_41),(43,s_43)]
noncomputable def F_64(a0:(Int×(Int×(Int×((Int×(Int×((List Int)×((Int×((List (List Int))×((List (List Int))×Unit)))×Unit))))×Unit)))))(a1:(((List Int)×((List Int)×(Int×Unit)))×((List Int)×Unit)))(a2:(Int×(Int×Unit))):Option (Int×Unit) :=
 gd (p_37 a0) (bif !(v_37 a0).1 then some (1,PUnit.unit)else gd (p_29 a1) (bif !(v_29 a1).1 then some (1,PUnit.unit)else gd (p_39 a2) (bif !(v_39 a2).1 then some (1,PUnit.unit)else gd (p_43 a0) (bif !(v_43 a0).1 then gd (p_41 a1) (gd (p_40 (a0.2.2.2.1) (wrap i64 ((v_41 a1).1-564))) (bif !(v_40 (a0.2.2.2.1) (wrap i64 ((v_41 a1).1-564))).1 then some (1,PUnit.unit)else some (0,PUnit.unit)))else some (0,PUnit.unit)))))
noncomputable def Sp.p_64(a0:(Int×(Int×(Int×((Int×(Int×((List Int)×((Int×((List (List Int))×((List (List Int))×Unit)))×Unit))))×Unit)))))(a1:(((List Int)×((List Int)×(Int×Unit)))×((List Int)×Unit)))(a2:(Int×(Int×Unit))):Bool:=(F_64 a0 a1 a2).isSome
noncomputable def Sp.v_64(a0:(Int×(Int×(Int×((Int×(Int×((List Int)×((Int×((List (List Int))×((List (List Int))×Unit)))×Unit))))×Unit)))))(a1:(((List Int)×((List Int)×(Int×Unit)))×((List Int)×Unit)))(a2:(Int×(Int×Unit))):Int×Unit:=(F_64 a0 a1 a2).getD (dfH R_64)
noncomputable def s_64:Summ:=shN A_64 R_64 (fun x=>p_64 x.1 x.2.1 x.2.2.1) (fun x=>v_64 x.1 x.2.1 x.2.2.1)
theorem pv_64(a0:(Int×(Int×(Int×((Int×(Int×((List Int)×((Int×((List (List Int))×((List (List Int))×Unit)))×Unit))))×Unit)))))(a1:(((List Int)×((List Int)×(Int×Unit)))×((List Int)×Unit)))(a2:(Int×(Int×Unit))){y:Int×Unit}(h:F_64 a0 a1 a2=some y):p_64 a0 a1 a2=true/\v_64 a0 a1 a2=y:=pvG h
theorem run_64(x:HDen A_64)(y:HDen R_64)(h:F_64 x.1 x.2.1 x.2.2.1=some y):rnF sm_64 1 64 A_64 R_64 x y:=runG noO_ok (os:=[]) trivial (Eq.trans (by kernel_rfl) h)
end
noncomputable section
abbrev A_105:List Ty:=[(.pair (.pair (.slice (.int .u32)) (.pair (.slice (.int .i64)) (.pair (.int .i64) .unit))) (.pair (.arr 32 (.int .u8)) .unit)),(.int .i64)]
abbrev R_105:List Ty:=[(.int .i64)]
noncomputable def sm_105:Nat->Option Summ:=smL [(29,s_29),(120,s_120),(123,s_123)]
noncomputable def F_105(a0:(((List Int)×((List Int)×(Int×Unit)))×((List Int)×Unit)))(a1:Int):Option (Int×Unit) :=
 gd (p_29 a0) (bif !(v_29 a0).1 then some (1,PUnit.unit)else gd (p_120 a1) (bif !(v_120 a1).1 then some (2,PUnit.unit)else gd (p_123 a0 a1) (bif !(v_123 a0 a1).1 then some (14,PUnit.unit)else some (0,PUnit.unit))))
noncomputable def Sp.p_105(a0:(((List Int)×((List Int)×(Int×Unit)))×((List Int)×Unit)))(a1:Int):Bool:=(F_105 a0 a1).isSome
noncomputable def Sp.v_105(a0:(((List Int)×((List Int)×(Int×Unit)))×((List Int)×Unit)))(a1:Int):Int×Unit:=(F_105 a0 a1).getD (dfH R_105)
noncomputable def s_105:Summ:=shN A_105 R_105 (fun x=>p_105 x.1 x.2.1) (fun x=>v_105 x.1 x.2.1)
theorem pv_105(a0:(((List Int)×((List Int)×(Int×Unit)))×((List Int)×Unit)))(a1:Int){y:Int×Unit}(h:F_105 a0 a1=some y):p_105 a0 a1=true/\v_105 a0 a1=y:=pvG h
theorem run_105(x:HDen A_105)(y:HDen R_105)(h:F_105 x.1 x.2.1=some y):rnF sm_105 1 105 A_105 R_105 x y:=runG noO_ok (os:=[]) trivial (Eq.trans (by kernel_rfl) h)
end
noncomputable section
abbrev Zt65_0:Type:=(List Int×List Int×Int×Unit)×List Int×Unit
abbrev Zt65_1:Type:=Int×Int×Unit
abbrev Zy65_2:Ty:=(.pair (.pair (.slice (.int .u32)) (.pair (.slice (.int .i64)) (.pair (.int .i64) .unit))) (.pair (.arr 32 (.int .u8)) .unit))
abbrev Zy65_3:Ty:=(.pair (.int .i64) (.pair (.int .u32) .unit))
abbrev Zt65_4:Type:=((List Int)×((List Int)×(Int×Unit)))×((List Int)×Unit)
abbrev Zt65_5:Type:=Int×(Int×Unit)
abbrev A_65:List Ty:=[(.pair (.pair (.slice (.int .u32)) (.pair (.slice (.int .i64)) (.pair (.int .i64) .unit))) (.pair (.arr 32 (.int .u8)) .unit)),(.int .i64),(.pair (.int .i64) (.pair (.int .u32) .unit))]
abbrev R_65:List Ty:=[(.pair (.pair (.slice (.int .u32)) (.pair (.slice (.int .i64)) (.pair (.int .i64) .unit))) (.pair (.arr 32 (.int .u8)) .unit)),(.pair (.int .i64) (.pair (.int .u32) .unit)),(.int .i64)]
noncomputable def sm_65:Nat->Option Summ:=smL [(36,s_36),(44,s_44),(82,s_82),(93,s_93),(105,s_105),(106,s_106)]
noncomputable def T_65_1:PS:=⟨86,[(1,.hv (.int .i64)),(3,.kc (.ptr 0 [])),(5,.kc (.ptr 1 [])),(6,.kc (.ptr 2 [])),(7,.kc (.ptr 5 [])),(9,.hv (.int .i64))],[.mem (.hv Zy65_2),.mem (.hv Zy65_3),.mem (.pr (.pr (.kc (.whole 3)) (.pr (.kc (.whole 4)) (.hv (.pair (.int .i64) .unit)))) (.hv (.pair (.arr 32 (.int .u8)) .unit))),.vec 37 (.int .u32),.vec 3 (.int .i64),.mem (.hv Zy65_3)],0⟩
inductive Sp.E_65_1 where
 |e0 (p1:Int)
 |e1 (p0:Int) (p2:Zt65_0) (p3:Zt65_1)
 |e2 (p0:Int) (p2:Zt65_0) (p3:Zt65_1)
noncomputable def Sp.B_65_1{R:Type}(r:Option E_65_1)(k0:Int->Option R)(k1 k2:Int->Zt65_0->Zt65_1->Option R):Option R:=match r with
 |none=>none
 |some (.e0 p1)=>k0 p1
 |some (.e1 p0 p2 p3)=>k1 p0 p2 p3
 |some (.e2 p0 p2 p3)=>k2 p0 p2 p3
theorem Bn_65_1{A R:Type}{r:Option E_65_1}{f:A->Option R}{k0:Int->Option A}{k1:Int->Zt65_0->Zt65_1->Option A}{k2:Int->Zt65_0->Zt65_1->Option A}{l0:Int->Option R}{l1:Int->Zt65_0->Zt65_1->Option R}{l2:Int->Zt65_0->Zt65_1->Option R}(h0:∀p1,(k0 p1).bind f=l0 p1)(h1:∀p0 p2 p3,(k1 p0 p2 p3).bind f=l1 p0 p2 p3)(h2:∀p0 p2 p3,(k2 p0 p2 p3).bind f=l2 p0 p2 p3):(B_65_1 r k0 k1 k2).bind f=B_65_1 r l0 l1 l2:=by
 cases r with
 |none=>rfl
 |some e=>cases e<;>first|apply h0|apply h1|apply h2
noncomputable def Y_65_1{R:Type}(k:Ex->St->Option R):E_65_1->Option R
 | .e0 p1=>k Ex.ret (sx 86 [(6,CV.ptr 0 []),(7,CV.ptr 3 []),(8,CV.int i64 p1)] [Blk.mem (CV.pair (CV.pair (CV.whole 1) (CV.pair (CV.whole 2) (CV.pure (Ty.pair (Ty.int i64) Ty.unit) ((0,PUnit.unit):(Int×Unit))))) (CV.pure (Ty.pair (Ty.arr 32 (Ty.int u8)) Ty.unit) ((replicate 32 (0:Int),PUnit.unit):((List Int)×Unit)))),Blk.vec 37 (Ty.int u32) [],Blk.vec 3 (Ty.int i64) [],Blk.mem (CV.pure (Ty.pair (Ty.int i64) (Ty.pair (Ty.int u32) Ty.unit)) ((0,0,PUnit.unit):(Zt65_5)))])
 | .e1 p0 p2 p3=>k Ex.ret (sx 86 [(6,CV.ptr 0 []),(7,CV.ptr 3 []),(8,CV.int i64 ((v_93 (p2.1) (wrap i64 (wrap i64 (Int.tdiv (wrap i64 (p0*(↑(length (p2.1.1)):Int))) 2)+0)) 0 p3).2.2.1))] [Blk.mem (CV.pair (CV.pair (CV.whole 1) (CV.pair (CV.whole 2) (CV.pure (Ty.pair (Ty.int i64) Ty.unit) ((0,PUnit.unit):(Int×Unit))))) (CV.pure (Ty.pair (Ty.arr 32 (Ty.int u8)) Ty.unit) ((replicate 32 (0:Int),PUnit.unit):((List Int)×Unit)))),Blk.vec 37 (Ty.int u32) [],Blk.vec 3 (Ty.int i64) [],Blk.mem (CV.pure (Ty.pair (Ty.int i64) (Ty.pair (Ty.int u32) Ty.unit)) ((0,0,PUnit.unit):(Zt65_5)))])
 | .e2 p0 p2 p3=>k Ex.ret (sx 86 [(6,CV.ptr 0 []),(7,CV.ptr 1 []),(8,CV.int i64 ((v_93 (p2.1) (wrap i64 (wrap i64 (Int.tdiv (wrap i64 (p0*(↑(length (p2.1.1)):Int))) 2)+0)) 0 p3).2.2.1))] [Blk.mem (CV.pure (Ty.pair (Ty.pair (Ty.slice (Ty.int u32)) (Ty.pair (Ty.slice (Ty.int i64)) (Ty.pair (Ty.int i64) Ty.unit))) (Ty.pair (Ty.arr 32 (Ty.int u8)) Ty.unit)) (((v_93 (p2.1) (wrap i64 (wrap i64 (Int.tdiv (wrap i64 (p0*(↑(length (p2.1.1)):Int))) 2)+0)) 0 p3).1,p2.2.1,PUnit.unit):(Zt65_4))),Blk.mem (CV.pure (Ty.pair (Ty.int i64) (Ty.pair (Ty.int u32) Ty.unit)) (((v_93 (p2.1) (wrap i64 (wrap i64 (Int.tdiv (wrap i64 (p0*(↑(length (p2.1.1)):Int))) 2)+0)) 0 p3).2.1):(Zt65_5)))])
noncomputable def Sp.S_65_1{R:Type}(k:E_65_1->Option R)(p0 p1:Int)(p2:(List Int×List Int×Int×Unit)×List Int×Unit)(p3:Int×Int×Unit)(p4:Int×Unit)(p5:List Int×Unit)(p6 p7:List Int)(p8:Int×Int×Unit):Option R:=
 bif p1 !=0 then k (E_65_1.e0 p1)else gd (p_93 (p2.1) (wrap i64 (wrap i64 (Int.tdiv (wrap i64 (p0*(↑(length (p2.1.1)):Int))) 2)+0)) 0 p3) (bif(v_93 (p2.1) (wrap i64 (wrap i64 (Int.tdiv (wrap i64 (p0*(↑(length (p2.1.1)):Int))) 2)+0)) 0 p3).2.2.1 !=0 then bif(v_93 (p2.1) (wrap i64 (wrap i64 (Int.tdiv (wrap i64 (p0*(↑(length (p2.1.1)):Int))) 2)+0)) 0 p3).2.2.1 !=18 then k (E_65_1.e1 p0 p2 p3)else k (E_65_1.e2 p0 p2 p3)else k (E_65_1.e2 p0 p2 p3))
noncomputable def Sp.J_65_1(p0 p1:Int)(p2:(List Int×List Int×Int×Unit)×List Int×Unit)(p3:Int×Int×Unit)(p4:Int×Unit)(p5:List Int×Unit)(p6 p7:List Int)(p8:Int×Int×Unit):Option E_65_1:=S_65_1 some p0 p1 p2 p3 p4 p5 p6 p7 p8
noncomputable def O_65_1{R:Type}:Orc R:=orL T_65_1 (fun a=>J_65_1 a.1 a.2.1 a.2.2.1 a.2.2.2.1 a.2.2.2.2.1 a.2.2.2.2.2.1 a.2.2.2.2.2.2.1 a.2.2.2.2.2.2.2.1 a.2.2.2.2.2.2.2.2.1) Y_65_1
theorem OK_65_1{R:Type}:okF (R:=R) sm_65 0 (ni (nf 65 0) 0) O_65_1:=jp noO_ok (os:=[]) trivial T_65_1 (fun R k a=>S_65_1 k a.1 a.2.1 a.2.2.1 a.2.2.2.1 a.2.2.2.2.1 a.2.2.2.2.2.1 a.2.2.2.2.2.2.1 a.2.2.2.2.2.2.2.1 a.2.2.2.2.2.2.2.2.1) Y_65_1 (fun k a=>by kernel_rfl) (fun Y a=>by
 unfold S_65_1
 repeat' first|apply gdN|apply condN|rfl) (ok0 _)
noncomputable def T_65_0:PS:=⟨86,[(1,.hv (.int .i64)),(3,.kc (.ptr 0 [])),(5,.kc (.ptr 1 [])),(6,.kc (.ptr 2 [])),(7,.kc (.ptr 5 [])),(9,.hv (.int .i64))],[.mem (.hv Zy65_2),.mem (.hv Zy65_3),.mem (.pr (.pr (.kc (.whole 3)) (.pr (.kc (.whole 4)) (.hv (.pair (.int .i64) .unit)))) (.hv (.pair (.arr 32 (.int .u8)) .unit))),.vec 37 (.int .u32),.vec 3 (.int .i64),.mem (.hv Zy65_3)],0⟩
inductive Sp.E_65_0 where
 |e0 (y21:Int)
 |e1 (y22:Int) (y23:Zt65_0) (y24:Zt65_1)
 |e2 (y25:Int) (y26:Zt65_0) (y27:Zt65_1)
noncomputable def Sp.B_65_0{R:Type}(r:Option E_65_0)(k0:Int->Option R)(k1 k2:Int->Zt65_0->Zt65_1->Option R):Option R:=match r with
 |none=>none
 |some (.e0 y21)=>k0 y21
 |some (.e1 y22 y23 y24)=>k1 y22 y23 y24
 |some (.e2 y25 y26 y27)=>k2 y25 y26 y27
noncomputable def Y_65_0{R:Type}(k:Ex->St->Option R):E_65_0->Option R
 | .e0 y21=>k Ex.ret (sx 86 [(6,CV.ptr 0 []),(7,CV.ptr 3 []),(8,CV.int i64 y21)] [Blk.mem (CV.pair (CV.pair (CV.whole 1) (CV.pair (CV.whole 2) (CV.pure (Ty.pair (Ty.int i64) Ty.unit) ((0,PUnit.unit):(Int×Unit))))) (CV.pure (Ty.pair (Ty.arr 32 (Ty.int u8)) Ty.unit) ((replicate 32 (0:Int),PUnit.unit):((List Int)×Unit)))),Blk.vec 37 (Ty.int u32) [],Blk.vec 3 (Ty.int i64) [],Blk.mem (CV.pure (Ty.pair (Ty.int i64) (Ty.pair (Ty.int u32) Ty.unit)) ((0,0,PUnit.unit):(Zt65_5)))])
 | .e1 y22 y23 y24=>k Ex.ret (sx 86 [(6,CV.ptr 0 []),(7,CV.ptr 3 []),(8,CV.int i64 ((v_93 (y23.1) (wrap i64 (wrap i64 (Int.tdiv (wrap i64 (y22*(↑(length (y23.1.1)):Int))) 2)+0)) 0 y24).2.2.1))] [Blk.mem (CV.pair (CV.pair (CV.whole 1) (CV.pair (CV.whole 2) (CV.pure (Ty.pair (Ty.int i64) Ty.unit) ((0,PUnit.unit):(Int×Unit))))) (CV.pure (Ty.pair (Ty.arr 32 (Ty.int u8)) Ty.unit) ((replicate 32 (0:Int),PUnit.unit):((List Int)×Unit)))),Blk.vec 37 (Ty.int u32) [],Blk.vec 3 (Ty.int i64) [],Blk.mem (CV.pure (Ty.pair (Ty.int i64) (Ty.pair (Ty.int u32) Ty.unit)) ((0,0,PUnit.unit):(Zt65_5)))])
 | .e2 y25 y26 y27=>k Ex.ret (sx 86 [(6,CV.ptr 0 []),(7,CV.ptr 1 []),(8,CV.int i64 ((v_93 (y26.1) (wrap i64 (wrap i64 (Int.tdiv (wrap i64 (y25*(↑(length (y26.1.1)):Int))) 2)+0)) 0 y27).2.2.1))] [Blk.mem (CV.pure (Ty.pair (Ty.pair (Ty.slice (Ty.int u32)) (Ty.pair (Ty.slice (Ty.int i64)) (Ty.pair (Ty.int i64) Ty.unit))) (Ty.pair (Ty.arr 32 (Ty.int u8)) Ty.unit)) (((v_93 (y26.1) (wrap i64 (wrap i64 (Int.tdiv (wrap i64 (y25*(↑(length (y26.1.1)):Int))) 2)+0)) 0 y27).1,y26.2.1,PUnit.unit):(Zt65_4))),Blk.mem (CV.pure (Ty.pair (Ty.int i64) (Ty.pair (Ty.int u32) Ty.unit)) (((v_93 (y26.1) (wrap i64 (wrap i64 (Int.tdiv (wrap i64 (y25*(↑(length (y26.1.1)):Int))) 2)+0)) 0 y27).2.1):(Zt65_5)))])
noncomputable def Sp.S_65_0{R:Type}(k:E_65_0->Option R)(p0 p1:Int)(p2:(List Int×List Int×Int×Unit)×List Int×Unit)(p3:Int×Int×Unit)(p4:Int×Unit)(p5:List Int×Unit)(p6 p7:List Int)(p8:Int×Int×Unit):Option R:=
 gd (p_82 p2 p0) (bif p1==0 then gd (p_44 p2) (bif decide ((v_82 p2 p0).1.1<(v_44 p2).1)then B_65_1 (J_65_1 p0 20 p2 p3 p4 p5 p6 p7 p8) (fun y21=>k (E_65_0.e0 y21)) (fun y22 y23 y24=>k (E_65_0.e1 y22 y23 y24)) fun y25 y26 y27=>k (E_65_0.e2 y25 y26 y27)else B_65_1 (J_65_1 p0 p1 p2 p3 p4 p5 p6 p7 p8) (fun y28=>k (E_65_0.e0 y28)) (fun y29 y30 y31=>k (E_65_0.e1 y29 y30 y31)) fun y32 y33 y34=>k (E_65_0.e2 y32 y33 y34))else B_65_1 (J_65_1 p0 p1 p2 p3 p4 p5 p6 p7 p8) (fun y35=>k (E_65_0.e0 y35)) (fun y36 y37 y38=>k (E_65_0.e1 y36 y37 y38)) fun y39 y40 y41=>k (E_65_0.e2 y39 y40 y41))
noncomputable def Sp.J_65_0(p0 p1:Int)(p2:(List Int×List Int×Int×Unit)×List Int×Unit)(p3:Int×Int×Unit)(p4:Int×Unit)(p5:List Int×Unit)(p6 p7:List Int)(p8:Int×Int×Unit):Option E_65_0:=S_65_0 some p0 p1 p2 p3 p4 p5 p6 p7 p8
noncomputable def O_65_0{R:Type}:Orc R:=orL T_65_0 (fun a=>J_65_0 a.1 a.2.1 a.2.2.1 a.2.2.2.1 a.2.2.2.2.1 a.2.2.2.2.2.1 a.2.2.2.2.2.2.1 a.2.2.2.2.2.2.2.1 a.2.2.2.2.2.2.2.2.1) Y_65_0
theorem OK_65_0{R:Type}:okF (R:=R) sm_65 0 (nf 65 0) O_65_0:=jp noO_ok (os:=[O_65_1]) ⟨OK_65_1,trivial⟩ T_65_0 (fun R k a=>S_65_0 k a.1 a.2.1 a.2.2.1 a.2.2.2.1 a.2.2.2.2.1 a.2.2.2.2.2.1 a.2.2.2.2.2.2.1 a.2.2.2.2.2.2.2.1 a.2.2.2.2.2.2.2.2.1) Y_65_0 (fun k a=>by kernel_rfl) (fun Y a=>by
 unfold S_65_0
 repeat' first|apply gdN|apply condN|(apply Bn_65_1<;>intros)|rfl) (ok0 _)
noncomputable def F_65(a0:(((List Int)×((List Int)×(Int×Unit)))×((List Int)×Unit)))(a1:Int)(a2:(Int×(Int×Unit))):Option ((((List Int)×((List Int)×(Int×Unit)))×((List Int)×Unit))×(Int×(Int×Unit))×Int×Unit) :=
 bif decide (a2.1<0)then some ((([],[],0,PUnit.unit),replicate 32 (0:Int),PUnit.unit),(0,0,PUnit.unit),1,PUnit.unit)else gd p_36 (bif decide (a2.1>v_36.1.1)then some ((([],[],0,PUnit.unit),replicate 32 (0:Int),PUnit.unit),(0,0,PUnit.unit),1,PUnit.unit)else gd (p_105 a0 a1) (bif(v_105 a0 a1).1==0 then gd (p_106 a0 a1) (bif(v_106 a0 a1).1 then B_65_0 (J_65_0 a1 6 a0 a2 (0,PUnit.unit) (replicate 32 (0:Int),PUnit.unit) [] [] (0,0,PUnit.unit)) (fun y25=>some ((([],[],0,PUnit.unit),replicate 32 (0:Int),PUnit.unit),(0,0,PUnit.unit),y25,PUnit.unit)) (fun y26 y27 y28=>some ((([],[],0,PUnit.unit),replicate 32 (0:Int),PUnit.unit),(0,0,PUnit.unit),(v_93 (y27.1) (wrap i64 (wrap i64 (Int.tdiv (wrap i64 (y26*(↑(length (y27.1.1)):Int))) 2)+0)) 0 y28).2.2.1,PUnit.unit)) fun y29 y30 y31=>some (((v_93 (y30.1) (wrap i64 (wrap i64 (Int.tdiv (wrap i64 (y29*(↑(length (y30.1.1)):Int))) 2)+0)) 0 y31).1,y30.2.1,PUnit.unit),(v_93 (y30.1) (wrap i64 (wrap i64 (Int.tdiv (wrap i64 (y29*(↑(length (y30.1.1)):Int))) 2)+0)) 0 y31).2.1,(v_93 (y30.1) (wrap i64 (wrap i64 (Int.tdiv (wrap i64 (y29*(↑(length (y30.1.1)):Int))) 2)+0)) 0 y31).2.2.1,PUnit.unit)else B_65_0 (J_65_0 a1 ((v_105 a0 a1).1) a0 a2 (0,PUnit.unit) (replicate 32 (0:Int),PUnit.unit) [] [] (0,0,PUnit.unit)) (fun y32=>some ((([],[],0,PUnit.unit),replicate 32 (0:Int),PUnit.unit),(0,0,PUnit.unit),y32,PUnit.unit)) (fun y33 y34 y35=>some ((([],[],0,PUnit.unit),replicate 32 (0:Int),PUnit.unit),(0,0,PUnit.unit),(v_93 (y34.1) (wrap i64 (wrap i64 (Int.tdiv (wrap i64 (y33*(↑(length (y34.1.1)):Int))) 2)+0)) 0 y35).2.2.1,PUnit.unit)) fun y36 y37 y38=>some (((v_93 (y37.1) (wrap i64 (wrap i64 (Int.tdiv (wrap i64 (y36*(↑(length (y37.1.1)):Int))) 2)+0)) 0 y38).1,y37.2.1,PUnit.unit),(v_93 (y37.1) (wrap i64 (wrap i64 (Int.tdiv (wrap i64 (y36*(↑(length (y37.1.1)):Int))) 2)+0)) 0 y38).2.1,(v_93 (y37.1) (wrap i64 (wrap i64 (Int.tdiv (wrap i64 (y36*(↑(length (y37.1.1)):Int))) 2)+0)) 0 y38).2.2.1,PUnit.unit))else B_65_0 (J_65_0 a1 ((v_105 a0 a1).1) a0 a2 (0,PUnit.unit) (replicate 32 (0:Int),PUnit.unit) [] [] (0,0,PUnit.unit)) (fun y39=>some ((([],[],0,PUnit.unit),replicate 32 (0:Int),PUnit.unit),(0,0,PUnit.unit),y39,PUnit.unit)) (fun y40 y41 y42=>some ((([],[],0,PUnit.unit),replicate 32 (0:Int),PUnit.unit),(0,0,PUnit.unit),(v_93 (y41.1) (wrap i64 (wrap i64 (Int.tdiv (wrap i64 (y40*(↑(length (y41.1.1)):Int))) 2)+0)) 0 y42).2.2.1,PUnit.unit)) fun y43 y44 y45=>some (((v_93 (y44.1) (wrap i64 (wrap i64 (Int.tdiv (wrap i64 (y43*(↑(length (y44.1.1)):Int))) 2)+0)) 0 y45).1,y44.2.1,PUnit.unit),(v_93 (y44.1) (wrap i64 (wrap i64 (Int.tdiv (wrap i64 (y43*(↑(length (y44.1.1)):Int))) 2)+0)) 0 y45).2.1,(v_93 (y44.1) (wrap i64 (wrap i64 (Int.tdiv (wrap i64 (y43*(↑(length (y44.1.1)):Int))) 2)+0)) 0 y45).2.2.1,PUnit.unit)))
noncomputable def Sp.p_65(a0:(((List Int)×((List Int)×(Int×Unit)))×((List Int)×Unit)))(a1:Int)(a2:(Int×(Int×Unit))):Bool:=(F_65 a0 a1 a2).isSome
noncomputable def Sp.v_65(a0:(((List Int)×((List Int)×(Int×Unit)))×((List Int)×Unit)))(a1:Int)(a2:(Int×(Int×Unit))):(((List Int)×((List Int)×(Int×Unit)))×((List Int)×Unit))×(Int×(Int×Unit))×Int×Unit:=(F_65 a0 a1 a2).getD (dfH R_65)
noncomputable def s_65:Summ:=shS A_65 R_65 (fun x=>p_65 x.1 x.2.1 x.2.2.1) (fun x=>v_65 x.1 x.2.1 x.2.2.1)
theorem pv_65(a0:(((List Int)×((List Int)×(Int×Unit)))×((List Int)×Unit)))(a1:Int)(a2:(Int×(Int×Unit))){y:(((List Int)×((List Int)×(Int×Unit)))×((List Int)×Unit))×(Int×(Int×Unit))×Int×Unit}(h:F_65 a0 a1 a2=some y):p_65 a0 a1 a2=true/\v_65 a0 a1 a2=y:=pvG h
theorem run_65(x:HDen A_65)(y:HDen R_65)(h:F_65 x.1 x.2.1 x.2.2.1=some y):rnF sm_65 1 65 A_65 R_65 x y:=runG noO_ok (os:=[O_65_0]) ⟨OK_65_0,trivial⟩ (Eq.trans (by kernel_rfl) h)
end
noncomputable section
abbrev A_19:List Ty:=[(.pair (.int .i64) (.pair (.int .i64) (.pair (.int .i64) (.pair (.pair (.int .i64) (.pair (.int .i64) (.pair (.arr 32 (.int .u8)) (.pair (.pair (.int .i64) (.pair (.slice (.arr 32 (.int .u8))) (.pair (.slice (.arr 32 (.int .u8))) .unit))) .unit)))) .unit)))),(.pair (.pair (.slice (.int .u32)) (.pair (.slice (.int .i64)) (.pair (.int .i64) .unit))) (.pair (.arr 32 (.int .u8)) .unit)),(.pair (.int .i64) (.pair (.int .u32) .unit))]
abbrev R_19:List Ty:=[(.pair (.int .i64) (.pair (.int .i64) (.pair (.int .i64) (.pair (.pair (.int .i64) (.pair (.int .i64) (.pair (.arr 32 (.int .u8)) (.pair (.pair (.int .i64) (.pair (.slice (.arr 32 (.int .u8))) (.pair (.slice (.arr 32 (.int .u8))) .unit))) .unit)))) .unit)))),(.pair (.pair (.slice (.int .u32)) (.pair (.slice (.int .i64)) (.pair (.int .i64) .unit))) (.pair (.arr 32 (.int .u8)) .unit)),(.pair (.int .i64) (.pair (.int .u32) .unit)),(.int .i64)]
noncomputable def sm_19:Nat->Option Summ:=smL [(42,s_42),(64,s_64),(65,s_65)]
noncomputable def F_19(a0:(Int×(Int×(Int×((Int×(Int×((List Int)×((Int×((List (List Int))×((List (List Int))×Unit)))×Unit))))×Unit)))))(a1:(((List Int)×((List Int)×(Int×Unit)))×((List Int)×Unit)))(a2:(Int×(Int×Unit))):Option ((Int×(Int×(Int×((Int×(Int×((List Int)×((Int×((List (List Int))×((List (List Int))×Unit)))×Unit))))×Unit))))×(((List Int)×((List Int)×(Int×Unit)))×((List Int)×Unit))×(Int×(Int×Unit))×Int×Unit) :=
 gd (p_64 a0 a1 a2) (bif(v_64 a0 a1 a2).1 !=0 then gd (p_42 ((v_64 a0 a1 a2).1)) (some ((v_42 ((v_64 a0 a1 a2).1)).1,(v_42 ((v_64 a0 a1 a2).1)).2.1,(v_42 ((v_64 a0 a1 a2).1)).2.2.1,(v_42 ((v_64 a0 a1 a2).1)).2.2.2.1,PUnit.unit))else bif a0.1 !=2 then gd (p_42 6) (some ((v_42 6).1,(v_42 6).2.1,(v_42 6).2.2.1,(v_42 6).2.2.2.1,PUnit.unit))else gd (p_65 a1 (a0.2.1) a2) (bif(v_65 a1 (a0.2.1) a2).2.2.1==0 then some ((0,0,0,(0,0,replicate 32 (0:Int),(0,[],[],PUnit.unit),PUnit.unit),PUnit.unit),(v_65 a1 (a0.2.1) a2).1,(v_65 a1 (a0.2.1) a2).2.1,0,PUnit.unit)else bif(v_65 a1 (a0.2.1) a2).2.2.1==18 then some ((0,0,0,(0,0,replicate 32 (0:Int),(0,[],[],PUnit.unit),PUnit.unit),PUnit.unit),(v_65 a1 (a0.2.1) a2).1,(v_65 a1 (a0.2.1) a2).2.1,18,PUnit.unit)else gd (p_42 ((v_65 a1 (a0.2.1) a2).2.2.1)) (some ((v_42 ((v_65 a1 (a0.2.1) a2).2.2.1)).1,(v_42 ((v_65 a1 (a0.2.1) a2).2.2.1)).2.1,(v_42 ((v_65 a1 (a0.2.1) a2).2.2.1)).2.2.1,(v_42 ((v_65 a1 (a0.2.1) a2).2.2.1)).2.2.2.1,PUnit.unit))))
noncomputable def Sp.p_19(a0:(Int×(Int×(Int×((Int×(Int×((List Int)×((Int×((List (List Int))×((List (List Int))×Unit)))×Unit))))×Unit)))))(a1:(((List Int)×((List Int)×(Int×Unit)))×((List Int)×Unit)))(a2:(Int×(Int×Unit))):Bool:=(F_19 a0 a1 a2).isSome
noncomputable def Sp.v_19(a0:(Int×(Int×(Int×((Int×(Int×((List Int)×((Int×((List (List Int))×((List (List Int))×Unit)))×Unit))))×Unit)))))(a1:(((List Int)×((List Int)×(Int×Unit)))×((List Int)×Unit)))(a2:(Int×(Int×Unit))):(Int×(Int×(Int×((Int×(Int×((List Int)×((Int×((List (List Int))×((List (List Int))×Unit)))×Unit))))×Unit))))×(((List Int)×((List Int)×(Int×Unit)))×((List Int)×Unit))×(Int×(Int×Unit))×Int×Unit:=(F_19 a0 a1 a2).getD (dfH R_19)
noncomputable def s_19:Summ:=shS A_19 R_19 (fun x=>p_19 x.1 x.2.1 x.2.2.1) (fun x=>v_19 x.1 x.2.1 x.2.2.1)
theorem pv_19(a0:(Int×(Int×(Int×((Int×(Int×((List Int)×((Int×((List (List Int))×((List (List Int))×Unit)))×Unit))))×Unit)))))(a1:(((List Int)×((List Int)×(Int×Unit)))×((List Int)×Unit)))(a2:(Int×(Int×Unit))){y:(Int×(Int×(Int×((Int×(Int×((List Int)×((Int×((List (List Int))×((List (List Int))×Unit)))×Unit))))×Unit))))×(((List Int)×((List Int)×(Int×Unit)))×((List Int)×Unit))×(Int×(Int×Unit))×Int×Unit}(h:F_19 a0 a1 a2=some y):p_19 a0 a1 a2=true/\v_19 a0 a1 a2=y:=pvG h
theorem run_19(x:HDen A_19)(y:HDen R_19)(h:F_19 x.1 x.2.1 x.2.2.1=some y):rnF sm_19 2 19 A_19 R_19 x y:=runG noO_ok (os:=[]) trivial (Eq.trans (by kernel_rfl) h)
end
noncomputable section
abbrev Zt68_0:Type:=Int×Int×Int×(Int×Int×List Int×(Int×List (List Int)×List (List Int)×Unit)×Unit)×Unit
abbrev Zt68_1:Type:=((List Int×List Int×Int×Unit)×List Int×Unit)×(Int×Int×Unit)×Int×Unit
abbrev Zy68_2:Ty:=(.pair (.int .i64) (.pair (.int .i64) (.pair (.int .i64) (.pair (.pair (.int .i64) (.pair (.int .i64) (.pair (.arr 32 (.int .u8)) (.pair (.pair (.int .i64) (.pair (.slice (.arr 32 (.int .u8))) (.pair (.slice (.arr 32 (.int .u8))) .unit))) .unit)))) .unit))))
abbrev Zt68_3:Type:=(List Int×List Int×Int×Unit)×List Int×Unit
abbrev Zt68_4:Type:=(Int×Int×Unit)×Int×Unit
abbrev Zy68_5:Ty:=(.pair (.pair (.pair (.slice (.int .u32)) (.pair (.slice (.int .i64)) (.pair (.int .i64) .unit))) (.pair (.arr 32 (.int .u8)) .unit)) (.pair (.pair (.int .i64) (.pair (.int .u32) .unit)) (.pair (.int .i64) .unit)))
abbrev Zt68_6:Type:=Int×Int×Unit
abbrev Zt68_7:Type:=List Int×Unit
abbrev Zy68_8:Ty:=(.pair (.int .i64) (.pair (.int .u32) .unit))
abbrev Zt68_9:Type:=(((List Int)×((List Int)×(Int×Unit)))×((List Int)×Unit))
abbrev Zt68_10:Type:=(Int×(Int×(Int×((Int×(Int×((List Int)×((Int×((List (List Int))×((List (List Int))×Unit)))×Unit))))×Unit))))
abbrev Zy68_11:Ty:=(.pair (.pair (.slice (.int .u32)) (.pair (.slice (.int .i64)) (.pair (.int .i64) .unit))) (.pair (.arr 32 (.int .u8)) .unit))
abbrev Zy68_12:Ty:=(.pair (.arr 32 (.int .u8)) .unit)
abbrev Zy68_13:Ty:=(.pair (.pair (.int .i64) (.pair (.int .u32) .unit)) (.pair (.int .i64) .unit))
abbrev Zt68_14:Type:=(Int×(Int×Unit))
abbrev A_68:List Ty:=[(.pair (.int .i64) (.pair (.int .i64) (.pair (.int .i64) (.pair (.pair (.int .i64) (.pair (.int .i64) (.pair (.arr 32 (.int .u8)) (.pair (.pair (.int .i64) (.pair (.slice (.arr 32 (.int .u8))) (.pair (.slice (.arr 32 (.int .u8))) .unit))) .unit)))) .unit)))),(.pair (.pair (.slice (.int .u32)) (.pair (.slice (.int .i64)) (.pair (.int .i64) .unit))) (.pair (.arr 32 (.int .u8)) .unit)),(.int .i64),(.slice (.int .u32)),(.pair (.int .i64) (.pair (.int .u32) .unit))]
abbrev R_68:List Ty:=[(.pair (.int .i64) (.pair (.int .i64) (.pair (.int .i64) (.pair (.pair (.int .i64) (.pair (.int .i64) (.pair (.arr 32 (.int .u8)) (.pair (.pair (.int .i64) (.pair (.slice (.arr 32 (.int .u8))) (.pair (.slice (.arr 32 (.int .u8))) .unit))) .unit)))) .unit)))),(.pair (.pair (.slice (.int .u32)) (.pair (.slice (.int .i64)) (.pair (.int .i64) .unit))) (.pair (.arr 32 (.int .u8)) .unit)),(.pair (.int .i64) (.pair (.int .u32) .unit)),(.int .i64)]
noncomputable def sm_68:Nat->Option Summ:=smL [(41,s_41),(42,s_42),(64,s_64),(90,s_90),(91,s_91),(93,s_93)]
noncomputable def T_68_50_0_1:PS:=⟨49,[(0,.kc (.ptr 6 [])),(1,.hv (.int .i64)),(8,.hv (.slice (.int .u32))),(9,.hv (.int .i64)),(10,.hv (.int .i64))],[.mem (.hv Zy68_2),.mem (.hv Zy68_11),.mem (.hv Zy68_8),.mem (.pr (.hv (.int .i64)) (.pr (.hv (.int .i64)) (.pr (.hv (.int .i64)) (.pr (.pr (.hv (.int .i64)) (.pr (.hv (.int .i64)) (.pr (.hv (.arr 32 (.int .u8))) (.pr (.pr (.hv (.int .i64)) (.kc (.pair (.nil 23 (.arr 32 (.int .u8))) (.pair (.nil 23 (.arr 32 (.int .u8))) (.pure .unit PUnit.unit))))) (.kc (.pure .unit PUnit.unit)))))) (.kc (.pure .unit PUnit.unit)))))),.mem (.pr (.pr (.kc (.nil 37 (.int .u32))) (.pr (.kc (.nil 3 (.int .i64))) (.hv (.pair (.int .i64) .unit)))) (.hv Zy68_12)),.mem (.hv Zy68_8),.mem (.hv Zy68_5),.fvec 37 (.int .u32),.fvec 3 (.int .i64),.fresh],10⟩
inductive Sp.E_68_50_0_1 where
 |e0 (p4:Zt68_0) (p5:Zt68_3) (p6:Zt68_6) (p7 p8 p9 p10 p11:Int) (p12:List Int) (p13:Int) (p14:Int×Unit) (p15:Zt68_7) (p16:Zt68_6) (p17:Zt68_1) (p18 p19:List Int)
noncomputable def Sp.B_68_50_0_1{R:Type}(r:Option E_68_50_0_1)(k0:Zt68_0->Zt68_3->Zt68_6->Int->Int->Int->Int->Int->List Int->Int->(Int×Unit)->Zt68_7->Zt68_6->Zt68_1->List Int->List Int->Option R):Option R:=match r with
 |none=>none
 |some (.e0 p4 p5 p6 p7 p8 p9 p10 p11 p12 p13 p14 p15 p16 p17 p18 p19)=>k0 p4 p5 p6 p7 p8 p9 p10 p11 p12 p13 p14 p15 p16 p17 p18 p19
noncomputable def Y_68_50_0_1{R:Type}(k:Ex->St->Option R):E_68_50_0_1->Option R
 | .e0 p4 p5 p6 p7 p8 p9 p10 p11 p12 p13 p14 p15 p16 p17 p18 p19=>k (Ex.exit 0) (sx 49 [] [Blk.mem (CV.pure (Ty.pair (Ty.int i64) (Ty.pair (Ty.int i64) (Ty.pair (Ty.int i64) (Ty.pair (Ty.pair (Ty.int i64) (Ty.pair (Ty.int i64) (Ty.pair (Ty.arr 32 (Ty.int u8)) (Ty.pair (Ty.pair (Ty.int i64) (Ty.pair (Ty.slice (Ty.arr 32 (Ty.int u8))) (Ty.pair (Ty.slice (Ty.arr 32 (Ty.int u8))) Ty.unit))) Ty.unit)))) Ty.unit)))) p4),Blk.mem (CV.pure (Ty.pair (Ty.pair (Ty.slice (Ty.int u32)) (Ty.pair (Ty.slice (Ty.int i64)) (Ty.pair (Ty.int i64) Ty.unit))) (Ty.pair (Ty.arr 32 (Ty.int u8)) Ty.unit)) p5),Blk.mem (CV.pure (Ty.pair (Ty.int i64) (Ty.pair (Ty.int u32) Ty.unit)) p6),Blk.mem (CV.pair (CV.int i64 p7) (CV.pair (CV.int i64 p8) (CV.pair (CV.int i64 p9) (CV.pair (CV.pair (CV.int i64 p10) (CV.pair (CV.int i64 p11) (CV.pair (CV.pure (Ty.arr 32 (Ty.int u8)) p12) (CV.pair (CV.pair (CV.int i64 p13) (CV.pair (CV.nil 23 (Ty.arr 32 (Ty.int u8))) (CV.pair (CV.nil 23 (Ty.arr 32 (Ty.int u8))) (CV.pure Ty.unit PUnit.unit)))) (CV.pure Ty.unit PUnit.unit))))) (CV.pure Ty.unit PUnit.unit))))),Blk.mem (CV.pair (CV.pair (CV.nil 37 (Ty.int u32)) (CV.pair (CV.nil 3 (Ty.int i64)) (CV.pure (Ty.pair (Ty.int i64) Ty.unit) p14))) (CV.pure (Ty.pair (Ty.arr 32 (Ty.int u8)) Ty.unit) p15)),Blk.mem (CV.pure (Ty.pair (Ty.int i64) (Ty.pair (Ty.int u32) Ty.unit)) p16),Blk.mem (CV.pure (Ty.pair (Ty.pair (Ty.pair (Ty.slice (Ty.int u32)) (Ty.pair (Ty.slice (Ty.int i64)) (Ty.pair (Ty.int i64) Ty.unit))) (Ty.pair (Ty.arr 32 (Ty.int u8)) Ty.unit)) (Ty.pair (Ty.pair (Ty.int i64) (Ty.pair (Ty.int u32) Ty.unit)) (Ty.pair (Ty.int i64) Ty.unit))) p17),Blk.fvec 37 (Ty.int u32) p18,Blk.fvec 3 (Ty.int i64) p19,Blk.fresh] 10)
noncomputable def Sp.S_68_50_0_1{R:Type}(K:Int->List Int->Int->Int->(Int×Int×Int×(Int×Int×List Int×(Int×List (List Int)×List (List Int)×Unit)×Unit)×Unit)->((List Int×List Int×Int×Unit)×List Int×Unit)->(Int×Int×Unit)->Int->Int->Int->Int->Int->List Int->Int->(Int×Unit)->(List Int×Unit)->(Int×Int×Unit)->(((List Int×List Int×Int×Unit)×List Int×Unit)×(Int×Int×Unit)×Int×Unit)->List Int->List Int->Option R)(k:E_68_50_0_1->Option R)(p0:Int)(p1:List Int)(p2 p3:Int)(p4:Int×Int×Int×(Int×Int×List Int×(Int×List (List Int)×List (List Int)×Unit)×Unit)×Unit)(p5:(List Int×List Int×Int×Unit)×List Int×Unit)(p6:Int×Int×Unit)(p7 p8 p9 p10 p11:Int)(p12:List Int)(p13:Int)(p14:Int×Unit)(p15:List Int×Unit)(p16:Int×Int×Unit)(p17:((List Int×List Int×Int×Unit)×List Int×Unit)×(Int×Int×Unit)×Int×Unit)(p18 p19:List Int):Option R:=
 bif decide (p3<p2)then gd (inB p3 (length p1)) (bif p17.2.2.1==0 then gd (p_93 (p17.1.1) (wrap i64 (p0+p3)) (getD p1 (toNat p3) 0) (p17.2.1)) (K p0 p1 p2 (wrap i64 (p3+1)) p4 p5 p6 p7 p8 p9 p10 p11 p12 p13 p14 p15 p16 (((v_93 (p17.1.1) (wrap i64 (p0+p3)) (getD p1 (toNat p3) 0) (p17.2.1)).1,p17.1.2),(v_93 (p17.1.1) (wrap i64 (p0+p3)) (getD p1 (toNat p3) 0) (p17.2.1)).2.1,(v_93 (p17.1.1) (wrap i64 (p0+p3)) (getD p1 (toNat p3) 0) (p17.2.1)).2.2.1,p17.2.2.2) p18 p19)else K p0 p1 p2 (wrap i64 (p3+1)) p4 p5 p6 p7 p8 p9 p10 p11 p12 p13 p14 p15 p16 p17 p18 p19)else k (E_68_50_0_1.e0 p4 p5 p6 p7 p8 p9 p10 p11 p12 p13 p14 p15 p16 p17 p18 p19)
noncomputable def Sp.L_68_50_0_1:Nat->Int->List Int->Int->Int->(Int×Int×Int×(Int×Int×List Int×(Int×List (List Int)×List (List Int)×Unit)×Unit)×Unit)->((List Int×List Int×Int×Unit)×List Int×Unit)->(Int×Int×Unit)->Int->Int->Int->Int->Int->List Int->Int->(Int×Unit)->(List Int×Unit)->(Int×Int×Unit)->(((List Int×List Int×Int×Unit)×List Int×Unit)×(Int×Int×Unit)×Int×Unit)->List Int->List Int->Option E_68_50_0_1
 |0,_,_,_,_,_,_,_,_,_,_,_,_,_,_,_,_,_,_,_,_=>none
 |m+1,p0,p1,p2,p3,p4,p5,p6,p7,p8,p9,p10,p11,p12,p13,p14,p15,p16,p17,p18,p19=>S_68_50_0_1 (L_68_50_0_1 m) some p0 p1 p2 p3 p4 p5 p6 p7 p8 p9 p10 p11 p12 p13 p14 p15 p16 p17 p18 p19
noncomputable def l_68_50_0_1(m:Nat)(a:T_68_50_0_1.E):Option E_68_50_0_1:=L_68_50_0_1 m a.1 a.2.1 a.2.2.1 a.2.2.2.1 a.2.2.2.2.1 a.2.2.2.2.2.1 a.2.2.2.2.2.2.1 a.2.2.2.2.2.2.2.1 a.2.2.2.2.2.2.2.2.1 a.2.2.2.2.2.2.2.2.2.1 a.2.2.2.2.2.2.2.2.2.2.1 a.2.2.2.2.2.2.2.2.2.2.2.1 a.2.2.2.2.2.2.2.2.2.2.2.2.1 a.2.2.2.2.2.2.2.2.2.2.2.2.2.1 a.2.2.2.2.2.2.2.2.2.2.2.2.2.2.1 a.2.2.2.2.2.2.2.2.2.2.2.2.2.2.2.1 a.2.2.2.2.2.2.2.2.2.2.2.2.2.2.2.2.1 a.2.2.2.2.2.2.2.2.2.2.2.2.2.2.2.2.2.1 a.2.2.2.2.2.2.2.2.2.2.2.2.2.2.2.2.2.2.1 a.2.2.2.2.2.2.2.2.2.2.2.2.2.2.2.2.2.2.2.1
noncomputable def O_68_50_0_1{R:Type}:Orc R:=orL T_68_50_0_1 (l_68_50_0_1 FU) Y_68_50_0_1
theorem loop_68_50_0_1{R:Type}(k:Ex->St->Option R):∀m a,evLoopN (evCodeL sm_68 FU (ovr noO (evFn sm_68 fns FU 0)) (mkT (inner (nf 50 0)) []) (inner (nf 50 0))) (St.norm (lv (nf 50 0))) m (T_68_50_0_1.inst a) k=(l_68_50_0_1 m a).bind (Y_68_50_0_1 k):=lpN l_68_50_0_1 (fun R K k a=>S_68_50_0_1 (fun p0 p1 p2 p3 p4 p5 p6 p7 p8 p9 p10 p11 p12 p13 p14 p15 p16 p17 p18 p19=>K (p0,p1,p2,p3,p4,p5,p6,p7,p8,p9,p10,p11,p12,p13,p14,p15,p16,p17,p18,p19,())) k a.1 a.2.1 a.2.2.1 a.2.2.2.1 a.2.2.2.2.1 a.2.2.2.2.2.1 a.2.2.2.2.2.2.1 a.2.2.2.2.2.2.2.1 a.2.2.2.2.2.2.2.2.1 a.2.2.2.2.2.2.2.2.2.1 a.2.2.2.2.2.2.2.2.2.2.1 a.2.2.2.2.2.2.2.2.2.2.2.1 a.2.2.2.2.2.2.2.2.2.2.2.2.1 a.2.2.2.2.2.2.2.2.2.2.2.2.2.1 a.2.2.2.2.2.2.2.2.2.2.2.2.2.2.1 a.2.2.2.2.2.2.2.2.2.2.2.2.2.2.2.1 a.2.2.2.2.2.2.2.2.2.2.2.2.2.2.2.2.1 a.2.2.2.2.2.2.2.2.2.2.2.2.2.2.2.2.2.1 a.2.2.2.2.2.2.2.2.2.2.2.2.2.2.2.2.2.2.1 a.2.2.2.2.2.2.2.2.2.2.2.2.2.2.2.2.2.2.2.1) (fun _=>rfl) (fun _ _=>rfl) (fun K a=>by kernel_rfl) (fun K a=>by
 unfold S_68_50_0_1
 repeat' first|apply gdN|apply condN|rfl)
theorem OK_68_50_0_1{R:Type}:okF (R:=R) sm_68 0 (nf 50 0) O_68_50_0_1:=lp0 T_68_50_0_1 l_68_50_0_1 (fun R K k a=>S_68_50_0_1 (fun p0 p1 p2 p3 p4 p5 p6 p7 p8 p9 p10 p11 p12 p13 p14 p15 p16 p17 p18 p19=>K (p0,p1,p2,p3,p4,p5,p6,p7,p8,p9,p10,p11,p12,p13,p14,p15,p16,p17,p18,p19,())) k a.1 a.2.1 a.2.2.1 a.2.2.2.1 a.2.2.2.2.1 a.2.2.2.2.2.1 a.2.2.2.2.2.2.1 a.2.2.2.2.2.2.2.1 a.2.2.2.2.2.2.2.2.1 a.2.2.2.2.2.2.2.2.2.1 a.2.2.2.2.2.2.2.2.2.2.1 a.2.2.2.2.2.2.2.2.2.2.2.1 a.2.2.2.2.2.2.2.2.2.2.2.2.1 a.2.2.2.2.2.2.2.2.2.2.2.2.2.1 a.2.2.2.2.2.2.2.2.2.2.2.2.2.2.1 a.2.2.2.2.2.2.2.2.2.2.2.2.2.2.2.1 a.2.2.2.2.2.2.2.2.2.2.2.2.2.2.2.2.1 a.2.2.2.2.2.2.2.2.2.2.2.2.2.2.2.2.2.1 a.2.2.2.2.2.2.2.2.2.2.2.2.2.2.2.2.2.2.1 a.2.2.2.2.2.2.2.2.2.2.2.2.2.2.2.2.2.2.2.1) Y_68_50_0_1 (fun _ _ _=>by kernel_rfl) (fun _ _ _=>by
 unfold S_68_50_0_1
 repeat' first|apply gdN|apply condN|rfl) (ok0 _)
noncomputable def T_68_50_0_0:PS:=⟨49,[(0,.kc (.ptr 6 [])),(1,.hv (.int .i64)),(8,.hv (.slice (.int .u32))),(9,.hv (.int .i64)),(10,.hv (.int .i64))],[.mem (.hv Zy68_2),.mem (.hv Zy68_11),.mem (.hv Zy68_8),.mem (.pr (.hv (.int .i64)) (.pr (.hv (.int .i64)) (.pr (.hv (.int .i64)) (.pr (.pr (.hv (.int .i64)) (.pr (.hv (.int .i64)) (.pr (.hv (.arr 32 (.int .u8))) (.pr (.pr (.hv (.int .i64)) (.kc (.pair (.nil 23 (.arr 32 (.int .u8))) (.pair (.nil 23 (.arr 32 (.int .u8))) (.pure .unit PUnit.unit))))) (.kc (.pure .unit PUnit.unit)))))) (.kc (.pure .unit PUnit.unit)))))),.mem (.pr (.pr (.kc (.nil 37 (.int .u32))) (.pr (.kc (.nil 3 (.int .i64))) (.hv (.pair (.int .i64) .unit)))) (.hv Zy68_12)),.mem (.hv Zy68_8),.mem (.pr (.pr (.pr (.kc (.whole 7)) (.pr (.kc (.whole 8)) (.hv (.pair (.int .i64) .unit)))) (.hv Zy68_12)) (.hv Zy68_13)),.vec 37 (.int .u32),.vec 3 (.int .i64),.fresh],10⟩
inductive Sp.E_68_50_0_0 where
 |e0 (p4:Zt68_0) (p5:Zt68_3) (p6:Zt68_6) (p7 p8 p9 p10 p11:Int) (p12:List Int) (p13:Int) (p14:Int×Unit) (p15:Zt68_7) (p16:Zt68_6) (p17:Int×Unit) (p18:Zt68_7) (p19:Zt68_4) (p20 p21:List Int)
 |e1 (p4:Zt68_0) (p5:Zt68_3) (p6:Zt68_6) (p7 p8 p9 p10 p11:Int) (p12:List Int) (p13:Int) (p14:Int×Unit) (p15:Zt68_7) (p16:Zt68_6) (p17:Zt68_1) (p18 p19:List Int)
noncomputable def Sp.B_68_50_0_0{R:Type}(r:Option E_68_50_0_0)(k0:Zt68_0->Zt68_3->Zt68_6->Int->Int->Int->Int->Int->List Int->Int->(Int×Unit)->Zt68_7->Zt68_6->(Int×Unit)->Zt68_7->Zt68_4->List Int->List Int->Option R)(k1:Zt68_0->Zt68_3->Zt68_6->Int->Int->Int->Int->Int->List Int->Int->(Int×Unit)->Zt68_7->Zt68_6->Zt68_1->List Int->List Int->Option R):Option R:=match r with
 |none=>none
 |some (.e0 p4 p5 p6 p7 p8 p9 p10 p11 p12 p13 p14 p15 p16 p17 p18 p19 p20 p21)=>k0 p4 p5 p6 p7 p8 p9 p10 p11 p12 p13 p14 p15 p16 p17 p18 p19 p20 p21
 |some (.e1 p4 p5 p6 p7 p8 p9 p10 p11 p12 p13 p14 p15 p16 p17 p18 p19)=>k1 p4 p5 p6 p7 p8 p9 p10 p11 p12 p13 p14 p15 p16 p17 p18 p19
noncomputable def Y_68_50_0_0{R:Type}(k:Ex->St->Option R):E_68_50_0_0->Option R
 | .e0 p4 p5 p6 p7 p8 p9 p10 p11 p12 p13 p14 p15 p16 p17 p18 p19 p20 p21=>k (Ex.exit 0) (sx 49 [] [Blk.mem (CV.pure (Ty.pair (Ty.int i64) (Ty.pair (Ty.int i64) (Ty.pair (Ty.int i64) (Ty.pair (Ty.pair (Ty.int i64) (Ty.pair (Ty.int i64) (Ty.pair (Ty.arr 32 (Ty.int u8)) (Ty.pair (Ty.pair (Ty.int i64) (Ty.pair (Ty.slice (Ty.arr 32 (Ty.int u8))) (Ty.pair (Ty.slice (Ty.arr 32 (Ty.int u8))) Ty.unit))) Ty.unit)))) Ty.unit)))) p4),Blk.mem (CV.pure (Ty.pair (Ty.pair (Ty.slice (Ty.int u32)) (Ty.pair (Ty.slice (Ty.int i64)) (Ty.pair (Ty.int i64) Ty.unit))) (Ty.pair (Ty.arr 32 (Ty.int u8)) Ty.unit)) p5),Blk.mem (CV.pure (Ty.pair (Ty.int i64) (Ty.pair (Ty.int u32) Ty.unit)) p6),Blk.mem (CV.pair (CV.int i64 p7) (CV.pair (CV.int i64 p8) (CV.pair (CV.int i64 p9) (CV.pair (CV.pair (CV.int i64 p10) (CV.pair (CV.int i64 p11) (CV.pair (CV.pure (Ty.arr 32 (Ty.int u8)) p12) (CV.pair (CV.pair (CV.int i64 p13) (CV.pair (CV.nil 23 (Ty.arr 32 (Ty.int u8))) (CV.pair (CV.nil 23 (Ty.arr 32 (Ty.int u8))) (CV.pure Ty.unit PUnit.unit)))) (CV.pure Ty.unit PUnit.unit))))) (CV.pure Ty.unit PUnit.unit))))),Blk.mem (CV.pair (CV.pair (CV.nil 37 (Ty.int u32)) (CV.pair (CV.nil 3 (Ty.int i64)) (CV.pure (Ty.pair (Ty.int i64) Ty.unit) p14))) (CV.pure (Ty.pair (Ty.arr 32 (Ty.int u8)) Ty.unit) p15)),Blk.mem (CV.pure (Ty.pair (Ty.int i64) (Ty.pair (Ty.int u32) Ty.unit)) p16),Blk.mem (CV.pair (CV.pair (CV.pair (CV.whole 7) (CV.pair (CV.whole 8) (CV.pure (Ty.pair (Ty.int i64) Ty.unit) p17))) (CV.pure (Ty.pair (Ty.arr 32 (Ty.int u8)) Ty.unit) p18)) (CV.pure (Ty.pair (Ty.pair (Ty.int i64) (Ty.pair (Ty.int u32) Ty.unit)) (Ty.pair (Ty.int i64) Ty.unit)) p19)),Blk.vec 37 (Ty.int u32) p20,Blk.vec 3 (Ty.int i64) p21,Blk.fresh] 10)
 | .e1 p4 p5 p6 p7 p8 p9 p10 p11 p12 p13 p14 p15 p16 p17 p18 p19=>k (Ex.exit 0) (sx 49 [] [Blk.mem (CV.pure (Ty.pair (Ty.int i64) (Ty.pair (Ty.int i64) (Ty.pair (Ty.int i64) (Ty.pair (Ty.pair (Ty.int i64) (Ty.pair (Ty.int i64) (Ty.pair (Ty.arr 32 (Ty.int u8)) (Ty.pair (Ty.pair (Ty.int i64) (Ty.pair (Ty.slice (Ty.arr 32 (Ty.int u8))) (Ty.pair (Ty.slice (Ty.arr 32 (Ty.int u8))) Ty.unit))) Ty.unit)))) Ty.unit)))) p4),Blk.mem (CV.pure (Ty.pair (Ty.pair (Ty.slice (Ty.int u32)) (Ty.pair (Ty.slice (Ty.int i64)) (Ty.pair (Ty.int i64) Ty.unit))) (Ty.pair (Ty.arr 32 (Ty.int u8)) Ty.unit)) p5),Blk.mem (CV.pure (Ty.pair (Ty.int i64) (Ty.pair (Ty.int u32) Ty.unit)) p6),Blk.mem (CV.pair (CV.int i64 p7) (CV.pair (CV.int i64 p8) (CV.pair (CV.int i64 p9) (CV.pair (CV.pair (CV.int i64 p10) (CV.pair (CV.int i64 p11) (CV.pair (CV.pure (Ty.arr 32 (Ty.int u8)) p12) (CV.pair (CV.pair (CV.int i64 p13) (CV.pair (CV.nil 23 (Ty.arr 32 (Ty.int u8))) (CV.pair (CV.nil 23 (Ty.arr 32 (Ty.int u8))) (CV.pure Ty.unit PUnit.unit)))) (CV.pure Ty.unit PUnit.unit))))) (CV.pure Ty.unit PUnit.unit))))),Blk.mem (CV.pair (CV.pair (CV.nil 37 (Ty.int u32)) (CV.pair (CV.nil 3 (Ty.int i64)) (CV.pure (Ty.pair (Ty.int i64) Ty.unit) p14))) (CV.pure (Ty.pair (Ty.arr 32 (Ty.int u8)) Ty.unit) p15)),Blk.mem (CV.pure (Ty.pair (Ty.int i64) (Ty.pair (Ty.int u32) Ty.unit)) p16),Blk.mem (CV.pure (Ty.pair (Ty.pair (Ty.pair (Ty.slice (Ty.int u32)) (Ty.pair (Ty.slice (Ty.int i64)) (Ty.pair (Ty.int i64) Ty.unit))) (Ty.pair (Ty.arr 32 (Ty.int u8)) Ty.unit)) (Ty.pair (Ty.pair (Ty.int i64) (Ty.pair (Ty.int u32) Ty.unit)) (Ty.pair (Ty.int i64) Ty.unit))) p17),Blk.fvec 37 (Ty.int u32) p18,Blk.fvec 3 (Ty.int i64) p19,Blk.fresh] 10)
noncomputable def Sp.S_68_50_0_0{R:Type}(K:Int->List Int->Int->Int->(Int×Int×Int×(Int×Int×List Int×(Int×List (List Int)×List (List Int)×Unit)×Unit)×Unit)->((List Int×List Int×Int×Unit)×List Int×Unit)->(Int×Int×Unit)->Int->Int->Int->Int->Int->List Int->Int->(Int×Unit)->(List Int×Unit)->(Int×Int×Unit)->(Int×Unit)->(List Int×Unit)->((Int×Int×Unit)×Int×Unit)->List Int->List Int->Option R)(KB:Int->List Int->Int->Int->(Int×Int×Int×(Int×Int×List Int×(Int×List (List Int)×List (List Int)×Unit)×Unit)×Unit)->((List Int×List Int×Int×Unit)×List Int×Unit)->(Int×Int×Unit)->Int->Int->Int->Int->Int->List Int->Int->(Int×Unit)->(List Int×Unit)->(Int×Int×Unit)->(((List Int×List Int×Int×Unit)×List Int×Unit)×(Int×Int×Unit)×Int×Unit)->List Int->List Int->Option R)(k:E_68_50_0_0->Option R)(p0:Int)(p1:List Int)(p2 p3:Int)(p4:Int×Int×Int×(Int×Int×List Int×(Int×List (List Int)×List (List Int)×Unit)×Unit)×Unit)(p5:(List Int×List Int×Int×Unit)×List Int×Unit)(p6:Int×Int×Unit)(p7 p8 p9 p10 p11:Int)(p12:List Int)(p13:Int)(p14:Int×Unit)(p15:List Int×Unit)(p16:Int×Int×Unit)(p17:Int×Unit)(p18:List Int×Unit)(p19:(Int×Int×Unit)×Int×Unit)(p20 p21:List Int):Option R:=
 bif decide (p3<p2)then gd (inB p3 (length p1)) (bif p19.2.1==0 then gd (p_93 (p20,p21,p17) (wrap i64 (p0+p3)) (getD p1 (toNat p3) 0) (p19.1)) (KB p0 p1 p2 (wrap i64 (p3+1)) p4 p5 p6 p7 p8 p9 p10 p11 p12 p13 p14 p15 p16 (((v_93 (p20,p21,p17) (wrap i64 (p0+p3)) (getD p1 (toNat p3) 0) (p19.1)).1,p18),(v_93 (p20,p21,p17) (wrap i64 (p0+p3)) (getD p1 (toNat p3) 0) (p19.1)).2.1,(v_93 (p20,p21,p17) (wrap i64 (p0+p3)) (getD p1 (toNat p3) 0) (p19.1)).2.2.1,p19.2.2) p20 p21)else K p0 p1 p2 (wrap i64 (p3+1)) p4 p5 p6 p7 p8 p9 p10 p11 p12 p13 p14 p15 p16 p17 p18 p19 p20 p21)else k (E_68_50_0_0.e0 p4 p5 p6 p7 p8 p9 p10 p11 p12 p13 p14 p15 p16 p17 p18 p19 p20 p21)
noncomputable def C_68_50_0_0:E_68_50_0_1->E_68_50_0_0
 | .e0 p4 p5 p6 p7 p8 p9 p10 p11 p12 p13 p14 p15 p16 p17 p18 p19=> .e1 p4 p5 p6 p7 p8 p9 p10 p11 p12 p13 p14 p15 p16 p17 p18 p19
theorem BC_68_50_0_0(r:Option E_68_50_0_1):B_68_50_0_1 r (fun p4 p5 p6 p7 p8 p9 p10 p11 p12 p13 p14 p15 p16 p17 p18 p19=>some (E_68_50_0_0.e1 p4 p5 p6 p7 p8 p9 p10 p11 p12 p13 p14 p15 p16 p17 p18 p19))=r.bind fun e=>some (C_68_50_0_0 e):=by
 cases r with
 |none=>rfl
 |some e=>cases e<;>rfl
noncomputable def Sp.L_68_50_0_0:Nat->Int->List Int->Int->Int->(Int×Int×Int×(Int×Int×List Int×(Int×List (List Int)×List (List Int)×Unit)×Unit)×Unit)->((List Int×List Int×Int×Unit)×List Int×Unit)->(Int×Int×Unit)->Int->Int->Int->Int->Int->List Int->Int->(Int×Unit)->(List Int×Unit)->(Int×Int×Unit)->(Int×Unit)->(List Int×Unit)->((Int×Int×Unit)×Int×Unit)->List Int->List Int->Option E_68_50_0_0
 |0,_,_,_,_,_,_,_,_,_,_,_,_,_,_,_,_,_,_,_,_,_,_=>none
 |m+1,p0,p1,p2,p3,p4,p5,p6,p7,p8,p9,p10,p11,p12,p13,p14,p15,p16,p17,p18,p19,p20,p21=>S_68_50_0_0 (L_68_50_0_0 m) (fun q0 q1 q2 q3 q4 q5 q6 q7 q8 q9 q10 q11 q12 q13 q14 q15 q16 q17 q18 q19=>B_68_50_0_1 (L_68_50_0_1 m q0 q1 q2 q3 q4 q5 q6 q7 q8 q9 q10 q11 q12 q13 q14 q15 q16 q17 q18 q19) (fun p4 p5 p6 p7 p8 p9 p10 p11 p12 p13 p14 p15 p16 p17 p18 p19=>some (E_68_50_0_0.e1 p4 p5 p6 p7 p8 p9 p10 p11 p12 p13 p14 p15 p16 p17 p18 p19))) some p0 p1 p2 p3 p4 p5 p6 p7 p8 p9 p10 p11 p12 p13 p14 p15 p16 p17 p18 p19 p20 p21
noncomputable def l_68_50_0_0(m:Nat)(a:T_68_50_0_0.E):Option E_68_50_0_0:=L_68_50_0_0 m a.1 a.2.1 a.2.2.1 a.2.2.2.1 a.2.2.2.2.1 a.2.2.2.2.2.1 a.2.2.2.2.2.2.1 a.2.2.2.2.2.2.2.1 a.2.2.2.2.2.2.2.2.1 a.2.2.2.2.2.2.2.2.2.1 a.2.2.2.2.2.2.2.2.2.2.1 a.2.2.2.2.2.2.2.2.2.2.2.1 a.2.2.2.2.2.2.2.2.2.2.2.2.1 a.2.2.2.2.2.2.2.2.2.2.2.2.2.1 a.2.2.2.2.2.2.2.2.2.2.2.2.2.2.1 a.2.2.2.2.2.2.2.2.2.2.2.2.2.2.2.1 a.2.2.2.2.2.2.2.2.2.2.2.2.2.2.2.2.1 a.2.2.2.2.2.2.2.2.2.2.2.2.2.2.2.2.2.1 a.2.2.2.2.2.2.2.2.2.2.2.2.2.2.2.2.2.2.1 a.2.2.2.2.2.2.2.2.2.2.2.2.2.2.2.2.2.2.2.1 a.2.2.2.2.2.2.2.2.2.2.2.2.2.2.2.2.2.2.2.2.1 a.2.2.2.2.2.2.2.2.2.2.2.2.2.2.2.2.2.2.2.2.2.1
noncomputable def O_68_50_0_0{R:Type}:Orc R:=orL T_68_50_0_0 (l_68_50_0_0 FU) Y_68_50_0_0 O_68_50_0_1
theorem OK_68_50_0_0{R:Type}:okF (R:=R) sm_68 0 (nf 50 0) O_68_50_0_0:=lp2 noO_ok (os:=[]) trivial T_68_50_0_0 T_68_50_0_1 l_68_50_0_0 l_68_50_0_1 (fun R K KB k a=>S_68_50_0_0 (fun p0 p1 p2 p3 p4 p5 p6 p7 p8 p9 p10 p11 p12 p13 p14 p15 p16 p17 p18 p19 p20 p21=>K (p0,p1,p2,p3,p4,p5,p6,p7,p8,p9,p10,p11,p12,p13,p14,p15,p16,p17,p18,p19,p20,p21,())) (fun q0 q1 q2 q3 q4 q5 q6 q7 q8 q9 q10 q11 q12 q13 q14 q15 q16 q17 q18 q19=>KB (q0,q1,q2,q3,q4,q5,q6,q7,q8,q9,q10,q11,q12,q13,q14,q15,q16,q17,q18,q19,())) k a.1 a.2.1 a.2.2.1 a.2.2.2.1 a.2.2.2.2.1 a.2.2.2.2.2.1 a.2.2.2.2.2.2.1 a.2.2.2.2.2.2.2.1 a.2.2.2.2.2.2.2.2.1 a.2.2.2.2.2.2.2.2.2.1 a.2.2.2.2.2.2.2.2.2.2.1 a.2.2.2.2.2.2.2.2.2.2.2.1 a.2.2.2.2.2.2.2.2.2.2.2.2.1 a.2.2.2.2.2.2.2.2.2.2.2.2.2.1 a.2.2.2.2.2.2.2.2.2.2.2.2.2.2.1 a.2.2.2.2.2.2.2.2.2.2.2.2.2.2.2.1 a.2.2.2.2.2.2.2.2.2.2.2.2.2.2.2.2.1 a.2.2.2.2.2.2.2.2.2.2.2.2.2.2.2.2.2.1 a.2.2.2.2.2.2.2.2.2.2.2.2.2.2.2.2.2.2.1 a.2.2.2.2.2.2.2.2.2.2.2.2.2.2.2.2.2.2.2.1 a.2.2.2.2.2.2.2.2.2.2.2.2.2.2.2.2.2.2.2.2.1 a.2.2.2.2.2.2.2.2.2.2.2.2.2.2.2.2.2.2.2.2.2.1) Y_68_50_0_0 Y_68_50_0_1 C_68_50_0_0 (fun _=>rfl) (fun m a=>by
 unfold l_68_50_0_0
 rw[L_68_50_0_0]
 simp only[BC_68_50_0_0]
 rfl) (fun k e=>by cases e<;>rfl) (fun k=>loop_68_50_0_1 k) (fun k K a=>by kernel_rfl) (fun Y K KB a=>by
 unfold S_68_50_0_0
 repeat' first|apply gdN|apply condN|rfl) OK_68_50_0_1
noncomputable def g_68_50{R:Type}:List CV->List Blk->(CV->List Blk->Option R)->Option R:=evFnL sm_68 FU (ovr noO (evFn sm_68 fns FU 0)) (mkT (fB fns 50) [O_68_50_0_0]) (fO fns 50)
theorem g_68_50_ok{R:Type}(args:List CV)(hp:List Blk)(k:CV->List Blk->Option R)(r:R)(h:g_68_50 args hp k=some r):evFn sm_68 fns FU 1 50 args hp k=some r:=runG noO_ok (os:=[O_68_50_0_0]) ⟨OK_68_50_0_0,trivial⟩ h
noncomputable def ov_68_68{R:Type}:Nat->Option (List CV->List Blk->(CV->List Blk->Option R)->Option R):=fun f'=>bif Nat.beq f' 50 then some g_68_50 else none
theorem ov_68_68_ok{R:Type}:OvrOK (R:=R) ov_68_68 (evFn sm_68 fns FU 1):=by
 intro f' g h args hp k r hg
 dsimp only[ov_68_68]at h
 by_cases h50:f'=50
 ·subst h50
  injection h with h
  subst h
  exact evFn_le 0 (g_68_50_ok _ _ _ _ hg)
 rw[nbeq_ne h50,cond_false]at h
 cases h
noncomputable def T_68_0:PS:=⟨99,[(5,.kc (.ptr 0 [])),(10,.kc (.ptr 1 [])),(11,.kc (.ptr 4 [])),(12,.kc (.ptr 7 [])),(15,.kc (.ptr 8 []))],[.mem (.hv Zy68_2),.mem (.pr (.hv (.int .i64)) (.pr (.hv (.int .i64)) (.pr (.hv (.int .i64)) (.pr (.pr (.hv (.int .i64)) (.pr (.hv (.int .i64)) (.pr (.hv (.arr 32 (.int .u8))) (.pr (.pr (.hv (.int .i64)) (.kc (.pair (.whole 2) (.pair (.whole 3) (.pure .unit PUnit.unit))))) (.kc (.pure .unit PUnit.unit)))))) (.kc (.pure .unit PUnit.unit)))))),.vec 23 (.arr 32 (.int .u8)),.vec 23 (.arr 32 (.int .u8)),.mem (.pr (.pr (.kc (.whole 5)) (.pr (.kc (.whole 6)) (.hv (.pair (.int .i64) .unit)))) (.hv Zy68_12)),.vec 37 (.int .u32),.vec 3 (.int .i64),.mem (.hv Zy68_8),.mem (.pr (.pr (.pr (.kc (.whole 9)) (.pr (.kc (.whole 10)) (.hv (.pair (.int .i64) .unit)))) (.hv Zy68_12)) (.hv Zy68_13)),.vec 37 (.int .u32),.vec 3 (.int .i64)],0⟩
inductive Sp.E_68_0 where
 |e0 (p0:Zt68_0) (p15:Int×Unit) (p16:Zt68_7) (p17:Zt68_4) (p18 p19:List Int)
 |e1 (p15:Int×Unit) (p16:Zt68_7) (p17:Zt68_4) (p18 p19:List Int)
 |e2 (p17:Zt68_4)
noncomputable def Sp.B_68_0{R:Type}(r:Option E_68_0)(k0:Zt68_0->(Int×Unit)->Zt68_7->Zt68_4->List Int->List Int->Option R)(k1:(Int×Unit)->Zt68_7->Zt68_4->List Int->List Int->Option R)(k2:Zt68_4->Option R):Option R:=match r with
 |none=>none
 |some (.e0 p0 p15 p16 p17 p18 p19)=>k0 p0 p15 p16 p17 p18 p19
 |some (.e1 p15 p16 p17 p18 p19)=>k1 p15 p16 p17 p18 p19
 |some (.e2 p17)=>k2 p17
noncomputable def Y_68_0{R:Type}(k:Ex->St->Option R):E_68_0->Option R
 | .e0 p0 p15 p16 p17 p18 p19=>k Ex.ret (sx 99 [(10,CV.ptr 0 []),(11,CV.ptr 1 []),(12,CV.ptr 4 []),(13,CV.int i64 0)] [Blk.mem (CV.pure (Ty.pair (Ty.int i64) (Ty.pair (Ty.int i64) (Ty.pair (Ty.int i64) (Ty.pair (Ty.pair (Ty.int i64) (Ty.pair (Ty.int i64) (Ty.pair (Ty.arr 32 (Ty.int u8)) (Ty.pair (Ty.pair (Ty.int i64) (Ty.pair (Ty.slice (Ty.arr 32 (Ty.int u8))) (Ty.pair (Ty.slice (Ty.arr 32 (Ty.int u8))) Ty.unit))) Ty.unit)))) Ty.unit)))) p0),Blk.mem (CV.pair (CV.pair (CV.whole 2) (CV.pair (CV.whole 3) (CV.pure (Ty.pair (Ty.int i64) Ty.unit) p15))) (CV.pure (Ty.pair (Ty.arr 32 (Ty.int u8)) Ty.unit) p16)),Blk.vec 37 (Ty.int u32) p18,Blk.vec 3 (Ty.int i64) p19,Blk.mem (CV.pure (Ty.pair (Ty.int i64) (Ty.pair (Ty.int u32) Ty.unit)) ((p17.1):Zt68_14))])
 | .e1 p15 p16 p17 p18 p19=>k Ex.ret (sx 99 [(10,CV.ptr 0 []),(11,CV.ptr 3 []),(12,CV.ptr 6 []),(13,CV.int i64 18)] [Blk.mem (CV.pair (CV.int i64 0) (CV.pair (CV.int i64 0) (CV.pair (CV.int i64 0) (CV.pair (CV.pair (CV.int i64 0) (CV.pair (CV.int i64 0) (CV.pair (CV.pure (Ty.arr 32 (Ty.int u8)) ((replicate 32 (0:Int)):(List Int))) (CV.pair (CV.pair (CV.int i64 0) (CV.pair (CV.whole 1) (CV.pair (CV.whole 2) (CV.pure Ty.unit PUnit.unit)))) (CV.pure Ty.unit PUnit.unit))))) (CV.pure Ty.unit PUnit.unit))))),Blk.vec 23 (Ty.arr 32 (Ty.int u8)) [],Blk.vec 23 (Ty.arr 32 (Ty.int u8)) [],Blk.mem (CV.pair (CV.pair (CV.whole 4) (CV.pair (CV.whole 5) (CV.pure (Ty.pair (Ty.int i64) Ty.unit) p15))) (CV.pure (Ty.pair (Ty.arr 32 (Ty.int u8)) Ty.unit) p16)),Blk.vec 37 (Ty.int u32) p18,Blk.vec 3 (Ty.int i64) p19,Blk.mem (CV.pure (Ty.pair (Ty.int i64) (Ty.pair (Ty.int u32) Ty.unit)) ((p17.1):Zt68_14))])
 | .e2 p17=>k Ex.ret (sx 99 [(10,CV.ptr 0 []),(11,CV.ptr 1 []),(12,CV.ptr 2 []),(13,CV.int i64 ((v_42 (p17.2.1)).2.2.2.1))] [Blk.mem (CV.pure (Ty.pair (Ty.int i64) (Ty.pair (Ty.int i64) (Ty.pair (Ty.int i64) (Ty.pair (Ty.pair (Ty.int i64) (Ty.pair (Ty.int i64) (Ty.pair (Ty.arr 32 (Ty.int u8)) (Ty.pair (Ty.pair (Ty.int i64) (Ty.pair (Ty.slice (Ty.arr 32 (Ty.int u8))) (Ty.pair (Ty.slice (Ty.arr 32 (Ty.int u8))) Ty.unit))) Ty.unit)))) Ty.unit)))) (((v_42 (p17.2.1)).1):Zt68_10)),Blk.mem (CV.pure (Ty.pair (Ty.pair (Ty.slice (Ty.int u32)) (Ty.pair (Ty.slice (Ty.int i64)) (Ty.pair (Ty.int i64) Ty.unit))) (Ty.pair (Ty.arr 32 (Ty.int u8)) Ty.unit)) (((v_42 (p17.2.1)).2.1):Zt68_9)),Blk.mem (CV.pure (Ty.pair (Ty.int i64) (Ty.pair (Ty.int u32) Ty.unit)) (((v_42 (p17.2.1)).2.2.1):Zt68_14))])
noncomputable def Sp.S_68_0{R:Type}(k:E_68_0->Option R)(p0:Int×Int×Int×(Int×Int×List Int×(Int×List (List Int)×List (List Int)×Unit)×Unit)×Unit)(p1 p2 p3 p4 p5:Int)(p6:List Int)(p7:Int)(p8 p9:List (List Int))(p10:Int×Unit)(p11:List Int×Unit)(p12 p13:List Int)(p14:Int×Int×Unit)(p15:Int×Unit)(p16:List Int×Unit)(p17:(Int×Int×Unit)×Int×Unit)(p18 p19:List Int):Option R:=
 bif p17.2.1==0 then k (E_68_0.e0 p0 p15 p16 p17 p18 p19)else bif p17.2.1==18 then k (E_68_0.e1 p15 p16 p17 p18 p19)else gd (p_42 (p17.2.1)) (k (E_68_0.e2 p17))
noncomputable def Sp.J_68_0(p0:Int×Int×Int×(Int×Int×List Int×(Int×List (List Int)×List (List Int)×Unit)×Unit)×Unit)(p1 p2 p3 p4 p5:Int)(p6:List Int)(p7:Int)(p8 p9:List (List Int))(p10:Int×Unit)(p11:List Int×Unit)(p12 p13:List Int)(p14:Int×Int×Unit)(p15:Int×Unit)(p16:List Int×Unit)(p17:(Int×Int×Unit)×Int×Unit)(p18 p19:List Int):Option E_68_0:=S_68_0 some p0 p1 p2 p3 p4 p5 p6 p7 p8 p9 p10 p11 p12 p13 p14 p15 p16 p17 p18 p19
noncomputable def O_68_0{R:Type}:Orc R:=orL T_68_0 (fun a=>J_68_0 a.1 a.2.1 a.2.2.1 a.2.2.2.1 a.2.2.2.2.1 a.2.2.2.2.2.1 a.2.2.2.2.2.2.1 a.2.2.2.2.2.2.2.1 a.2.2.2.2.2.2.2.2.1 a.2.2.2.2.2.2.2.2.2.1 a.2.2.2.2.2.2.2.2.2.2.1 a.2.2.2.2.2.2.2.2.2.2.2.1 a.2.2.2.2.2.2.2.2.2.2.2.2.1 a.2.2.2.2.2.2.2.2.2.2.2.2.2.1 a.2.2.2.2.2.2.2.2.2.2.2.2.2.2.1 a.2.2.2.2.2.2.2.2.2.2.2.2.2.2.2.1 a.2.2.2.2.2.2.2.2.2.2.2.2.2.2.2.2.1 a.2.2.2.2.2.2.2.2.2.2.2.2.2.2.2.2.2.1 a.2.2.2.2.2.2.2.2.2.2.2.2.2.2.2.2.2.2.1 a.2.2.2.2.2.2.2.2.2.2.2.2.2.2.2.2.2.2.2.1) Y_68_0
theorem OK_68_0{R:Type}:okF (R:=R) sm_68 1 (nf 68 0) O_68_0:=jp ov_68_68_ok (os:=[]) trivial T_68_0 (fun R k a=>S_68_0 k a.1 a.2.1 a.2.2.1 a.2.2.2.1 a.2.2.2.2.1 a.2.2.2.2.2.1 a.2.2.2.2.2.2.1 a.2.2.2.2.2.2.2.1 a.2.2.2.2.2.2.2.2.1 a.2.2.2.2.2.2.2.2.2.1 a.2.2.2.2.2.2.2.2.2.2.1 a.2.2.2.2.2.2.2.2.2.2.2.1 a.2.2.2.2.2.2.2.2.2.2.2.2.1 a.2.2.2.2.2.2.2.2.2.2.2.2.2.1 a.2.2.2.2.2.2.2.2.2.2.2.2.2.2.1 a.2.2.2.2.2.2.2.2.2.2.2.2.2.2.2.1 a.2.2.2.2.2.2.2.2.2.2.2.2.2.2.2.2.1 a.2.2.2.2.2.2.2.2.2.2.2.2.2.2.2.2.2.1 a.2.2.2.2.2.2.2.2.2.2.2.2.2.2.2.2.2.2.1 a.2.2.2.2.2.2.2.2.2.2.2.2.2.2.2.2.2.2.2.1) Y_68_0 (fun k a=>by kernel_rfl) (fun Y a=>by
 unfold S_68_0
 repeat' first|apply gdN|apply condN|rfl) (ok0 _)
noncomputable def T_68_0_1:PS:=⟨99,[(5,.kc (.ptr 0 [])),(10,.kc (.ptr 1 [])),(11,.kc (.ptr 4 [])),(12,.kc (.ptr 7 [])),(15,.kc (.ptr 8 []))],[.mem (.hv Zy68_2),.mem (.pr (.hv (.int .i64)) (.pr (.hv (.int .i64)) (.pr (.hv (.int .i64)) (.pr (.pr (.hv (.int .i64)) (.pr (.hv (.int .i64)) (.pr (.hv (.arr 32 (.int .u8))) (.pr (.pr (.hv (.int .i64)) (.kc (.pair (.whole 2) (.pair (.whole 3) (.pure .unit PUnit.unit))))) (.kc (.pure .unit PUnit.unit)))))) (.kc (.pure .unit PUnit.unit)))))),.vec 23 (.arr 32 (.int .u8)),.vec 23 (.arr 32 (.int .u8)),.mem (.pr (.pr (.kc (.whole 5)) (.pr (.kc (.whole 6)) (.hv (.pair (.int .i64) .unit)))) (.hv Zy68_12)),.vec 37 (.int .u32),.vec 3 (.int .i64),.mem (.hv Zy68_8),.mem (.hv Zy68_5)],0⟩
inductive Sp.E_68_0_1 where
 |e0 (p0:Zt68_0) (p15:Zt68_1)
 |e1 (p15:Zt68_1)
 |e2 (p15:Zt68_1)
noncomputable def Sp.B_68_0_1{R:Type}(r:Option E_68_0_1)(k0:Zt68_0->Zt68_1->Option R)(k1 k2:Zt68_1->Option R):Option R:=match r with
 |none=>none
 |some (.e0 p0 p15)=>k0 p0 p15
 |some (.e1 p15)=>k1 p15
 |some (.e2 p15)=>k2 p15
noncomputable def Y_68_0_1{R:Type}(k:Ex->St->Option R):E_68_0_1->Option R
 | .e0 p0 p15=>k Ex.ret (sx 99 [(10,CV.ptr 0 []),(11,CV.ptr 1 []),(12,CV.ptr 2 []),(13,CV.int i64 0)] [Blk.mem (CV.pure (Ty.pair (Ty.int i64) (Ty.pair (Ty.int i64) (Ty.pair (Ty.int i64) (Ty.pair (Ty.pair (Ty.int i64) (Ty.pair (Ty.int i64) (Ty.pair (Ty.arr 32 (Ty.int u8)) (Ty.pair (Ty.pair (Ty.int i64) (Ty.pair (Ty.slice (Ty.arr 32 (Ty.int u8))) (Ty.pair (Ty.slice (Ty.arr 32 (Ty.int u8))) Ty.unit))) Ty.unit)))) Ty.unit)))) p0),Blk.mem (CV.pure (Ty.pair (Ty.pair (Ty.slice (Ty.int u32)) (Ty.pair (Ty.slice (Ty.int i64)) (Ty.pair (Ty.int i64) Ty.unit))) (Ty.pair (Ty.arr 32 (Ty.int u8)) Ty.unit)) ((p15.1):Zt68_9)),Blk.mem (CV.pure (Ty.pair (Ty.int i64) (Ty.pair (Ty.int u32) Ty.unit)) ((p15.2.1):Zt68_14))])
 | .e1 p15=>k Ex.ret (sx 99 [(10,CV.ptr 0 []),(11,CV.ptr 3 []),(12,CV.ptr 4 []),(13,CV.int i64 18)] [Blk.mem (CV.pair (CV.int i64 0) (CV.pair (CV.int i64 0) (CV.pair (CV.int i64 0) (CV.pair (CV.pair (CV.int i64 0) (CV.pair (CV.int i64 0) (CV.pair (CV.pure (Ty.arr 32 (Ty.int u8)) ((replicate 32 (0:Int)):(List Int))) (CV.pair (CV.pair (CV.int i64 0) (CV.pair (CV.whole 1) (CV.pair (CV.whole 2) (CV.pure Ty.unit PUnit.unit)))) (CV.pure Ty.unit PUnit.unit))))) (CV.pure Ty.unit PUnit.unit))))),Blk.vec 23 (Ty.arr 32 (Ty.int u8)) [],Blk.vec 23 (Ty.arr 32 (Ty.int u8)) [],Blk.mem (CV.pure (Ty.pair (Ty.pair (Ty.slice (Ty.int u32)) (Ty.pair (Ty.slice (Ty.int i64)) (Ty.pair (Ty.int i64) Ty.unit))) (Ty.pair (Ty.arr 32 (Ty.int u8)) Ty.unit)) ((p15.1):Zt68_9)),Blk.mem (CV.pure (Ty.pair (Ty.int i64) (Ty.pair (Ty.int u32) Ty.unit)) ((p15.2.1):Zt68_14))])
 | .e2 p15=>k Ex.ret (sx 99 [(10,CV.ptr 0 []),(11,CV.ptr 1 []),(12,CV.ptr 2 []),(13,CV.int i64 ((v_42 (p15.2.2.1)).2.2.2.1))] [Blk.mem (CV.pure (Ty.pair (Ty.int i64) (Ty.pair (Ty.int i64) (Ty.pair (Ty.int i64) (Ty.pair (Ty.pair (Ty.int i64) (Ty.pair (Ty.int i64) (Ty.pair (Ty.arr 32 (Ty.int u8)) (Ty.pair (Ty.pair (Ty.int i64) (Ty.pair (Ty.slice (Ty.arr 32 (Ty.int u8))) (Ty.pair (Ty.slice (Ty.arr 32 (Ty.int u8))) Ty.unit))) Ty.unit)))) Ty.unit)))) (((v_42 (p15.2.2.1)).1):Zt68_10)),Blk.mem (CV.pure (Ty.pair (Ty.pair (Ty.slice (Ty.int u32)) (Ty.pair (Ty.slice (Ty.int i64)) (Ty.pair (Ty.int i64) Ty.unit))) (Ty.pair (Ty.arr 32 (Ty.int u8)) Ty.unit)) (((v_42 (p15.2.2.1)).2.1):Zt68_9)),Blk.mem (CV.pure (Ty.pair (Ty.int i64) (Ty.pair (Ty.int u32) Ty.unit)) (((v_42 (p15.2.2.1)).2.2.1):Zt68_14))])
noncomputable def Sp.S_68_0_1{R:Type}(k:E_68_0_1->Option R)(p0:Int×Int×Int×(Int×Int×List Int×(Int×List (List Int)×List (List Int)×Unit)×Unit)×Unit)(p1 p2 p3 p4 p5:Int)(p6:List Int)(p7:Int)(p8 p9:List (List Int))(p10:Int×Unit)(p11:List Int×Unit)(p12 p13:List Int)(p14:Int×Int×Unit)(p15:((List Int×List Int×Int×Unit)×List Int×Unit)×(Int×Int×Unit)×Int×Unit):Option R:=
 bif p15.2.2.1==0 then k (E_68_0_1.e0 p0 p15)else bif p15.2.2.1==18 then k (E_68_0_1.e1 p15)else gd (p_42 (p15.2.2.1)) (k (E_68_0_1.e2 p15))
noncomputable def Sp.J_68_0_1(p0:Int×Int×Int×(Int×Int×List Int×(Int×List (List Int)×List (List Int)×Unit)×Unit)×Unit)(p1 p2 p3 p4 p5:Int)(p6:List Int)(p7:Int)(p8 p9:List (List Int))(p10:Int×Unit)(p11:List Int×Unit)(p12 p13:List Int)(p14:Int×Int×Unit)(p15:((List Int×List Int×Int×Unit)×List Int×Unit)×(Int×Int×Unit)×Int×Unit):Option E_68_0_1:=S_68_0_1 some p0 p1 p2 p3 p4 p5 p6 p7 p8 p9 p10 p11 p12 p13 p14 p15
noncomputable def O_68_0_1{R:Type}:Orc R:=orL T_68_0_1 (fun a=>J_68_0_1 a.1 a.2.1 a.2.2.1 a.2.2.2.1 a.2.2.2.2.1 a.2.2.2.2.2.1 a.2.2.2.2.2.2.1 a.2.2.2.2.2.2.2.1 a.2.2.2.2.2.2.2.2.1 a.2.2.2.2.2.2.2.2.2.1 a.2.2.2.2.2.2.2.2.2.2.1 a.2.2.2.2.2.2.2.2.2.2.2.1 a.2.2.2.2.2.2.2.2.2.2.2.2.1 a.2.2.2.2.2.2.2.2.2.2.2.2.2.1 a.2.2.2.2.2.2.2.2.2.2.2.2.2.2.1 a.2.2.2.2.2.2.2.2.2.2.2.2.2.2.2.1) Y_68_0_1 O_68_0
theorem OK_68_0_1{R:Type}:okF (R:=R) sm_68 1 (nf 68 0) O_68_0_1:=jp ov_68_68_ok (os:=[]) trivial T_68_0_1 (fun R k a=>S_68_0_1 k a.1 a.2.1 a.2.2.1 a.2.2.2.1 a.2.2.2.2.1 a.2.2.2.2.2.1 a.2.2.2.2.2.2.1 a.2.2.2.2.2.2.2.1 a.2.2.2.2.2.2.2.2.1 a.2.2.2.2.2.2.2.2.2.1 a.2.2.2.2.2.2.2.2.2.2.1 a.2.2.2.2.2.2.2.2.2.2.2.1 a.2.2.2.2.2.2.2.2.2.2.2.2.1 a.2.2.2.2.2.2.2.2.2.2.2.2.2.1 a.2.2.2.2.2.2.2.2.2.2.2.2.2.2.1 a.2.2.2.2.2.2.2.2.2.2.2.2.2.2.2.1) Y_68_0_1 (fun k a=>by kernel_rfl) (fun Y a=>by
 unfold S_68_0_1
 repeat' first|apply gdN|apply condN|rfl) OK_68_0
noncomputable def F_68(a0:(Int×(Int×(Int×((Int×(Int×((List Int)×((Int×((List (List Int))×((List (List Int))×Unit)))×Unit))))×Unit)))))(a1:(((List Int)×((List Int)×(Int×Unit)))×((List Int)×Unit)))(a2:Int)(a3:(List Int))(a4:(Int×(Int×Unit))):Option ((Int×(Int×(Int×((Int×(Int×((List Int)×((Int×((List (List Int))×((List (List Int))×Unit)))×Unit))))×Unit))))×(((List Int)×((List Int)×(Int×Unit)))×((List Int)×Unit))×(Int×(Int×Unit))×Int×Unit) :=
 gd (p_64 a0 a1 a4) (bif(v_64 a0 a1 a4).1 !=0 then gd (p_42 ((v_64 a0 a1 a4).1)) (some ((v_42 ((v_64 a0 a1 a4).1)).1,(v_42 ((v_64 a0 a1 a4).1)).2.1,(v_42 ((v_64 a0 a1 a4).1)).2.2.1,(v_42 ((v_64 a0 a1 a4).1)).2.2.2.1,PUnit.unit))else bif a0.1 !=1 then gd (p_42 6) (some ((v_42 6).1,(v_42 6).2.1,(v_42 6).2.2.1,(v_42 6).2.2.2.1,PUnit.unit))else bif a2 !=wrap i64 (Int.tdiv (a0.2.2.1) 32)then gd (p_42 15) (some ((v_42 15).1,(v_42 15).2.1,(v_42 15).2.2.1,(v_42 15).2.2.2.1,PUnit.unit))else bif(↑(length a3):Int)!=if wrap i64 (a0.2.2.2.1.2.1-a0.2.2.1)<32 then wrap i64 (a0.2.2.2.1.2.1-a0.2.2.1)else 32 then gd (p_42 3) (some ((v_42 3).1,(v_42 3).2.1,(v_42 3).2.2.1,(v_42 3).2.2.2.1,PUnit.unit))else gd (room (length (a1.1.1)) 4) (gd (room (length (a1.1.2.1)) 8) (gd (p_41 a1) (B_68_50_0_0 (L_68_50_0_0 4611686018427387904 (wrap i64 (wrap i64 (wrap i64 (a0.2.1*(v_41 a1).1)+564)+a0.2.2.1)) a3 (↑(length a3):Int) 0 a0 a1 a4 0 0 0 0 0 (replicate 32 (0:Int)) 0 (0,PUnit.unit) (replicate 32 (0:Int),PUnit.unit) (0,0,PUnit.unit) (a1.1.2.2.1,PUnit.unit) (a1.2) (a4,0,PUnit.unit) (a1.1.1) (a1.1.2.1)) (fun y72 y73 y74 y75 y76 y77 y78 y79 y80 y81 y82 y83 y84 y85 y86 y87 y88 y89=>bif wrap i64 (y72.2.2.1+(↑(length a3):Int))==y72.2.2.2.1.2.1 then B_68_0 (J_68_0 (2,y72.2.1,wrap i64 (y72.2.2.1+(↑(length a3):Int)),y72.2.2.2) y75 y76 y77 y78 y79 y80 y81 [] [] y82 y83 [] [] y84 y85 y86 y87 y88 y89) (fun y90 y91 y92 y93 y94 y95=>some (y90,((y94,y95,y91),y92),y93.1,0,PUnit.unit)) (fun y96 y97 y98 y99 y100=>some ((0,0,0,(0,0,replicate 32 (0:Int),(0,[],[],PUnit.unit),PUnit.unit),PUnit.unit),((y99,y100,y96),y97),y98.1,18,PUnit.unit)) fun y101=>some ((v_42 (y101.2.1)).1,(v_42 (y101.2.1)).2.1,(v_42 (y101.2.1)).2.2.1,(v_42 (y101.2.1)).2.2.2.1,PUnit.unit)else B_68_0 (J_68_0 (y72.1,y72.2.1,wrap i64 (y72.2.2.1+(↑(length a3):Int)),y72.2.2.2) y75 y76 y77 y78 y79 y80 y81 [] [] y82 y83 [] [] y84 y85 y86 y87 y88 y89) (fun y102 y103 y104 y105 y106 y107=>some (y102,((y106,y107,y103),y104),y105.1,0,PUnit.unit)) (fun y108 y109 y110 y111 y112=>some ((0,0,0,(0,0,replicate 32 (0:Int),(0,[],[],PUnit.unit),PUnit.unit),PUnit.unit),((y111,y112,y108),y109),y110.1,18,PUnit.unit)) fun y113=>some ((v_42 (y113.2.1)).1,(v_42 (y113.2.1)).2.1,(v_42 (y113.2.1)).2.2.1,(v_42 (y113.2.1)).2.2.2.1,PUnit.unit)) fun y114 y115 y116 y117 y118 y119 y120 y121 y122 y123 y124 y125 y126 y127 y128 y129=>bif wrap i64 (y114.2.2.1+(↑(length a3):Int))==y114.2.2.2.1.2.1 then B_68_0_1 (J_68_0_1 (2,y114.2.1,wrap i64 (y114.2.2.1+(↑(length a3):Int)),y114.2.2.2) y117 y118 y119 y120 y121 y122 y123 [] [] y124 y125 [] [] y126 y127) (fun y130 y131=>some (y130,y131.1,y131.2.1,0,PUnit.unit)) (fun y132=>some ((0,0,0,(0,0,replicate 32 (0:Int),(0,[],[],PUnit.unit),PUnit.unit),PUnit.unit),y132.1,y132.2.1,18,PUnit.unit)) fun y133=>some ((v_42 (y133.2.2.1)).1,(v_42 (y133.2.2.1)).2.1,(v_42 (y133.2.2.1)).2.2.1,(v_42 (y133.2.2.1)).2.2.2.1,PUnit.unit)else B_68_0_1 (J_68_0_1 (y114.1,y114.2.1,wrap i64 (y114.2.2.1+(↑(length a3):Int)),y114.2.2.2) y117 y118 y119 y120 y121 y122 y123 [] [] y124 y125 [] [] y126 y127) (fun y134 y135=>some (y134,y135.1,y135.2.1,0,PUnit.unit)) (fun y136=>some ((0,0,0,(0,0,replicate 32 (0:Int),(0,[],[],PUnit.unit),PUnit.unit),PUnit.unit),y136.1,y136.2.1,18,PUnit.unit)) fun y137=>some ((v_42 (y137.2.2.1)).1,(v_42 (y137.2.2.1)).2.1,(v_42 (y137.2.2.1)).2.2.1,(v_42 (y137.2.2.1)).2.2.2.1,PUnit.unit)))))
noncomputable def Sp.p_68(a0:(Int×(Int×(Int×((Int×(Int×((List Int)×((Int×((List (List Int))×((List (List Int))×Unit)))×Unit))))×Unit)))))(a1:(((List Int)×((List Int)×(Int×Unit)))×((List Int)×Unit)))(a2:Int)(a3:(List Int))(a4:(Int×(Int×Unit))):Bool:=(F_68 a0 a1 a2 a3 a4).isSome
noncomputable def Sp.v_68(a0:(Int×(Int×(Int×((Int×(Int×((List Int)×((Int×((List (List Int))×((List (List Int))×Unit)))×Unit))))×Unit)))))(a1:(((List Int)×((List Int)×(Int×Unit)))×((List Int)×Unit)))(a2:Int)(a3:(List Int))(a4:(Int×(Int×Unit))):(Int×(Int×(Int×((Int×(Int×((List Int)×((Int×((List (List Int))×((List (List Int))×Unit)))×Unit))))×Unit))))×(((List Int)×((List Int)×(Int×Unit)))×((List Int)×Unit))×(Int×(Int×Unit))×Int×Unit:=(F_68 a0 a1 a2 a3 a4).getD (dfH R_68)
noncomputable def s_68:Summ:=shS A_68 R_68 (fun x=>p_68 x.1 x.2.1 x.2.2.1 x.2.2.2.1 x.2.2.2.2.1) (fun x=>v_68 x.1 x.2.1 x.2.2.1 x.2.2.2.1 x.2.2.2.2.1)
theorem pv_68(a0:(Int×(Int×(Int×((Int×(Int×((List Int)×((Int×((List (List Int))×((List (List Int))×Unit)))×Unit))))×Unit)))))(a1:(((List Int)×((List Int)×(Int×Unit)))×((List Int)×Unit)))(a2:Int)(a3:(List Int))(a4:(Int×(Int×Unit))){y:(Int×(Int×(Int×((Int×(Int×((List Int)×((Int×((List (List Int))×((List (List Int))×Unit)))×Unit))))×Unit))))×(((List Int)×((List Int)×(Int×Unit)))×((List Int)×Unit))×(Int×(Int×Unit))×Int×Unit}(h:F_68 a0 a1 a2 a3 a4=some y):p_68 a0 a1 a2 a3 a4=true/\v_68 a0 a1 a2 a3 a4=y:=pvG h
theorem run_68(x:HDen A_68)(y:HDen R_68)(h:F_68 x.1 x.2.1 x.2.2.1 x.2.2.2.1 x.2.2.2.2.1=some y):rnF sm_68 2 68 A_68 R_68 x y:=runG ov_68_68_ok (os:=[O_68_0_1]) ⟨OK_68_0_1,trivial⟩ (Eq.trans (by kernel_rfl) h)
end
noncomputable section
abbrev Zt23_0:Type:=Int×Int×Int×(Int×Int×List Int×(Int×List (List Int)×List (List Int)×Unit)×Unit)×Unit
abbrev Zt23_1:Type:=(List Int×List Int×Int×Unit)×List Int×Unit
abbrev Zt23_2:Type:=Int×Int×List Int×(Int×List (List Int)×List (List Int)×Unit)×Unit
abbrev Zy23_3:Ty:=(.pair (.int .i64) (.pair (.int .i64) (.pair (.int .i64) (.pair (.pair (.int .i64) (.pair (.int .i64) (.pair (.arr 32 (.int .u8)) (.pair (.pair (.int .i64) (.pair (.slice (.arr 32 (.int .u8))) (.pair (.slice (.arr 32 (.int .u8))) .unit))) .unit)))) .unit))))
abbrev Zt23_4:Type:=Int×Int×Unit
abbrev Zy23_5:Ty:=(.pair (.pair (.slice (.int .u32)) (.pair (.slice (.int .i64)) (.pair (.int .i64) .unit))) (.pair (.arr 32 (.int .u8)) .unit))
abbrev Zy23_6:Ty:=(.pair (.int .i64) (.pair (.int .u32) .unit))
abbrev Zt23_7:Type:=List Int×Unit
abbrev A_23:List Ty:=[(.pair (.pair (.slice (.int .u32)) (.pair (.slice (.int .i64)) (.pair (.int .i64) .unit))) (.pair (.arr 32 (.int .u8)) .unit)),(.pair (.int .i64) (.pair (.int .i64) (.pair (.arr 32 (.int .u8)) (.pair (.pair (.int .i64) (.pair (.slice (.arr 32 (.int .u8))) (.pair (.slice (.arr 32 (.int .u8))) .unit))) .unit)))),(.slice (.int .u32)),(.pair (.int .i64) (.pair (.int .u32) .unit))]
abbrev R_23:List Ty:=[(.pair (.pair (.slice (.int .u32)) (.pair (.slice (.int .i64)) (.pair (.int .i64) .unit))) (.pair (.arr 32 (.int .u8)) .unit)),(.pair (.int .i64) (.pair (.int .u32) .unit)),(.int .i64)]
noncomputable def sm_23:Nat->Option Summ:=smL [(10,s_10),(19,s_19),(29,s_29),(35,s_35),(39,s_39),(40,s_40),(41,s_41),(68,s_68)]
noncomputable def T_23_108_0_0:PS:=⟨31,[(0,.yl 16 23 (.kc (.pair .junk (.pair .junk (.pair .junk (.pair .junk (.pair (.ptr 0 []) (.pair .junk (.pair .junk (.pair (.ptr 2 []) (.pair .junk (.pair .junk (.pair .junk (.pair (.ptr 11 []) (.pair (.ptr 12 []) (.pair (.ptr 13 []) (.pair .junk (.pair .junk (.pair .junk (.pair .junk (.pair .junk (.pair .junk (.pair .junk (.pair .junk (.pair .junk (.pair .junk (.pair .junk (.pair .junk (.pair .junk (.pair .junk (.pair .junk (.pair .junk (.pair .junk (.pair .junk (.pair .junk (.pair .junk (.pair .junk (.pair .junk (.pair .junk (.pair .junk (.pair .junk (.pair .junk (.pair .junk (.pair .junk (.pair .junk (.pair .junk (.pair .junk (.pair .junk (.pair .junk (.pair .junk (.pair .junk (.pair .junk (.pair .junk (.pair .junk (.pair .junk (.pair .junk (.pair .junk (.pair .junk (.pair .junk (.pair .junk (.pair .junk (.pair .junk (.pair .junk (.pair .junk (.pair .junk (.pair .junk (.pair .junk (.pair .junk (.pair .junk (.pair .junk (.pair .junk (.pair .junk (.pair .junk (.pair .junk (.pair .junk (.pair .junk (.pair .junk (.pair .junk (.pair .junk (.pair .junk (.pair .junk (.pair .junk (.pair .junk (.pair .junk (.pure .unit PUnit.unit))))))))))))))))))))))))))))))))))))))))))))))))))))))))))))))))))))))))))))))))))))),(1,.kc (.ptr 14 [])),(2,.kc (.ptr 15 [])),(4,.hv (.int .i64))],[.mem (.hv Zy23_5),.mem (.hv (.pair (.int .i64) (.pair (.int .i64) (.pair (.arr 32 (.int .u8)) (.pair (.pair (.int .i64) (.pair (.slice (.arr 32 (.int .u8))) (.pair (.slice (.arr 32 (.int .u8))) .unit))) .unit))))),.mem (.hv Zy23_6),.mem (.pr (.pr (.kc (.nil 37 (.int .u32))) (.pr (.kc (.nil 3 (.int .i64))) (.hv (.pair (.int .i64) .unit)))) (.hv (.pair (.arr 32 (.int .u8)) .unit))),.mem (.hv Zy23_6),.fresh,.fresh,.fresh,.fresh,.fresh,.fresh,.mem (.hv Zy23_3),.mem (.hv (.int .i64)),.mem (.hv (.int .i64)),.mem (.hv (.slice (.int .u32))),.mem (.hv (.int .i64)),.gh 0],17⟩
inductive Sp.E_23_108_0_0 where
 |e0 (p1:Zt23_1) (p2:Zt23_2) (p3:Zt23_4) (p4:Int×Unit) (p5:Zt23_7) (p6:Zt23_4) (p7:Zt23_0) (p8 p9:Int) (p10:List Int) (p11:Int)
 |e1 (p1:Zt23_1) (p2:Zt23_2) (p3:Zt23_4) (p4:Int×Unit) (p5:Zt23_7) (p6:Zt23_4) (p7:Zt23_0) (p8 p9:Int) (p10:List Int) (p11:Int)
noncomputable def Sp.B_23_108_0_0{R:Type}(r:Option E_23_108_0_0)(k0 k1:Zt23_1->Zt23_2->Zt23_4->(Int×Unit)->Zt23_7->Zt23_4->Zt23_0->Int->Int->List Int->Int->Option R):Option R:=match r with
 |none=>none
 |some (.e0 p1 p2 p3 p4 p5 p6 p7 p8 p9 p10 p11)=>k0 p1 p2 p3 p4 p5 p6 p7 p8 p9 p10 p11
 |some (.e1 p1 p2 p3 p4 p5 p6 p7 p8 p9 p10 p11)=>k1 p1 p2 p3 p4 p5 p6 p7 p8 p9 p10 p11
noncomputable def Y_23_108_0_0{R:Type}(k:Ex->St->Option R):E_23_108_0_0->Option R
 | .e0 p1 p2 p3 p4 p5 p6 p7 p8 p9 p10 p11=>k Ex.ret (sx 31 [] [Blk.mem (CV.pure (Ty.pair (Ty.pair (Ty.slice (Ty.int u32)) (Ty.pair (Ty.slice (Ty.int i64)) (Ty.pair (Ty.int i64) Ty.unit))) (Ty.pair (Ty.arr 32 (Ty.int u8)) Ty.unit)) p1),Blk.mem (CV.pure (Ty.pair (Ty.int i64) (Ty.pair (Ty.int i64) (Ty.pair (Ty.arr 32 (Ty.int u8)) (Ty.pair (Ty.pair (Ty.int i64) (Ty.pair (Ty.slice (Ty.arr 32 (Ty.int u8))) (Ty.pair (Ty.slice (Ty.arr 32 (Ty.int u8))) Ty.unit))) Ty.unit)))) p2),Blk.mem (CV.pure (Ty.pair (Ty.int i64) (Ty.pair (Ty.int u32) Ty.unit)) p3),Blk.mem (CV.pair (CV.pair (CV.nil 37 (Ty.int u32)) (CV.pair (CV.nil 3 (Ty.int i64)) (CV.pure (Ty.pair (Ty.int i64) Ty.unit) p4))) (CV.pure (Ty.pair (Ty.arr 32 (Ty.int u8)) Ty.unit) p5)),Blk.mem (CV.pure (Ty.pair (Ty.int i64) (Ty.pair (Ty.int u32) Ty.unit)) p6),Blk.fresh,Blk.fresh,Blk.fresh,Blk.fresh,Blk.fresh,Blk.fresh,Blk.mem (CV.pure (Ty.pair (Ty.int i64) (Ty.pair (Ty.int i64) (Ty.pair (Ty.int i64) (Ty.pair (Ty.pair (Ty.int i64) (Ty.pair (Ty.int i64) (Ty.pair (Ty.arr 32 (Ty.int u8)) (Ty.pair (Ty.pair (Ty.int i64) (Ty.pair (Ty.slice (Ty.arr 32 (Ty.int u8))) (Ty.pair (Ty.slice (Ty.arr 32 (Ty.int u8))) Ty.unit))) Ty.unit)))) Ty.unit)))) p7),Blk.mem (CV.int i64 p8),Blk.mem (CV.int i64 p9),Blk.mem (CV.pure (Ty.slice (Ty.int u32)) p10),Blk.mem (CV.int i64 p11),Blk.ghost 3] 17)
 | .e1 p1 p2 p3 p4 p5 p6 p7 p8 p9 p10 p11=>k (Ex.exit 0) (sx 31 [] [Blk.mem (CV.pure (Ty.pair (Ty.pair (Ty.slice (Ty.int u32)) (Ty.pair (Ty.slice (Ty.int i64)) (Ty.pair (Ty.int i64) Ty.unit))) (Ty.pair (Ty.arr 32 (Ty.int u8)) Ty.unit)) p1),Blk.mem (CV.pure (Ty.pair (Ty.int i64) (Ty.pair (Ty.int i64) (Ty.pair (Ty.arr 32 (Ty.int u8)) (Ty.pair (Ty.pair (Ty.int i64) (Ty.pair (Ty.slice (Ty.arr 32 (Ty.int u8))) (Ty.pair (Ty.slice (Ty.arr 32 (Ty.int u8))) Ty.unit))) Ty.unit)))) p2),Blk.mem (CV.pure (Ty.pair (Ty.int i64) (Ty.pair (Ty.int u32) Ty.unit)) p3),Blk.mem (CV.pair (CV.pair (CV.nil 37 (Ty.int u32)) (CV.pair (CV.nil 3 (Ty.int i64)) (CV.pure (Ty.pair (Ty.int i64) Ty.unit) p4))) (CV.pure (Ty.pair (Ty.arr 32 (Ty.int u8)) Ty.unit) p5)),Blk.mem (CV.pure (Ty.pair (Ty.int i64) (Ty.pair (Ty.int u32) Ty.unit)) p6),Blk.fresh,Blk.fresh,Blk.fresh,Blk.fresh,Blk.fresh,Blk.fresh,Blk.mem (CV.pure (Ty.pair (Ty.int i64) (Ty.pair (Ty.int i64) (Ty.pair (Ty.int i64) (Ty.pair (Ty.pair (Ty.int i64) (Ty.pair (Ty.int i64) (Ty.pair (Ty.arr 32 (Ty.int u8)) (Ty.pair (Ty.pair (Ty.int i64) (Ty.pair (Ty.slice (Ty.arr 32 (Ty.int u8))) (Ty.pair (Ty.slice (Ty.arr 32 (Ty.int u8))) Ty.unit))) Ty.unit)))) Ty.unit)))) p7),Blk.mem (CV.int i64 p8),Blk.mem (CV.int i64 p9),Blk.mem (CV.pure (Ty.slice (Ty.int u32)) p10),Blk.mem (CV.int i64 p11),Blk.ghost 0] 17)
noncomputable def Sp.S_23_108_0_0{R:Type}(K:Int->((List Int×List Int×Int×Unit)×List Int×Unit)->(Int×Int×List Int×(Int×List (List Int)×List (List Int)×Unit)×Unit)->(Int×Int×Unit)->(Int×Unit)->(List Int×Unit)->(Int×Int×Unit)->(Int×Int×Int×(Int×Int×List Int×(Int×List (List Int)×List (List Int)×Unit)×Unit)×Unit)->Int->Int->List Int->Int->Option R)(k:E_23_108_0_0->Option R)(p0:Int)(p1:(List Int×List Int×Int×Unit)×List Int×Unit)(p2:Int×Int×List Int×(Int×List (List Int)×List (List Int)×Unit)×Unit)(p3:Int×Int×Unit)(p4:Int×Unit)(p5:List Int×Unit)(p6:Int×Int×Unit)(p7:Int×Int×Int×(Int×Int×List Int×(Int×List (List Int)×List (List Int)×Unit)×Unit)×Unit)(p8 p9:Int)(p10:List Int)(p11:Int):Option R:=
 bif decide (p0<(↑(length p10):Int))then gd (sl3 p0 (↑(length p10):Int) (↑(length p10):Int)) (gd (sl3 p0 (wrap i64 (p0+if(↑(length (drop (toNat p0) p10)):Int)<p11 then(↑(length (drop (toNat p0) p10)):Int)else p11)) (wrap i64 (p0+if(↑(length (drop (toNat p0) p10)):Int)<p11 then(↑(length (drop (toNat p0) p10)):Int)else p11))&&decide (wrap i64 (p0+if(↑(length (drop (toNat p0) p10)):Int)<p11 then(↑(length (drop (toNat p0) p10)):Int)else p11)<=(↑(length p10):Int))) (bif p8 !=0 then k (E_23_108_0_0.e0 p1 p2 p3 p4 p5 p6 p7 p8 p9 p10 p11)else gd (p_68 p7 p1 p9 (take (toNat (wrap i64 (p0+if(↑(length (drop (toNat p0) p10)):Int)<p11 then(↑(length (drop (toNat p0) p10)):Int)else p11))-toNat p0) (drop (toNat p0) p10)) p3) (K (wrap i64 (p0+p11)) ((v_68 p7 p1 p9 (take (toNat (wrap i64 (p0+if(↑(length (drop (toNat p0) p10)):Int)<p11 then(↑(length (drop (toNat p0) p10)):Int)else p11))-toNat p0) (drop (toNat p0) p10)) p3).2.1) p2 ((v_68 p7 p1 p9 (take (toNat (wrap i64 (p0+if(↑(length (drop (toNat p0) p10)):Int)<p11 then(↑(length (drop (toNat p0) p10)):Int)else p11))-toNat p0) (drop (toNat p0) p10)) p3).2.2.1) p4 p5 p6 ((v_68 p7 p1 p9 (take (toNat (wrap i64 (p0+if(↑(length (drop (toNat p0) p10)):Int)<p11 then(↑(length (drop (toNat p0) p10)):Int)else p11))-toNat p0) (drop (toNat p0) p10)) p3).1) ((v_68 p7 p1 p9 (take (toNat (wrap i64 (p0+if(↑(length (drop (toNat p0) p10)):Int)<p11 then(↑(length (drop (toNat p0) p10)):Int)else p11))-toNat p0) (drop (toNat p0) p10)) p3).2.2.2.1) (wrap i64 (p9+1)) p10 p11)))else k (E_23_108_0_0.e1 p1 p2 p3 p4 p5 p6 p7 p8 p9 p10 p11)
noncomputable def Sp.L_23_108_0_0:Nat->Int->((List Int×List Int×Int×Unit)×List Int×Unit)->(Int×Int×List Int×(Int×List (List Int)×List (List Int)×Unit)×Unit)->(Int×Int×Unit)->(Int×Unit)->(List Int×Unit)->(Int×Int×Unit)->(Int×Int×Int×(Int×Int×List Int×(Int×List (List Int)×List (List Int)×Unit)×Unit)×Unit)->Int->Int->List Int->Int->Option E_23_108_0_0
 |0,_,_,_,_,_,_,_,_,_,_,_,_=>none
 |m+1,p0,p1,p2,p3,p4,p5,p6,p7,p8,p9,p10,p11=>S_23_108_0_0 (L_23_108_0_0 m) some p0 p1 p2 p3 p4 p5 p6 p7 p8 p9 p10 p11
noncomputable def l_23_108_0_0(m:Nat)(a:T_23_108_0_0.E):Option E_23_108_0_0:=L_23_108_0_0 m a.1 a.2.1 a.2.2.1 a.2.2.2.1 a.2.2.2.2.1 a.2.2.2.2.2.1 a.2.2.2.2.2.2.1 a.2.2.2.2.2.2.2.1 a.2.2.2.2.2.2.2.2.1 a.2.2.2.2.2.2.2.2.2.1 a.2.2.2.2.2.2.2.2.2.2.1 a.2.2.2.2.2.2.2.2.2.2.2.1
noncomputable def O_23_108_0_0{R:Type}:Orc R:=orL T_23_108_0_0 (l_23_108_0_0 FU) Y_23_108_0_0
theorem OK_23_108_0_0{R:Type}:okF (R:=R) sm_23 2 (nf 108 0) O_23_108_0_0:=lp0 T_23_108_0_0 l_23_108_0_0 (fun R K k a=>S_23_108_0_0 (fun p0 p1 p2 p3 p4 p5 p6 p7 p8 p9 p10 p11=>K (p0,p1,p2,p3,p4,p5,p6,p7,p8,p9,p10,p11,())) k a.1 a.2.1 a.2.2.1 a.2.2.2.1 a.2.2.2.2.1 a.2.2.2.2.2.1 a.2.2.2.2.2.2.1 a.2.2.2.2.2.2.2.1 a.2.2.2.2.2.2.2.2.1 a.2.2.2.2.2.2.2.2.2.1 a.2.2.2.2.2.2.2.2.2.2.1 a.2.2.2.2.2.2.2.2.2.2.2.1) Y_23_108_0_0 (fun _ _ _=>by kernel_rfl) (fun _ _ _=>by
 unfold S_23_108_0_0
 repeat' first|apply gdN|apply condN|rfl) (ok0 _)
noncomputable def g_23_108{R:Type}:List CV->List Blk->(CV->List Blk->Option R)->Option R:=evFnL sm_23 FU (ovr noO (evFn sm_23 fns FU 2)) (mkT (fB fns 108) [O_23_108_0_0]) (fO fns 108)
theorem g_23_108_ok{R:Type}(args:List CV)(hp:List Blk)(k:CV->List Blk->Option R)(r:R)(h:g_23_108 args hp k=some r):evFn sm_23 fns FU 3 108 args hp k=some r:=runG noO_ok (os:=[O_23_108_0_0]) ⟨OK_23_108_0_0,trivial⟩ h
noncomputable def ov_23_67{R:Type}:Nat->Option (List CV->List Blk->(CV->List Blk->Option R)->Option R):=fun f'=>bif Nat.beq f' 108 then some g_23_108 else none
theorem ov_23_67_ok{R:Type}:OvrOK (R:=R) ov_23_67 (evFn sm_23 fns FU 3):=by
 intro f' g h args hp k r hg
 dsimp only[ov_23_67]at h
 by_cases h108:f'=108
 ·subst h108
  injection h with h
  subst h
  exact evFn_le 0 (g_23_108_ok _ _ _ _ hg)
 rw[nbeq_ne h108,cond_false]at h
 cases h
noncomputable def g_23_67{R:Type}:List CV->List Blk->(CV->List Blk->Option R)->Option R:=evFnL sm_23 FU (ovr ov_23_67 (evFn sm_23 fns FU 3)) (mkT (fB fns 67) []) (fO fns 67)
theorem g_23_67_ok{R:Type}(args:List CV)(hp:List Blk)(k:CV->List Blk->Option R)(r:R)(h:g_23_67 args hp k=some r):evFn sm_23 fns FU 4 67 args hp k=some r:=runG ov_23_67_ok (os:=[]) trivial h
noncomputable def ov_23_23{R:Type}:Nat->Option (List CV->List Blk->(CV->List Blk->Option R)->Option R):=fun f'=>bif Nat.beq f' 67 then some g_23_67 else bif Nat.beq f' 108 then some g_23_108 else none
theorem ov_23_23_ok{R:Type}:OvrOK (R:=R) ov_23_23 (evFn sm_23 fns FU 4):=by
 intro f' g h args hp k r hg
 dsimp only[ov_23_23]at h
 by_cases h67:f'=67
 ·subst h67
  injection h with h
  subst h
  exact evFn_le 0 (g_23_67_ok _ _ _ _ hg)
 rw[nbeq_ne h67,cond_false]at h
 by_cases h108:f'=108
 ·subst h108
  injection h with h
  subst h
  exact evFn_le 1 (g_23_108_ok _ _ _ _ hg)
 rw[nbeq_ne h108,cond_false]at h
 cases h
noncomputable def T_23_0:PS:=⟨82,[(4,.kc (.ptr 0 [])),(7,.kc (.ptr 1 [])),(8,.kc (.ptr 2 [])),(9,.kc (.ptr 5 [])),(11,.kc (.ptr 6 [])),(12,.kc (.ptr 7 []))],[.mem (.hv Zy23_5),.mem (.hv Zy23_6),.mem (.pr (.pr (.kc (.whole 3)) (.pr (.kc (.whole 4)) (.hv (.pair (.int .i64) .unit)))) (.hv (.pair (.arr 32 (.int .u8)) .unit))),.vec 37 (.int .u32),.vec 3 (.int .i64),.mem (.hv Zy23_6),.mem (.hv Zy23_3),.mem (.hv (.int .i64))],0⟩
inductive Sp.E_23_0 where
 |e0 (p0:Zt23_1) (p1:Zt23_4) (p7:Zt23_0)
 |e1 (p0:Zt23_1) (p1:Zt23_4) (p8:Int)
noncomputable def Sp.B_23_0{R:Type}(r:Option E_23_0)(k0:Zt23_1->Zt23_4->Zt23_0->Option R)(k1:Zt23_1->Zt23_4->Int->Option R):Option R:=match r with
 |none=>none
 |some (.e0 p0 p1 p7)=>k0 p0 p1 p7
 |some (.e1 p0 p1 p8)=>k1 p0 p1 p8
noncomputable def Y_23_0{R:Type}(k:Ex->St->Option R):E_23_0->Option R
 | .e0 p0 p1 p7=>k Ex.ret (sx 82 [(8,CV.ptr 0 []),(9,CV.ptr 1 []),(10,CV.int i64 ((v_19 p7 p0 p1).2.2.2.1))] [Blk.mem (CV.pure (Ty.pair (Ty.pair (Ty.slice (Ty.int u32)) (Ty.pair (Ty.slice (Ty.int i64)) (Ty.pair (Ty.int i64) Ty.unit))) (Ty.pair (Ty.arr 32 (Ty.int u8)) Ty.unit)) (((v_19 p7 p0 p1).2.1):(((List Int)×((List Int)×(Int×Unit)))×((List Int)×Unit)))),Blk.mem (CV.pure (Ty.pair (Ty.int i64) (Ty.pair (Ty.int u32) Ty.unit)) (((v_19 p7 p0 p1).2.2.1):(Int×(Int×Unit))))])
 | .e1 p0 p1 p8=>k Ex.ret (sx 82 [(8,CV.ptr 0 []),(9,CV.ptr 1 []),(10,CV.int i64 p8)] [Blk.mem (CV.pure (Ty.pair (Ty.pair (Ty.slice (Ty.int u32)) (Ty.pair (Ty.slice (Ty.int i64)) (Ty.pair (Ty.int i64) Ty.unit))) (Ty.pair (Ty.arr 32 (Ty.int u8)) Ty.unit)) p0),Blk.mem (CV.pure (Ty.pair (Ty.int i64) (Ty.pair (Ty.int u32) Ty.unit)) p1)])
noncomputable def Sp.S_23_0{R:Type}(k:E_23_0->Option R)(p0:(List Int×List Int×Int×Unit)×List Int×Unit)(p1:Int×Int×Unit)(p2:Int×Unit)(p3:List Int×Unit)(p4 p5:List Int)(p6:Int×Int×Unit)(p7:Int×Int×Int×(Int×Int×List Int×(Int×List (List Int)×List (List Int)×Unit)×Unit)×Unit)(p8:Int):Option R:=
 bif p8==0 then gd (p_19 p7 p0 p1) (k (E_23_0.e0 p0 p1 p7))else k (E_23_0.e1 p0 p1 p8)
noncomputable def Sp.J_23_0(p0:(List Int×List Int×Int×Unit)×List Int×Unit)(p1:Int×Int×Unit)(p2:Int×Unit)(p3:List Int×Unit)(p4 p5:List Int)(p6:Int×Int×Unit)(p7:Int×Int×Int×(Int×Int×List Int×(Int×List (List Int)×List (List Int)×Unit)×Unit)×Unit)(p8:Int):Option E_23_0:=S_23_0 some p0 p1 p2 p3 p4 p5 p6 p7 p8
noncomputable def O_23_0{R:Type}:Orc R:=orL T_23_0 (fun a=>J_23_0 a.1 a.2.1 a.2.2.1 a.2.2.2.1 a.2.2.2.2.1 a.2.2.2.2.2.1 a.2.2.2.2.2.2.1 a.2.2.2.2.2.2.2.1 a.2.2.2.2.2.2.2.2.1) Y_23_0
theorem OK_23_0{R:Type}:okF (R:=R) sm_23 4 (nf 23 0) O_23_0:=jp ov_23_23_ok (os:=[]) trivial T_23_0 (fun R k a=>S_23_0 k a.1 a.2.1 a.2.2.1 a.2.2.2.1 a.2.2.2.2.1 a.2.2.2.2.2.1 a.2.2.2.2.2.2.1 a.2.2.2.2.2.2.2.1 a.2.2.2.2.2.2.2.2.1) Y_23_0 (fun k a=>by kernel_rfl) (fun Y a=>by
 unfold S_23_0
 repeat' first|apply gdN|apply condN|rfl) (ok0 _)
noncomputable def F_23(a0:(((List Int)×((List Int)×(Int×Unit)))×((List Int)×Unit)))(a1:(Int×(Int×((List Int)×((Int×((List (List Int))×((List (List Int))×Unit)))×Unit)))))(a2:(List Int))(a3:(Int×(Int×Unit))):Option ((((List Int)×((List Int)×(Int×Unit)))×((List Int)×Unit))×(Int×(Int×Unit))×Int×Unit) :=
 gd (p_29 a0) (bif !(v_29 a0).1 then some ((([],[],0,PUnit.unit),replicate 32 (0:Int),PUnit.unit),(0,0,PUnit.unit),1,PUnit.unit)else gd (p_39 a3) (bif !(v_39 a3).1 then some ((([],[],0,PUnit.unit),replicate 32 (0:Int),PUnit.unit),(0,0,PUnit.unit),1,PUnit.unit)else gd (p_41 a0) (gd (p_40 a1 (wrap i64 ((v_41 a0).1-564))) (bif !(v_40 a1 (wrap i64 ((v_41 a0).1-564))).1 then some ((([],[],0,PUnit.unit),replicate 32 (0:Int),PUnit.unit),(0,0,PUnit.unit),1,PUnit.unit)else bif(↑(length a2):Int)!=a1.2.1 then some ((([],[],0,PUnit.unit),replicate 32 (0:Int),PUnit.unit),(0,0,PUnit.unit),1,PUnit.unit)else gd p_35 (gd (p_10 (v_35.1) a0 a1 a3) (B_23_108_0_0 (L_23_108_0_0 4611686018427387904 0 ((v_10 (v_35.1) a0 a1 a3).2.1) a1 ((v_10 (v_35.1) a0 a1 a3).2.2.1) (0,PUnit.unit) (replicate 32 (0:Int),PUnit.unit) (0,0,PUnit.unit) ((v_10 (v_35.1) a0 a1 a3).1) ((v_10 (v_35.1) a0 a1 a3).2.2.2.1) 0 a2 32) (fun y34 y35 y36 y37 y38 y39 y40 y41 y42 y43 y44=>B_23_0 (J_23_0 y34 y36 y37 y38 [] [] y39 y40 y41) (fun y45 y46 y47=>some ((v_19 y47 y45 y46).2.1,(v_19 y47 y45 y46).2.2.1,(v_19 y47 y45 y46).2.2.2.1,PUnit.unit)) fun y48 y49 y50=>some (y48,y49,y50,PUnit.unit)) fun y51 y52 y53 y54 y55 y56 y57 y58 y59 y60 y61=>B_23_0 (J_23_0 y51 y53 y54 y55 [] [] y56 y57 y58) (fun y62 y63 y64=>some ((v_19 y64 y62 y63).2.1,(v_19 y64 y62 y63).2.2.1,(v_19 y64 y62 y63).2.2.2.1,PUnit.unit)) fun y65 y66 y67=>some (y65,y66,y67,PUnit.unit)))))))
noncomputable def Sp.p_23(a0:(((List Int)×((List Int)×(Int×Unit)))×((List Int)×Unit)))(a1:(Int×(Int×((List Int)×((Int×((List (List Int))×((List (List Int))×Unit)))×Unit)))))(a2:(List Int))(a3:(Int×(Int×Unit))):Bool:=(F_23 a0 a1 a2 a3).isSome
noncomputable def Sp.v_23(a0:(((List Int)×((List Int)×(Int×Unit)))×((List Int)×Unit)))(a1:(Int×(Int×((List Int)×((Int×((List (List Int))×((List (List Int))×Unit)))×Unit)))))(a2:(List Int))(a3:(Int×(Int×Unit))):(((List Int)×((List Int)×(Int×Unit)))×((List Int)×Unit))×(Int×(Int×Unit))×Int×Unit:=(F_23 a0 a1 a2 a3).getD (dfH R_23)
noncomputable def s_23:Summ:=shS A_23 R_23 (fun x=>p_23 x.1 x.2.1 x.2.2.1 x.2.2.2.1) (fun x=>v_23 x.1 x.2.1 x.2.2.1 x.2.2.2.1)
theorem pv_23(a0:(((List Int)×((List Int)×(Int×Unit)))×((List Int)×Unit)))(a1:(Int×(Int×((List Int)×((Int×((List (List Int))×((List (List Int))×Unit)))×Unit)))))(a2:(List Int))(a3:(Int×(Int×Unit))){y:(((List Int)×((List Int)×(Int×Unit)))×((List Int)×Unit))×(Int×(Int×Unit))×Int×Unit}(h:F_23 a0 a1 a2 a3=some y):p_23 a0 a1 a2 a3=true/\v_23 a0 a1 a2 a3=y:=pvG h
theorem run_23(x:HDen A_23)(y:HDen R_23)(h:F_23 x.1 x.2.1 x.2.2.1 x.2.2.2.1=some y):rnF sm_23 5 23 A_23 R_23 x y:=runG ov_23_23_ok (os:=[O_23_0]) ⟨OK_23_0,trivial⟩ (Eq.trans (by kernel_rfl) h)
end
noncomputable section
abbrev A_72:List Ty:=[(.pair (.pair (.slice (.int .u32)) (.pair (.slice (.int .i64)) (.pair (.int .i64) .unit))) (.pair (.arr 32 (.int .u8)) .unit)),(.int .i64)]
abbrev R_72:List Ty:=[(.slice (.int .u32)),(.int .i64)]
noncomputable def sm_72:Nat->Option Summ:=smL [(90,s_90),(105,s_105),(109,s_109)]
noncomputable def F_72(a0:(((List Int)×((List Int)×(Int×Unit)))×((List Int)×Unit)))(a1:Int):Option ((List Int)×Int×Unit) :=
 gd (p_105 a0 a1) (bif(v_105 a0 a1).1 !=0 then some ([],(v_105 a0 a1).1,PUnit.unit)else gd (p_109 a0 a1) (gd (inB 2 (length ((v_109 a0 a1).1))) (gd (sl3 564 (wrap i64 (564+wrap i64 (getD ((v_109 a0 a1).1) 2 0))) (↑(length ((v_109 a0 a1).1)):Int)) (gd (room (length (take (toNat (wrap i64 (564+wrap i64 (getD ((v_109 a0 a1).1) 2 0)))-564) (drop 564 ((v_109 a0 a1).1)))) 4) (some (take (toNat (wrap i64 (564+wrap i64 (getD ((v_109 a0 a1).1) 2 0)))-564) (drop 564 ((v_109 a0 a1).1)),0,PUnit.unit))))))
noncomputable def Sp.p_72(a0:(((List Int)×((List Int)×(Int×Unit)))×((List Int)×Unit)))(a1:Int):Bool:=(F_72 a0 a1).isSome
noncomputable def Sp.v_72(a0:(((List Int)×((List Int)×(Int×Unit)))×((List Int)×Unit)))(a1:Int):(List Int)×Int×Unit:=(F_72 a0 a1).getD (dfH R_72)
noncomputable def s_72:Summ:=shS A_72 R_72 (fun x=>p_72 x.1 x.2.1) (fun x=>v_72 x.1 x.2.1)
theorem pv_72(a0:(((List Int)×((List Int)×(Int×Unit)))×((List Int)×Unit)))(a1:Int){y:(List Int)×Int×Unit}(h:F_72 a0 a1=some y):p_72 a0 a1=true/\v_72 a0 a1=y:=pvG h
theorem run_72(x:HDen A_72)(y:HDen R_72)(h:F_72 x.1 x.2.1=some y):rnF sm_72 1 72 A_72 R_72 x y:=runG noO_ok (os:=[]) trivial (Eq.trans (by kernel_rfl) h)
end
noncomputable section
abbrev A_27:List Ty:=[(.pair (.pair (.slice (.int .u32)) (.pair (.slice (.int .i64)) (.pair (.int .i64) .unit))) (.pair (.arr 32 (.int .u8)) .unit))]
abbrev R_27:List Ty:=[(.slice (.int .u32)),(.int .i64),.bool]
noncomputable def sm_27:Nat->Option Summ:=smL [(44,s_44),(46,s_46),(72,s_72)]
noncomputable def F_27(a0:(((List Int)×((List Int)×(Int×Unit)))×((List Int)×Unit))):Option ((List Int)×Int×Bool×Unit) :=
 gd (p_46 a0) (bif !(v_46 a0).2.1 then some ([],0,false,PUnit.unit)else gd (p_72 a0 ((v_46 a0).1)) (gd (p_44 a0) (some ((v_72 a0 ((v_46 a0).1)).1,(v_44 a0).1,(v_72 a0 ((v_46 a0).1)).2.1==0,PUnit.unit))))
noncomputable def Sp.p_27(a0:(((List Int)×((List Int)×(Int×Unit)))×((List Int)×Unit))):Bool:=(F_27 a0).isSome
noncomputable def Sp.v_27(a0:(((List Int)×((List Int)×(Int×Unit)))×((List Int)×Unit))):(List Int)×Int×Bool×Unit:=(F_27 a0).getD (dfH R_27)
noncomputable def s_27:Summ:=shS A_27 R_27 (fun x=>p_27 x.1) (fun x=>v_27 x.1)
theorem pv_27(a0:(((List Int)×((List Int)×(Int×Unit)))×((List Int)×Unit))){y:(List Int)×Int×Bool×Unit}(h:F_27 a0=some y):p_27 a0=true/\v_27 a0=y:=pvG h
theorem run_27(x:HDen A_27)(y:HDen R_27)(h:F_27 x.1=some y):rnF sm_27 1 27 A_27 R_27 x y:=runG noO_ok (os:=[]) trivial (Eq.trans (by kernel_rfl) h)
end
noncomputable section
abbrev A_112:List Ty:=[(.arr 32 (.int .u8))]
abbrev R_112:List Ty:=[(.slice (.int .u32))]
noncomputable def sm_112:Nat->Option Summ:=smL []
noncomputable def T_112_0:PS:=⟨38,[(1,.kc (.ptr 0 [])),(3,.kc (.whole 1)),(4,.hv (.int .i64))],[.mem (.hv (.arr 32 (.int .u8))),.vec 37 (.int .u32)],0⟩
inductive Sp.E_112_0 where
 |e0 (p2:List Int)
noncomputable def Sp.B_112_0{R:Type}(r:Option E_112_0)(k0:List Int->Option R):Option R:=match r with
 |none=>none
 |some (.e0 p2)=>k0 p2
noncomputable def Y_112_0{R:Type}(k:Ex->St->Option R):E_112_0->Option R
 | .e0 p2=>k (Ex.exit 0) (sx 38 [(3,CV.whole 0)] [Blk.vec 37 (Ty.int u32) p2])
noncomputable def Sp.S_112_0{R:Type}(K:Int->List Int->List Int->Option R)(k:E_112_0->Option R)(p0:Int)(p1 p2:List Int):Option R:=
 bif decide (p0<32)then gd (inB p0 32) (gd (decide (toNat p0<32)&&true) (gd (inB (wrap i64 (p0+1)) 32) (gd (decide (toNat (wrap i64 (p0+1))<32)&&true) (gd (inB (wrap i64 (p0+2)) 32) (gd (decide (toNat (wrap i64 (p0+2))<32)&&true) (gd (inB (wrap i64 (p0+3)) 32) (gd (decide (toNat (wrap i64 (p0+3))<32)&&true) (gd (room (length p2+1) 4) (K (wrap i64 (p0+4)) p1 (p2++[Sp.orI u32 (Sp.orI u32 (Sp.orI u32 (wrap u32 (wrap u32 (getD p1 (toNat p0) 0)*16777216)) (wrap u32 (wrap u32 (getD p1 (toNat (wrap i64 (p0+1))) 0)*65536))) (wrap u32 (wrap u32 (getD p1 (toNat (wrap i64 (p0+2))) 0)*256))) (wrap u32 (getD p1 (toNat (wrap i64 (p0+3))) 0))]))))))))))else k (E_112_0.e0 p2)
noncomputable def Sp.L_112_0:Nat->Int->List Int->List Int->Option E_112_0
 |0,_,_,_=>none
 |m+1,p0,p1,p2=>S_112_0 (L_112_0 m) some p0 p1 p2
noncomputable def l_112_0(m:Nat)(a:T_112_0.E):Option E_112_0:=L_112_0 m a.1 a.2.1 a.2.2.1
noncomputable def O_112_0{R:Type}:Orc R:=orL T_112_0 (l_112_0 FU) Y_112_0
theorem OK_112_0{R:Type}:okF (R:=R) sm_112 0 (nf 112 0) O_112_0:=lp0 T_112_0 l_112_0 (fun R K k a=>S_112_0 (fun p0 p1 p2=>K (p0,p1,p2,())) k a.1 a.2.1 a.2.2.1) Y_112_0 (fun _ _ _=>by kernel_rfl) (fun _ _ _=>by
 unfold S_112_0
 repeat' first|apply gdN|apply condN|rfl) (ok0 _)
noncomputable def F_112(a0:(List Int)):Option ((List Int)×Unit) :=
 B_112_0 (L_112_0 4611686018427387904 0 a0 []) fun y1=>some (y1,PUnit.unit)
noncomputable def Sp.p_112(a0:(List Int)):Bool:=(F_112 a0).isSome
noncomputable def Sp.v_112(a0:(List Int)):(List Int)×Unit:=(F_112 a0).getD (dfH R_112)
noncomputable def s_112:Summ:=shS A_112 R_112 (fun x=>p_112 x.1) (fun x=>v_112 x.1)
theorem pv_112(a0:(List Int)){y:(List Int)×Unit}(h:F_112 a0=some y):p_112 a0=true/\v_112 a0=y:=pvG h
theorem run_112(x:HDen A_112)(y:HDen R_112)(h:F_112 x.1=some y):rnF sm_112 1 112 A_112 R_112 x y:=runG noO_ok (os:=[O_112_0]) ⟨OK_112_0,trivial⟩ (Eq.trans (by kernel_rfl) h)
end
noncomputable section
abbrev A_76:List Ty:=[(.pair (.int .i64) (.pair (.slice (.arr 32 (.int .u8))) (.pair (.slice (.arr 32 (.int .u8))) .unit)))]
abbrev R_76:List Ty:=[(.slice (.int .u32))]
noncomputable def sm_76:Nat->Option Summ:=smL [(112,s_112)]
noncomputable def T_76_0:PS:=⟨35,[(1,.kc (.ptr 0 [])),(3,.kc (.whole 1)),(4,.hv (.int .i64))],[.mem (.hv (.pair (.int .i64) (.pair (.slice (.arr 32 (.int .u8))) (.pair (.slice (.arr 32 (.int .u8))) .unit)))),.vec 37 (.int .u32)],0⟩
inductive Sp.E_76_0 where
 |e0 (p1:Int×List (List Int)×List (List Int)×Unit) (p2:List Int)
noncomputable def Sp.B_76_0{R:Type}(r:Option E_76_0)(k0:(Int×List (List Int)×List (List Int)×Unit)->List Int->Option R):Option R:=match r with
 |none=>none
 |some (.e0 p1 p2)=>k0 p1 p2
noncomputable def Y_76_0{R:Type}(k:Ex->St->Option R):E_76_0->Option R
 | .e0 p1 p2=>k (Ex.exit 0) (sx 35 [(1,CV.ptr 0 []),(3,CV.whole 1)] [Blk.mem (CV.pure (Ty.pair (Ty.int i64) (Ty.pair (Ty.slice (Ty.arr 32 (Ty.int u8))) (Ty.pair (Ty.slice (Ty.arr 32 (Ty.int u8))) Ty.unit))) p1),Blk.vec 37 (Ty.int u32) p2])
noncomputable def Sp.S_76_0{R:Type}(K:Int->(Int×List (List Int)×List (List Int)×Unit)->List Int->Option R)(k:E_76_0->Option R)(p0:Int)(p1:Int×List (List Int)×List (List Int)×Unit)(p2:List Int):Option R:=
 bif decide (p0<67)then gd (inB p0 (length (p1.2.1))) (gd (p_112 (getD (p1.2.1) (toNat p0) (Ty.dflt (Ty.arr 32 (Ty.int u8))))) (gd (room (length p2+length ((v_112 (getD (p1.2.1) (toNat p0) (Ty.dflt (Ty.arr 32 (Ty.int u8))))).1)) 4) (K (wrap i64 (p0+1)) p1 (p2++(v_112 (getD (p1.2.1) (toNat p0) (Ty.dflt (Ty.arr 32 (Ty.int u8))))).1))))else k (E_76_0.e0 p1 p2)
noncomputable def Sp.L_76_0:Nat->Int->(Int×List (List Int)×List (List Int)×Unit)->List Int->Option E_76_0
 |0,_,_,_=>none
 |m+1,p0,p1,p2=>S_76_0 (L_76_0 m) some p0 p1 p2
noncomputable def l_76_0(m:Nat)(a:T_76_0.E):Option E_76_0:=L_76_0 m a.1 a.2.1 a.2.2.1
noncomputable def O_76_0{R:Type}:Orc R:=orL T_76_0 (l_76_0 FU) Y_76_0
theorem OK_76_0{R:Type}:okF (R:=R) sm_76 0 (nf 76 0) O_76_0:=lp0 T_76_0 l_76_0 (fun R K k a=>S_76_0 (fun p0 p1 p2=>K (p0,p1,p2,())) k a.1 a.2.1 a.2.2.1) Y_76_0 (fun _ _ _=>by kernel_rfl) (fun _ _ _=>by
 unfold S_76_0
 repeat' first|apply gdN|apply condN|rfl) (ok0 _)
noncomputable def T_76_1:PS:=⟨35,[(1,.kc (.ptr 0 [])),(3,.kc (.whole 1)),(5,.hv (.int .i64))],[.mem (.hv (.pair (.int .i64) (.pair (.slice (.arr 32 (.int .u8))) (.pair (.slice (.arr 32 (.int .u8))) .unit)))),.vec 37 (.int .u32)],0⟩
inductive Sp.E_76_1 where
 |e0 (p2:List Int)
noncomputable def Sp.B_76_1{R:Type}(r:Option E_76_1)(k0:List Int->Option R):Option R:=match r with
 |none=>none
 |some (.e0 p2)=>k0 p2
noncomputable def Y_76_1{R:Type}(k:Ex->St->Option R):E_76_1->Option R
 | .e0 p2=>k (Ex.exit 2) (sx 35 [(3,CV.whole 0)] [Blk.vec 37 (Ty.int u32) p2])
noncomputable def Sp.S_76_1{R:Type}(K:Int->(Int×List (List Int)×List (List Int)×Unit)->List Int->Option R)(k:E_76_1->Option R)(p0:Int)(p1:Int×List (List Int)×List (List Int)×Unit)(p2:List Int):Option R:=
 bif decide (p0<2)then gd (inB p0 (length (p1.2.2.1))) (gd (p_112 (getD (p1.2.2.1) (toNat p0) (Ty.dflt (Ty.arr 32 (Ty.int u8))))) (gd (room (length p2+length ((v_112 (getD (p1.2.2.1) (toNat p0) (Ty.dflt (Ty.arr 32 (Ty.int u8))))).1)) 4) (K (wrap i64 (p0+1)) p1 (p2++(v_112 (getD (p1.2.2.1) (toNat p0) (Ty.dflt (Ty.arr 32 (Ty.int u8))))).1))))else k (E_76_1.e0 p2)
noncomputable def Sp.L_76_1:Nat->Int->(Int×List (List Int)×List (List Int)×Unit)->List Int->Option E_76_1
 |0,_,_,_=>none
 |m+1,p0,p1,p2=>S_76_1 (L_76_1 m) some p0 p1 p2
noncomputable def l_76_1(m:Nat)(a:T_76_1.E):Option E_76_1:=L_76_1 m a.1 a.2.1 a.2.2.1
noncomputable def O_76_1{R:Type}:Orc R:=orL T_76_1 (l_76_1 FU) Y_76_1
theorem OK_76_1{R:Type}:okF (R:=R) sm_76 0 (nf 76 1) O_76_1:=lp0 T_76_1 l_76_1 (fun R K k a=>S_76_1 (fun p0 p1 p2=>K (p0,p1,p2,())) k a.1 a.2.1 a.2.2.1) Y_76_1 (fun _ _ _=>by kernel_rfl) (fun _ _ _=>by
 unfold S_76_1
 repeat' first|apply gdN|apply condN|rfl) (ok0 _)
noncomputable def F_76(a0:(Int×((List (List Int))×((List (List Int))×Unit)))):Option ((List Int)×Unit) :=
 B_76_0 (L_76_0 4611686018427387904 0 a0 [wrap u32 (a0.1)]) fun y3 y4=>B_76_1 (L_76_1 4611686018427387904 0 y3 y4) fun y5=>some (y5,PUnit.unit)
noncomputable def Sp.p_76(a0:(Int×((List (List Int))×((List (List Int))×Unit)))):Bool:=(F_76 a0).isSome
noncomputable def Sp.v_76(a0:(Int×((List (List Int))×((List (List Int))×Unit)))):(List Int)×Unit:=(F_76 a0).getD (dfH R_76)
noncomputable def s_76:Summ:=shS A_76 R_76 (fun x=>p_76 x.1) (fun x=>v_76 x.1)
theorem pv_76(a0:(Int×((List (List Int))×((List (List Int))×Unit)))){y:(List Int)×Unit}(h:F_76 a0=some y):p_76 a0=true/\v_76 a0=y:=pvG h
theorem run_76(x:HDen A_76)(y:HDen R_76)(h:F_76 x.1=some y):rnF sm_76 1 76 A_76 R_76 x y:=runG noO_ok (os:=[O_76_0,O_76_1]) ⟨OK_76_0,OK_76_1,trivial⟩ (Eq.trans (by kernel_rfl) h)
end
noncomputable section
abbrev Zt31_0:Type:=Int×Int×List Int×(Int×List (List Int)×List (List Int)×Unit)×Unit
abbrev Zy31_1:Ty:=(.pair (.int .i64) (.pair (.int .i64) (.pair (.arr 32 (.int .u8)) (.pair (.pair (.int .i64) (.pair (.slice (.arr 32 (.int .u8))) (.pair (.slice (.arr 32 (.int .u8))) .unit))) .unit))))
abbrev A_31:List Ty:=[(.pair (.int .i64) (.pair (.int .i64) (.pair (.arr 32 (.int .u8)) (.pair (.pair (.int .i64) (.pair (.slice (.arr 32 (.int .u8))) (.pair (.slice (.arr 32 (.int .u8))) .unit))) .unit)))),(.slice (.int .u32))]
abbrev R_31:List Ty:=[(.slice (.int .u32))]
noncomputable def sm_31:Nat->Option Summ:=smL [(76,s_76)]
noncomputable def T_31_1:PS:=⟨72,[(1,.hv (.slice (.int .u32))),(2,.kc (.ptr 0 [])),(5,.kc (.whole 1)),(6,.hv (.int .i64)),(7,.hv (.int .u32)),(8,.hv (.int .i64))],[.mem (.hv Zy31_1),.vec 37 (.int .u32)],0⟩
inductive Sp.E_31_1 where
 |e0 (p0:List Int) (p1 p2:Int) (p4:Zt31_0) (p5:List Int)
noncomputable def Sp.B_31_1{R:Type}(r:Option E_31_1)(k0:List Int->Int->Int->Zt31_0->List Int->Option R):Option R:=match r with
 |none=>none
 |some (.e0 p0 p1 p2 p4 p5)=>k0 p0 p1 p2 p4 p5
theorem Bn_31_1{A R:Type}{r:Option E_31_1}{f:A->Option R}{k0:List Int->Int->Int->Zt31_0->List Int->Option A}{l0:List Int->Int->Int->Zt31_0->List Int->Option R}(h0:∀p0 p1 p2 p4 p5,(k0 p0 p1 p2 p4 p5).bind f=l0 p0 p1 p2 p4 p5):(B_31_1 r k0).bind f=B_31_1 r l0:=by
 cases r with
 |none=>rfl
 |some e=>cases e<;>first|apply h0
noncomputable def Y_31_1{R:Type}(k:Ex->St->Option R):E_31_1->Option R
 | .e0 p0 p1 p2 p4 p5=>k (Ex.exit 2) (sx 72 [(1,CV.pure (Ty.slice (Ty.int u32)) p0),(2,CV.ptr 0 []),(5,CV.whole 1),(6,CV.int i64 p1),(7,CV.int u32 p2)] [Blk.mem (CV.pure (Ty.pair (Ty.int i64) (Ty.pair (Ty.int i64) (Ty.pair (Ty.arr 32 (Ty.int u8)) (Ty.pair (Ty.pair (Ty.int i64) (Ty.pair (Ty.slice (Ty.arr 32 (Ty.int u8))) (Ty.pair (Ty.slice (Ty.arr 32 (Ty.int u8))) Ty.unit))) Ty.unit)))) p4),Blk.vec 37 (Ty.int u32) p5])
noncomputable def Sp.S_31_1{R:Type}(K:List Int->Int->Int->Int->(Int×Int×List Int×(Int×List (List Int)×List (List Int)×Unit)×Unit)->List Int->Option R)(k:E_31_1->Option R)(p0:List Int)(p1 p2 p3:Int)(p4:Int×Int×List Int×(Int×List (List Int)×List (List Int)×Unit)×Unit)(p5:List Int):Option R:=
 bif decide (p3<4)then gd (inB (wrap i64 (wrap i64 (4*p1)+p3)) 32) (gd (decide (toNat (wrap i64 (wrap i64 (4*p1)+p3))<32)&&true) (K p0 p1 (Sp.orI u32 (wrap u32 (p2*256)) (wrap u32 (getD (p4.2.2.1) (toNat (wrap i64 (wrap i64 (4*p1)+p3))) 0))) (wrap i64 (p3+1)) p4 p5))else k (E_31_1.e0 p0 p1 p2 p4 p5)
noncomputable def Sp.L_31_1:Nat->List Int->Int->Int->Int->(Int×Int×List Int×(Int×List (List Int)×List (List Int)×Unit)×Unit)->List Int->Option E_31_1
 |0,_,_,_,_,_,_=>none
 |m+1,p0,p1,p2,p3,p4,p5=>S_31_1 (L_31_1 m) some p0 p1 p2 p3 p4 p5
noncomputable def l_31_1(m:Nat)(a:T_31_1.E):Option E_31_1:=L_31_1 m a.1 a.2.1 a.2.2.1 a.2.2.2.1 a.2.2.2.2.1 a.2.2.2.2.2.1
noncomputable def O_31_1{R:Type}:Orc R:=orL T_31_1 (l_31_1 FU) Y_31_1
theorem OK_31_1{R:Type}:okF (R:=R) sm_31 0 (ni (nf 31 0) 0) O_31_1:=lp0 T_31_1 l_31_1 (fun R K k a=>S_31_1 (fun p0 p1 p2 p3 p4 p5=>K (p0,p1,p2,p3,p4,p5,())) k a.1 a.2.1 a.2.2.1 a.2.2.2.1 a.2.2.2.2.1 a.2.2.2.2.2.1) Y_31_1 (fun _ _ _=>by kernel_rfl) (fun _ _ _=>by
 unfold S_31_1
 repeat' first|apply gdN|apply condN|rfl) (ok0 _)
noncomputable def T_31_0:PS:=⟨72,[(1,.hv (.slice (.int .u32))),(2,.kc (.ptr 0 [])),(5,.kc (.whole 1)),(6,.hv (.int .i64))],[.mem (.hv Zy31_1),.vec 37 (.int .u32)],0⟩
inductive Sp.E_31_0 where
 |e0 (p0:List Int) (p2:Zt31_0) (p3:List Int)
noncomputable def Sp.B_31_0{R:Type}(r:Option E_31_0)(k0:List Int->Zt31_0->List Int->Option R):Option R:=match r with
 |none=>none
 |some (.e0 p0 p2 p3)=>k0 p0 p2 p3
noncomputable def Y_31_0{R:Type}(k:Ex->St->Option R):E_31_0->Option R
 | .e0 p0 p2 p3=>k (Ex.exit 0) (sx 72 [(1,CV.pure (Ty.slice (Ty.int u32)) p0),(2,CV.ptr 0 []),(5,CV.whole 1)] [Blk.mem (CV.pure (Ty.pair (Ty.int i64) (Ty.pair (Ty.int i64) (Ty.pair (Ty.arr 32 (Ty.int u8)) (Ty.pair (Ty.pair (Ty.int i64) (Ty.pair (Ty.slice (Ty.arr 32 (Ty.int u8))) (Ty.pair (Ty.slice (Ty.arr 32 (Ty.int u8))) Ty.unit))) Ty.unit)))) p2),Blk.vec 37 (Ty.int u32) p3])
noncomputable def Sp.S_31_0{R:Type}(K:List Int->Int->(Int×Int×List Int×(Int×List (List Int)×List (List Int)×Unit)×Unit)->List Int->Option R)(k:E_31_0->Option R)(p0:List Int)(p1:Int)(p2:Int×Int×List Int×(Int×List (List Int)×List (List Int)×Unit)×Unit)(p3:List Int):Option R:=
 bif decide (p1<8)then B_31_1 (L_31_1 4611686018427387904 p0 p1 0 0 p2 p3) fun y5 y6 y7 y8 y9=>gd (room (length y9+1) 4) (K y5 (wrap i64 (y6+1)) y8 (y9++[y7]))else k (E_31_0.e0 p0 p2 p3)
noncomputable def Sp.L_31_0:Nat->List Int->Int->(Int×Int×List Int×(Int×List (List Int)×List (List Int)×Unit)×Unit)->List Int->Option E_31_0
 |0,_,_,_,_=>none
 |m+1,p0,p1,p2,p3=>S_31_0 (L_31_0 m) some p0 p1 p2 p3
noncomputable def l_31_0(m:Nat)(a:T_31_0.E):Option E_31_0:=L_31_0 m a.1 a.2.1 a.2.2.1 a.2.2.2.1
noncomputable def O_31_0{R:Type}:Orc R:=orL T_31_0 (l_31_0 FU) Y_31_0
theorem OK_31_0{R:Type}:okF (R:=R) sm_31 0 (nf 31 0) O_31_0:=lp noO_ok (os:=[O_31_1]) ⟨OK_31_1,trivial⟩ T_31_0 l_31_0 (fun R K k a=>S_31_0 (fun p0 p1 p2 p3=>K (p0,p1,p2,p3,())) k a.1 a.2.1 a.2.2.1 a.2.2.2.1) Y_31_0 (fun _=>rfl) (fun _ _=>rfl) (fun k K a=>by kernel_rfl) (fun Y K a=>by
 unfold S_31_0
 repeat' first|apply gdN|apply condN|(apply Bn_31_1<;>intros)|rfl) (ok0 _)
noncomputable def T_31_2:PS:=⟨72,[(1,.hv (.slice (.int .u32))),(5,.kc (.whole 0)),(9,.hv (.slice (.int .u32))),(10,.hv (.int .i64))],[.vec 37 (.int .u32)],0⟩
inductive Sp.E_31_2 where
 |e0 (p0 p3:List Int)
noncomputable def Sp.B_31_2{R:Type}(r:Option E_31_2)(k0:List Int->List Int->Option R):Option R:=match r with
 |none=>none
 |some (.e0 p0 p3)=>k0 p0 p3
noncomputable def Y_31_2{R:Type}(k:Ex->St->Option R):E_31_2->Option R
 | .e0 p0 p3=>k (Ex.exit 4) (sx 72 [(1,CV.pure (Ty.slice (Ty.int u32)) p0),(5,CV.whole 0)] [Blk.vec 37 (Ty.int u32) p3])
noncomputable def Sp.S_31_2{R:Type}(K:List Int->List Int->Int->List Int->Option R)(k:E_31_2->Option R)(p0 p1:List Int)(p2:Int)(p3:List Int):Option R:=
 bif decide (p2<(↑(length p1):Int))then gd (inB p2 (length p1)) (gd (room (length p3+1) 4) (K p0 p1 (wrap i64 (p2+1)) (p3++[getD p1 (toNat p2) 0])))else k (E_31_2.e0 p0 p3)
noncomputable def Sp.L_31_2:Nat->List Int->List Int->Int->List Int->Option E_31_2
 |0,_,_,_,_=>none
 |m+1,p0,p1,p2,p3=>S_31_2 (L_31_2 m) some p0 p1 p2 p3
noncomputable def l_31_2(m:Nat)(a:T_31_2.E):Option E_31_2:=L_31_2 m a.1 a.2.1 a.2.2.1 a.2.2.2.1
noncomputable def O_31_2{R:Type}:Orc R:=orL T_31_2 (l_31_2 FU) Y_31_2
theorem OK_31_2{R:Type}:okF (R:=R) sm_31 0 (nf 31 1) O_31_2:=lp0 T_31_2 l_31_2 (fun R K k a=>S_31_2 (fun p0 p1 p2 p3=>K (p0,p1,p2,p3,())) k a.1 a.2.1 a.2.2.1 a.2.2.2.1) Y_31_2 (fun _ _ _=>by kernel_rfl) (fun _ _ _=>by
 unfold S_31_2
 repeat' first|apply gdN|apply condN|rfl) (ok0 _)
noncomputable def T_31_3:PS:=⟨72,[(1,.hv (.slice (.int .u32))),(5,.kc (.whole 0)),(11,.hv (.int .i64))],[.vec 37 (.int .u32)],0⟩
inductive Sp.E_31_3 where
 |e0 (p2:List Int)
noncomputable def Sp.B_31_3{R:Type}(r:Option E_31_3)(k0:List Int->Option R):Option R:=match r with
 |none=>none
 |some (.e0 p2)=>k0 p2
noncomputable def Y_31_3{R:Type}(k:Ex->St->Option R):E_31_3->Option R
 | .e0 p2=>k (Ex.exit 6) (sx 72 [(5,CV.whole 0)] [Blk.vec 37 (Ty.int u32) p2])
noncomputable def Sp.S_31_3{R:Type}(K:List Int->Int->List Int->Option R)(k:E_31_3->Option R)(p0:List Int)(p1:Int)(p2:List Int):Option R:=
 bif decide (p1<(↑(length p0):Int))then gd (inB p1 (length p0)) (gd (room (length p2+1) 4) (K p0 (wrap i64 (p1+1)) (p2++[getD p0 (toNat p1) 0])))else k (E_31_3.e0 p2)
noncomputable def Sp.L_31_3:Nat->List Int->Int->List Int->Option E_31_3
 |0,_,_,_=>none
 |m+1,p0,p1,p2=>S_31_3 (L_31_3 m) some p0 p1 p2
noncomputable def l_31_3(m:Nat)(a:T_31_3.E):Option E_31_3:=L_31_3 m a.1 a.2.1 a.2.2.1
noncomputable def O_31_3{R:Type}:Orc R:=orL T_31_3 (l_31_3 FU) Y_31_3
theorem OK_31_3{R:Type}:okF (R:=R) sm_31 0 (nf 31 2) O_31_3:=lp0 T_31_3 l_31_3 (fun R K k a=>S_31_3 (fun p0 p1 p2=>K (p0,p1,p2,())) k a.1 a.2.1 a.2.2.1) Y_31_3 (fun _ _ _=>by kernel_rfl) (fun _ _ _=>by
 unfold S_31_3
 repeat' first|apply gdN|apply condN|rfl) (ok0 _)
noncomputable def F_31(a0:(Int×(Int×((List Int)×((Int×((List (List Int))×((List (List Int))×Unit)))×Unit)))))(a1:(List Int)):Option ((List Int)×Unit) :=
 B_31_0 (L_31_0 4611686018427387904 a1 0 a0 [wrap u32 (a0.1),wrap u32 (a0.2.1)]) fun y6 y7 y8=>gd (p_76 (y7.2.2.2.1)) (B_31_2 (L_31_2 4611686018427387904 y6 ((v_76 (y7.2.2.2.1)).1) 0 y8) fun y9 y10=>B_31_3 (L_31_3 4611686018427387904 y9 0 y10) fun y11=>some (y11,PUnit.unit))
noncomputable def Sp.p_31(a0:(Int×(Int×((List Int)×((Int×((List (List Int))×((List (List Int))×Unit)))×Unit)))))(a1:(List Int)):Bool:=(F_31 a0 a1).isSome
noncomputable def Sp.v_31(a0:(Int×(Int×((List Int)×((Int×((List (List Int))×((List (List Int))×Unit)))×Unit)))))(a1:(List Int)):(List Int)×Unit:=(F_31 a0 a1).getD (dfH R_31)
noncomputable def s_31:Summ:=shS A_31 R_31 (fun x=>p_31 x.1 x.2.1) (fun x=>v_31 x.1 x.2.1)
theorem pv_31(a0:(Int×(Int×((List Int)×((Int×((List (List Int))×((List (List Int))×Unit)))×Unit)))))(a1:(List Int)){y:(List Int)×Unit}(h:F_31 a0 a1=some y):p_31 a0 a1=true/\v_31 a0 a1=y:=pvG h
theorem run_31(x:HDen A_31)(y:HDen R_31)(h:F_31 x.1 x.2.1=some y):rnF sm_31 1 31 A_31 R_31 x y:=runG noO_ok (os:=[O_31_0,O_31_2,O_31_3]) ⟨OK_31_0,OK_31_2,OK_31_3,trivial⟩ (Eq.trans (by kernel_rfl) h)
end
noncomputable section
abbrev A_33:List Ty:=[(.slice (.int .u32)),(.slice (.int .u32))]
abbrev R_33:List Ty:=[.bool]
noncomputable def sm_33:Nat->Option Summ:=smL []
noncomputable def T_33_0:PS:=⟨26,[(0,.hv (.slice (.int .u32))),(1,.hv (.slice (.int .u32))),(12,.hv (.int .i64)),(13,.hv (.int .i64))],[],0⟩
inductive Sp.E_33_0 where
 |e0
 |e1
noncomputable def Sp.B_33_0{R:Type}(r:Option E_33_0)(k0 k1:Option R):Option R:=match r with
 |none=>none
 |some (.e0)=>k0
 |some (.e1)=>k1
noncomputable def Y_33_0{R:Type}(k:Ex->St->Option R):E_33_0->Option R
 | .e0=>k Ex.ret (sx 26 [(4,CV.bool false)] [])
 | .e1=>k (Ex.exit 0) (sx 26 [] [])
noncomputable def Sp.S_33_0{R:Type}(K:List Int->List Int->Int->Int->Option R)(k:E_33_0->Option R)(p0 p1:List Int)(p2 p3:Int):Option R:=
 bif decide (p3<p2)then gd (inB p3 (length p0)) (gd (inB p3 (length p1)) (bif getD p0 (toNat p3) 0 !=getD p1 (toNat p3) 0 then k (E_33_0.e0)else K p0 p1 p2 (wrap i64 (p3+1))))else k (E_33_0.e1)
noncomputable def Sp.L_33_0:Nat->List Int->List Int->Int->Int->Option E_33_0
 |0,_,_,_,_=>none
 |m+1,p0,p1,p2,p3=>S_33_0 (L_33_0 m) some p0 p1 p2 p3
noncomputable def l_33_0(m:Nat)(a:T_33_0.E):Option E_33_0:=L_33_0 m a.1 a.2.1 a.2.2.1 a.2.2.2.1
noncomputable def O_33_0{R:Type}:Orc R:=orL T_33_0 (l_33_0 FU) Y_33_0
theorem OK_33_0{R:Type}:okF (R:=R) sm_33 0 (nf 33 0) O_33_0:=lp0 T_33_0 l_33_0 (fun R K k a=>S_33_0 (fun p0 p1 p2 p3=>K (p0,p1,p2,p3,())) k a.1 a.2.1 a.2.2.1 a.2.2.2.1) Y_33_0 (fun _ _ _=>by kernel_rfl) (fun _ _ _=>by
 unfold S_33_0
 repeat' first|apply gdN|apply condN|rfl) (ok0 _)
noncomputable def F_33(a0 a1:(List Int)):Option (Bool×Unit) :=
 bif(↑(length a0):Int)!=(↑(length a1):Int)then some (false,PUnit.unit)else B_33_0 (L_33_0 4611686018427387904 a0 a1 (↑(length a0):Int) 0) (some (false,PUnit.unit)) (some (true,PUnit.unit))
noncomputable def Sp.p_33(a0 a1:(List Int)):Bool:=(F_33 a0 a1).isSome
noncomputable def Sp.v_33(a0 a1:(List Int)):Bool×Unit:=(F_33 a0 a1).getD (dfH R_33)
noncomputable def s_33:Summ:=shN A_33 R_33 (fun x=>p_33 x.1 x.2.1) (fun x=>v_33 x.1 x.2.1)
theorem pv_33(a0 a1:(List Int)){y:Bool×Unit}(h:F_33 a0 a1=some y):p_33 a0 a1=true/\v_33 a0 a1=y:=pvG h
theorem run_33(x:HDen A_33)(y:HDen R_33)(h:F_33 x.1 x.2.1=some y):rnF sm_33 1 33 A_33 R_33 x y:=runG noO_ok (os:=[O_33_0]) ⟨OK_33_0,trivial⟩ (Eq.trans (by kernel_rfl) h)
end
noncomputable section
abbrev Zy6_0:Ty:=(.pair (.int .i64) (.pair (.int .i64) (.pair (.arr 32 (.int .u8)) (.pair (.pair (.int .i64) (.pair (.slice (.arr 32 (.int .u8))) (.pair (.slice (.arr 32 (.int .u8))) .unit))) .unit))))
abbrev Zy6_1:Ty:=(.pair (.pair (.slice (.int .u32)) (.pair (.slice (.int .i64)) (.pair (.int .i64) .unit))) (.pair (.arr 32 (.int .u8)) .unit))
abbrev Zy6_2:Ty:=(.pair (.int .i64) (.pair (.int .u32) .unit))
abbrev A_6:List Ty:=[(.pair (.pair (.slice (.int .u32)) (.pair (.slice (.int .i64)) (.pair (.int .i64) .unit))) (.pair (.arr 32 (.int .u8)) .unit)),(.pair (.int .i64) (.pair (.int .i64) (.pair (.arr 32 (.int .u8)) (.pair (.pair (.int .i64) (.pair (.slice (.arr 32 (.int .u8))) (.pair (.slice (.arr 32 (.int .u8))) .unit))) .unit)))),(.slice (.int .u32)),(.pair (.int .i64) (.pair (.int .u32) .unit))]
abbrev R_6:List Ty:=[.bool]
noncomputable def sm_6:Nat->Option Summ:=smL [(7,s_7),(8,s_8),(9,s_9),(18,s_18),(23,s_23),(27,s_27),(28,s_28),(29,s_29),(30,s_30),(31,s_31),(32,s_32),(33,s_33)]
noncomputable def T_6_2:PS:=⟨170,[(9,.hv (.slice (.int .u32))),(10,.hv (.int .i64)),(11,.hv .bool),(13,.kc (.ptr 0 [])),(14,.hv (.int .i64)),(15,.hv (.slice (.int .u32))),(16,.hv (.int .i64)),(17,.hv .bool)],[.mem (.hv Zy6_2)],0⟩
inductive Sp.E_6_2 where
 |e0 (p0 p4:List Int)
 |e1
noncomputable def Sp.B_6_2{R:Type}(r:Option E_6_2)(k0:List Int->List Int->Option R)(k1:Option R):Option R:=match r with
 |none=>none
 |some (.e0 p0 p4)=>k0 p0 p4
 |some (.e1)=>k1
theorem Bn_6_2{A R:Type}{r:Option E_6_2}{f:A->Option R}{k0:List Int->List Int->Option A}{k1:Option A}{l0:List Int->List Int->Option R}{l1:Option R}(h0:∀p0 p4,(k0 p0 p4).bind f=l0 p0 p4)(h1:(k1).bind f=l1):(B_6_2 r k0 k1).bind f=B_6_2 r l0 l1:=by
 cases r with
 |none=>rfl
 |some e=>cases e<;>first|apply h0|apply h1
noncomputable def Y_6_2{R:Type}(k:Ex->St->Option R):E_6_2->Option R
 | .e0 p0 p4=>k Ex.ret (sx 170 [(8,CV.bool ((v_33 p4 p0).1))] [])
 | .e1=>k Ex.ret (sx 170 [(8,CV.bool false)] [])
noncomputable def Sp.S_6_2{R:Type}(k:E_6_2->Option R)(p0:List Int)(p1:Int)(p2:Bool)(p3:Int)(p4:List Int)(p5:Int)(p6:Bool)(p7:Int×Int×Unit):Option R:=
 bif p3==18 then bif p7.1==0 then bif p6==p2 then bif p5==p1 then gd (p_33 p4 p0) (k (E_6_2.e0 p0 p4))else k (E_6_2.e1)else k (E_6_2.e1)else k (E_6_2.e1)else k (E_6_2.e1)
noncomputable def Sp.J_6_2(p0:List Int)(p1:Int)(p2:Bool)(p3:Int)(p4:List Int)(p5:Int)(p6:Bool)(p7:Int×Int×Unit):Option E_6_2:=S_6_2 some p0 p1 p2 p3 p4 p5 p6 p7
noncomputable def O_6_2{R:Type}:Orc R:=orL T_6_2 (fun a=>J_6_2 a.1 a.2.1 a.2.2.1 a.2.2.2.1 a.2.2.2.2.1 a.2.2.2.2.2.1 a.2.2.2.2.2.2.1 a.2.2.2.2.2.2.2.1) Y_6_2
theorem OK_6_2{R:Type}:okF (R:=R) sm_6 0 (ni (ni (nf 6 0) 0) 0) O_6_2:=jp noO_ok (os:=[]) trivial T_6_2 (fun R k a=>S_6_2 k a.1 a.2.1 a.2.2.1 a.2.2.2.1 a.2.2.2.2.1 a.2.2.2.2.2.1 a.2.2.2.2.2.2.1 a.2.2.2.2.2.2.2.1) Y_6_2 (fun k a=>by kernel_rfl) (fun Y a=>by
 unfold S_6_2
 repeat' first|with_reducible apply gdN|with_reducible apply condN|rfl) (ok0 _)
noncomputable def T_6_1:PS:=⟨170,[(2,.hv (.slice (.int .u32))),(5,.kc (.ptr 0 [])),(9,.hv (.slice (.int .u32))),(10,.hv (.int .i64)),(11,.hv .bool),(13,.kc (.ptr 1 [])),(14,.hv (.int .i64)),(15,.hv (.slice (.int .u32))),(16,.hv (.int .i64)),(17,.hv .bool)],[.mem (.hv Zy6_0),.mem (.hv Zy6_2)],0⟩
inductive Sp.E_6_1 where
 |e0
 |e1 (p9:Int×Int×Unit)
 |e2
 |e3 (y6 y7:List Int)
noncomputable def Sp.B_6_1{R:Type}(r:Option E_6_1)(k0:Option R)(k1:(Int×Int×Unit)->Option R)(k2:Option R)(k3:List Int->List Int->Option R):Option R:=match r with
 |none=>none
 |some (.e0)=>k0
 |some (.e1 p9)=>k1 p9
 |some (.e2)=>k2
 |some (.e3 y6 y7)=>k3 y6 y7
theorem Bn_6_1{A R:Type}{r:Option E_6_1}{f:A->Option R}{k0:Option A}{k1:(Int×Int×Unit)->Option A}{k2:Option A}{k3:List Int->List Int->Option A}{l0:Option R}{l1:(Int×Int×Unit)->Option R}{l2:Option R}{l3:List Int->List Int->Option R}(h0:(k0).bind f=l0)(h1:∀p9,(k1 p9).bind f=l1 p9)(h2:(k2).bind f=l2)(h3:∀y6 y7,(k3 y6 y7).bind f=l3 y6 y7):(B_6_1 r k0 k1 k2 k3).bind f=B_6_1 r l0 l1 l2 l3:=by
 cases r with
 |none=>rfl
 |some e=>cases e<;>first|apply h0|apply h1|apply h2|apply h3
noncomputable def Y_6_1{R:Type}(k:Ex->St->Option R):E_6_1->Option R
 | .e0=>k Ex.ret (sx 170 [(8,CV.bool true)] [])
 | .e1 p9=>k Ex.ret (sx 170 [(8,CV.bool (p9.1==0))] [])
 | .e2=>k Ex.ret (sx 170 [(8,CV.bool false)] [])
 | .e3 y6 y7=>k Ex.ret (sx 170 [(8,CV.bool ((v_33 y7 y6).1))] [])
noncomputable def Sp.S_6_1{R:Type}(k:E_6_1->Option R)(p0 p1:List Int)(p2:Int)(p3:Bool)(p4:Int)(p5:List Int)(p6:Int)(p7:Bool)(p8:Int×Int×List Int×(Int×List (List Int)×List (List Int)×Unit)×Unit)(p9:Int×Int×Unit):Option R:=
 bif p7 then bif p6==p8.1 then gd (p_33 p5 p0) (bif(v_33 p5 p0).1 then bif decide (p6>p2)then bif p4==0 then k (E_6_1.e0)else k (E_6_1.e1 p9)else k (E_6_1.e2)else B_6_2 (J_6_2 p1 p2 p3 p4 p5 p6 p7 p9) (fun y6 y7=>k (E_6_1.e3 y6 y7)) (k (E_6_1.e2)))else B_6_2 (J_6_2 p1 p2 p3 p4 p5 p6 p7 p9) (fun y8 y9=>k (E_6_1.e3 y8 y9)) (k (E_6_1.e2))else B_6_2 (J_6_2 p1 p2 p3 p4 p5 p6 p7 p9) (fun y10 y11=>k (E_6_1.e3 y10 y11)) (k (E_6_1.e2))
noncomputable def Sp.J_6_1(p0 p1:List Int)(p2:Int)(p3:Bool)(p4:Int)(p5:List Int)(p6:Int)(p7:Bool)(p8:Int×Int×List Int×(Int×List (List Int)×List (List Int)×Unit)×Unit)(p9:Int×Int×Unit):Option E_6_1:=S_6_1 some p0 p1 p2 p3 p4 p5 p6 p7 p8 p9
noncomputable def O_6_1{R:Type}:Orc R:=orL T_6_1 (fun a=>J_6_1 a.1 a.2.1 a.2.2.1 a.2.2.2.1 a.2.2.2.2.1 a.2.2.2.2.2.1 a.2.2.2.2.2.2.1 a.2.2.2.2.2.2.2.1 a.2.2.2.2.2.2.2.2.1 a.2.2.2.2.2.2.2.2.2.1) Y_6_1
theorem OK_6_1{R:Type}:okF (R:=R) sm_6 0 (ni (nf 6 0) 0) O_6_1:=jp noO_ok (os:=[O_6_2]) ⟨OK_6_2,trivial⟩ T_6_1 (fun R k a=>S_6_1 k a.1 a.2.1 a.2.2.1 a.2.2.2.1 a.2.2.2.2.1 a.2.2.2.2.2.1 a.2.2.2.2.2.2.1 a.2.2.2.2.2.2.2.1 a.2.2.2.2.2.2.2.2.1 a.2.2.2.2.2.2.2.2.2.1) Y_6_1 (fun k a=>by kernel_rfl) (fun Y a=>by
 unfold S_6_1
 repeat' first|with_reducible apply gdN|with_reducible apply condN|(with_reducible apply Bn_6_2<;>intros)|rfl) (ok0 _)
noncomputable def T_6_0:PS:=⟨170,[(2,.hv (.slice (.int .u32))),(4,.kc (.ptr 0 [])),(5,.kc (.ptr 1 [])),(9,.hv (.slice (.int .u32))),(10,.hv (.int .i64)),(11,.hv .bool),(12,.kc (.ptr 2 [])),(13,.kc (.ptr 3 [])),(14,.hv (.int .i64))],[.mem (.hv Zy6_1),.mem (.hv Zy6_0),.mem (.hv Zy6_1),.mem (.hv Zy6_2)],0⟩
inductive Sp.E_6_0 where
 |e0
 |e1
 |e2 (y33:Int×Int×Unit)
 |e3 (y34 y35:List Int)
noncomputable def Sp.B_6_0{R:Type}(r:Option E_6_0)(k0 k1:Option R)(k2:(Int×Int×Unit)->Option R)(k3:List Int->List Int->Option R):Option R:=match r with
 |none=>none
 |some (.e0)=>k0
 |some (.e1)=>k1
 |some (.e2 y33)=>k2 y33
 |some (.e3 y34 y35)=>k3 y34 y35
noncomputable def Y_6_0{R:Type}(k:Ex->St->Option R):E_6_0->Option R
 | .e0=>k Ex.ret (sx 170 [(8,CV.bool false)] [])
 | .e1=>k Ex.ret (sx 170 [(8,CV.bool true)] [])
 | .e2 y33=>k Ex.ret (sx 170 [(8,CV.bool (y33.1==0))] [])
 | .e3 y34 y35=>k Ex.ret (sx 170 [(8,CV.bool ((v_33 y35 y34).1))] [])
noncomputable def Sp.S_6_0{R:Type}(k:E_6_0->Option R)(p0 p1:List Int)(p2:Int)(p3:Bool)(p4:Int)(p5:(List Int×List Int×Int×Unit)×List Int×Unit)(p6:Int×Int×List Int×(Int×List (List Int)×List (List Int)×Unit)×Unit)(p7:(List Int×List Int×Int×Unit)×List Int×Unit)(p8:Int×Int×Unit):Option R:=
 gd (p_27 p7) (gd (p_29 p7) (bif !(v_29 p7).1 then k (E_6_0.e0)else bif !Ty.beq (Ty.arr 32 (Ty.int u8)) (p7.2.1) (p5.2.1)then k (E_6_0.e0)else bif(↑(length (p7.1.1)):Int)!=(↑(length (p5.1.1)):Int)then k (E_6_0.e0)else gd (p_18 p5) (gd (p_30 p5 ((v_18 p5).1)) (gd (p_30 p7 ((v_18 p5).1)) (gd (p_31 p6 p0) (gd (p_32 p7 ((v_18 p5).1)) (bif(v_32 p7 ((v_18 p5).1)).1 then gd (p_33 ((v_30 p5 ((v_18 p5).1)).1) ((v_30 p7 ((v_18 p5).1)).1)) (bif !(v_33 ((v_30 p5 ((v_18 p5).1)).1) ((v_30 p7 ((v_18 p5).1)).1)).1 then gd (sl3 1 (if wrap i64 (1+(↑(length ((v_31 p6 p0).1)):Int))<(↑(length ((v_30 p7 ((v_18 p5).1)).1)):Int)then wrap i64 (1+(↑(length ((v_31 p6 p0).1)):Int))else(↑(length ((v_30 p7 ((v_18 p5).1)).1)):Int)) (↑(length ((v_30 p7 ((v_18 p5).1)).1)):Int)) (gd (p_33 (take (toNat (if wrap i64 (1+(↑(length ((v_31 p6 p0).1)):Int))<(↑(length ((v_30 p7 ((v_18 p5).1)).1)):Int)then wrap i64 (1+(↑(length ((v_31 p6 p0).1)):Int))else(↑(length ((v_30 p7 ((v_18 p5).1)).1)):Int))-1) (drop 1 ((v_30 p7 ((v_18 p5).1)).1))) ((v_31 p6 p0).1)) (bif !(v_33 (take (toNat (if wrap i64 (1+(↑(length ((v_31 p6 p0).1)):Int))<(↑(length ((v_30 p7 ((v_18 p5).1)).1)):Int)then wrap i64 (1+(↑(length ((v_31 p6 p0).1)):Int))else(↑(length ((v_30 p7 ((v_18 p5).1)).1)):Int))-1) (drop 1 ((v_30 p7 ((v_18 p5).1)).1))) ((v_31 p6 p0).1)).1 then k (E_6_0.e1)else B_6_1 (J_6_1 p0 p1 p2 p3 p4 ((v_27 p7).1) ((v_27 p7).2.1) ((v_27 p7).2.2.1) p6 p8) (k (E_6_0.e1)) (fun y33=>k (E_6_0.e2 y33)) (k (E_6_0.e0)) fun y34 y35=>k (E_6_0.e3 y34 y35)))else B_6_1 (J_6_1 p0 p1 p2 p3 p4 ((v_27 p7).1) ((v_27 p7).2.1) ((v_27 p7).2.2.1) p6 p8) (k (E_6_0.e1)) (fun y36=>k (E_6_0.e2 y36)) (k (E_6_0.e0)) fun y37 y38=>k (E_6_0.e3 y37 y38))else B_6_1 (J_6_1 p0 p1 p2 p3 p4 ((v_27 p7).1) ((v_27 p7).2.1) ((v_27 p7).2.2.1) p6 p8) (k (E_6_0.e1)) (fun y39=>k (E_6_0.e2 y39)) (k (E_6_0.e0)) fun y40 y41=>k (E_6_0.e3 y40 y41))))))))
noncomputable def Sp.J_6_0(p0 p1:List Int)(p2:Int)(p3:Bool)(p4:Int)(p5:(List Int×List Int×Int×Unit)×List Int×Unit)(p6:Int×Int×List Int×(Int×List (List Int)×List (List Int)×Unit)×Unit)(p7:(List Int×List Int×Int×Unit)×List Int×Unit)(p8:Int×Int×Unit):Option E_6_0:=S_6_0 some p0 p1 p2 p3 p4 p5 p6 p7 p8
noncomputable def O_6_0{R:Type}:Orc R:=orL T_6_0 (fun a=>J_6_0 a.1 a.2.1 a.2.2.1 a.2.2.2.1 a.2.2.2.2.1 a.2.2.2.2.2.1 a.2.2.2.2.2.2.1 a.2.2.2.2.2.2.2.1 a.2.2.2.2.2.2.2.2.1) Y_6_0
theorem OK_6_0{R:Type}:okF (R:=R) sm_6 0 (nf 6 0) O_6_0:=jp noO_ok (os:=[O_6_1]) ⟨OK_6_1,trivial⟩ T_6_0 (fun R k a=>S_6_0 k a.1 a.2.1 a.2.2.1 a.2.2.2.1 a.2.2.2.2.1 a.2.2.2.2.2.1 a.2.2.2.2.2.2.1 a.2.2.2.2.2.2.2.1 a.2.2.2.2.2.2.2.2.1) Y_6_0 (fun k a=>by kernel_rfl) (fun Y a=>by
 unfold S_6_0
 repeat' first|with_reducible apply gdN|with_reducible apply condN|(with_reducible apply Bn_6_1<;>intros)|rfl) (ok0 _)
noncomputable def F_6(a0:(((List Int)×((List Int)×(Int×Unit)))×((List Int)×Unit)))(a1:(Int×(Int×((List Int)×((Int×((List (List Int))×((List (List Int))×Unit)))×Unit)))))(a2:(List Int))(a3:(Int×(Int×Unit))):Option (Bool) :=
 gd p_7 (bif !v_7.1 then some false else gd (p_8 a0) (bif(v_8 a0).1 then some true else gd (p_9 a1) (bif(v_9 a1).1 then some true else bif decide ((↑(length a2):Int)>100)then some true else gd (p_27 a0) (gd (p_23 a0 a1 a2 a3) (bif(v_23 a0 a1 a2 a3).2.2.1 !=0 then bif(v_23 a0 a1 a2 a3).2.2.1 !=18 then gd (p_28 ((v_23 a0 a1 a2 a3).1) (([],[],0,PUnit.unit),replicate 32 (0:Int),PUnit.unit)) (bif(v_28 ((v_23 a0 a1 a2 a3).1) (([],[],0,PUnit.unit),replicate 32 (0:Int),PUnit.unit)).1 then some (Ty.beq (Ty.pair (Ty.int i64) (Ty.pair (Ty.int u32) Ty.unit)) ((v_23 a0 a1 a2 a3).2.1) (0,0,PUnit.unit))else some false)else B_6_0 (J_6_0 a2 ((v_27 a0).1) ((v_27 a0).2.1) ((v_27 a0).2.2.1) ((v_23 a0 a1 a2 a3).2.2.1) a0 a1 ((v_23 a0 a1 a2 a3).1) ((v_23 a0 a1 a2 a3).2.1)) (some false) (some true) (fun y10=>some (y10.1==0)) fun y11 y12=>some ((v_33 y12 y11).1)else B_6_0 (J_6_0 a2 ((v_27 a0).1) ((v_27 a0).2.1) ((v_27 a0).2.2.1) ((v_23 a0 a1 a2 a3).2.2.1) a0 a1 ((v_23 a0 a1 a2 a3).1) ((v_23 a0 a1 a2 a3).2.1)) (some false) (some true) (fun y13=>some (y13.1==0)) fun y14 y15=>some ((v_33 y15 y14).1))))))
theorem run_6(a0:(((List Int)×((List Int)×(Int×Unit)))×((List Int)×Unit)))(a1:(Int×(Int×((List Int)×((Int×((List (List Int))×((List (List Int))×Unit)))×Unit)))))(a2:(List Int))(a3:(Int×(Int×Unit))){b:Bool}(h:F_6 a0 a1 a2 a3=some b):evFn sm_6 fns FU 1 6 (ofH A_6 (a0,a1,a2,a3,())) [] bk=some b:=runG noO_ok (os:=[O_6_0]) ⟨OK_6_0,trivial⟩ (Eq.trans (by kernel_rfl) h)
end
end Go.Ev
namespace Go.Proofs
open Go.Shelf
noncomputable def Tryz.clone90_ren:Go.Shelf.Ren:=⟨fun|41=>90|n=>n,fun|22=>31|23=>37|4=>4|n=>n,fun|n=>n⟩
theorem Tryz.clone90:Go.Proofs.SlLaysE0.n41 Tryz.prog Tryz.clone90_ren:= {
 mixed:=by kernel_rfl
 f41:=⟨Tryz.f90.name,by decide,Tryz.func90.trans (congrArg some (by kernel_rfl))⟩
 t4:=Tryz.underlying4
 a4:=Tryz.isAgg4
 z4:=Tryz.sizeOf4
 v4:=Tryz.zeroValue4
 t22:=Tryz.underlying31
 a22:=Tryz.isAgg31
 z22:=Tryz.sizeOf31
 v22:=Tryz.zeroValue31}
noncomputable def Tryz.clone91_ren:Go.Shelf.Ren:=⟨fun|41=>91|n=>n,fun|22=>32|23=>3|4=>4|n=>n,fun|n=>n⟩
theorem Tryz.clone91:Go.Proofs.SlLaysE0.n41 Tryz.prog Tryz.clone91_ren:= {
 mixed:=by kernel_rfl
 f41:=⟨Tryz.f91.name,by decide,Tryz.func91.trans (congrArg some (by kernel_rfl))⟩
 t4:=Tryz.underlying4
 a4:=Tryz.isAgg4
 z4:=Tryz.sizeOf4
 v4:=Tryz.zeroValue4
 t22:=Tryz.underlying32
 a22:=Tryz.isAgg32
 z22:=Tryz.sizeOf32
 v22:=Tryz.zeroValue32}
end Go.Proofs
namespace Go.Ev
open Go Go.Proofs Go.RowKit
set_option maxRecDepth 100000
set_option maxHeartbeats 4000000
theorem info90:∃i,Tryz.prog.info? 37=some i/\i.zero=some (.int .u32 0)/\i.size=1/\i.bytes=4:=⟨_,rfl,by kernel_rfl,by kernel_rfl,by kernel_rfl⟩
theorem sok_90:SummOK Tryz.prog 90 (vecS (.int .u32) 37 4):=by
 obtain⟨i,hi,h0,h1,h2⟩:=info90
 exact clone_vec (by kernel_rfl) (by decide)
  (fun b off n c news w hl hn hb hc h3=>AnyE.slices_Clone Tryz.clone90 i _ 1 4 hi h0 h1 h2 (by kernel_rfl) (by decide) Tryz.sizeOf37 b off n c news w hl hn hb hc h3)
  (fun n c w=>AnyE.slices_Clone_nil Tryz.clone90 n c w)
  (fun a c w=>clone_zero Tryz.clone90 i _ 1 4 hi h0 h1 h2 (by kernel_rfl) (by decide) Tryz.sizeOf37 a c w)
theorem info91:∃i,Tryz.prog.info? 3=some i/\i.zero=some (.int .i64 0)/\i.size=1/\i.bytes=8:=⟨_,rfl,by kernel_rfl,by kernel_rfl,by kernel_rfl⟩
theorem sok_91:SummOK Tryz.prog 91 (vecS (.int .i64) 3 8):=by
 obtain⟨i,hi,h0,h1,h2⟩:=info91
 exact clone_vec (by kernel_rfl) (by decide)
  (fun b off n c news w hl hn hb hc h3=>AnyE.slices_Clone Tryz.clone91 i _ 1 8 hi h0 h1 h2 (by kernel_rfl) (by decide) Tryz.sizeOf3 b off n c news w hl hn hb hc h3)
  (fun n c w=>AnyE.slices_Clone_nil Tryz.clone91 n c w)
  (fun a c w=>clone_zero Tryz.clone91 i _ 1 8 hi h0 h1 h2 (by kernel_rfl) (by decide) Tryz.sizeOf3 a c w)
noncomputable def grow147_ren:Go.Shelf.Ren:=⟨fun|4=>147|n=>n,fun|25=>37|22=>31|20=>20|n=>n,fun|n=>n⟩
theorem grow147_lay:Go.Proofs.Lays8.n4 Tryz.prog grow147_ren:= {
 mixed:=by kernel_rfl
 f4:=⟨Tryz.f147.name,by decide,Tryz.func147.trans (congrArg some (by kernel_rfl))⟩
 t0:=Tryz.underlying0
 a0:=Tryz.isAgg0
 z0:=Tryz.sizeOf0
 v0:=Tryz.zeroValue0
 t3:=Tryz.underlying3
 a3:=Tryz.isAgg3
 z3:=Tryz.sizeOf3
 v3:=Tryz.zeroValue3
 t4:=Tryz.underlying4
 a4:=Tryz.isAgg4
 z4:=Tryz.sizeOf4
 v4:=Tryz.zeroValue4
 t9:=Tryz.underlying9
 a9:=Tryz.isAgg9
 z9:=Tryz.sizeOf9
 v9:=Tryz.zeroValue9
 t20:=Tryz.underlying20
 a20:=Tryz.isAgg20
 z20:=Tryz.sizeOf20
 v20:=Tryz.zeroValue20
 t22:=Tryz.underlying31
 a22:=Tryz.isAgg31
 z22:=Tryz.sizeOf31
 v22:=Tryz.zeroValue31}
theorem growinfo147:∃i,Tryz.prog.info? 37=some i/\i.zero=some (.int .u32 0)/\i.size=1/\i.bytes=4:=⟨_,rfl,by kernel_rfl,by kernel_rfl,by kernel_rfl⟩
theorem sok_147:SummOK Tryz.prog 147 (growS (.int .u32) 37 4):=by
 obtain⟨i,hi,h0,h1,h2⟩:=growinfo147
 exact grow_vec (by kernel_rfl) (by decide) (fun n w hn hb=>grow_calls grow147_lay i _ 1 4 hi h0 h1 h2 (by decide) (by decide) (by rfl) n w hn hb)
theorem sok_74:SummOK Tryz.prog 74 s_74:=sokN hm0 run_74 trivial
theorem sok_75:SummOK Tryz.prog 75 s_75:=sokN hm0 run_75 trivial
theorem sok_29:SummOK Tryz.prog 29 s_29:=sokN hm0 run_29 ⟨sok_74,sok_75,trivial⟩
theorem sok_83:SummOK Tryz.prog 83 s_83:=sokN hm0 run_83 trivial
theorem sok_119:SummOK Tryz.prog 119 s_119:=sokN hm0 run_119 trivial
theorem sok_81:SummOK Tryz.prog 81 s_81:=sokS hm0 run_81 ⟨sok_83,sok_119,trivial⟩
theorem sok_40:SummOK Tryz.prog 40 s_40:=sokN hm0 run_40 ⟨sok_81,trivial⟩
theorem sok_43:SummOK Tryz.prog 43 s_43:=sokN hm0 run_43 trivial
theorem sok_37:SummOK Tryz.prog 37 s_37:=sokN hm0 run_37 ⟨sok_40,sok_43,trivial⟩
theorem sok_39:SummOK Tryz.prog 39 s_39:=sokN hm0 run_39 trivial
theorem sok_41:SummOK Tryz.prog 41 s_41:=sokN hm0 run_41 trivial
theorem sok_42:SummOK Tryz.prog 42 s_42:=sokS hm0 run_42 trivial
theorem sok_109:SummOK Tryz.prog 109 s_109:=sokS hm0 run_109 trivial
theorem sok_120:SummOK Tryz.prog 120 s_120:=sokN hm0 run_120 trivial
theorem sok_135:SummOK Tryz.prog 135 s_135:=sokS hm0 run_135 trivial
theorem sok_136:SummOK Tryz.prog 136 s_136:=sokS hm0 run_136 trivial
theorem sok_121:SummOK Tryz.prog 121 s_121:=sokS hm0 run_121 ⟨sok_135,sok_136,sok_145,trivial⟩
theorem sok_82:SummOK Tryz.prog 82 s_82:=sokS hm0 run_82 ⟨sok_29,sok_109,sok_120,sok_121,trivial⟩
theorem sok_106:SummOK Tryz.prog 106 s_106:=sokN hm0 run_106 ⟨sok_109,trivial⟩
theorem sok_84:SummOK Tryz.prog 84 s_84:=sokS hm0 run_84 trivial
theorem sok_137:SummOK Tryz.prog 137 s_137:=sokN hm0 run_137 trivial
theorem sok_148:SummOK Tryz.prog 148 s_148:=sokN hm0 run_148 trivial
theorem sok_146:SummOK Tryz.prog 146 s_146:=sokN hm0 run_146 ⟨sok_148,trivial⟩
theorem sok_122:SummOK Tryz.prog 122 s_122:=sokN hm0 run_122 ⟨sok_119,sok_137,sok_146,trivial⟩
theorem sok_85:SummOK Tryz.prog 85 s_85:=sokN hm0 run_85 ⟨sok_122,trivial⟩
theorem sok_86:SummOK Tryz.prog 86 s_86:=sokN hm0 run_86 ⟨sok_122,trivial⟩
theorem sok_87:SummOK Tryz.prog 87 s_87:=sokN hm0 run_87 ⟨sok_122,trivial⟩
theorem sok_45:SummOK Tryz.prog 45 s_45:=sokN hm0 run_45 ⟨sok_83,sok_84,sok_85,sok_86,sok_87,trivial⟩
theorem sok_140:SummOK Tryz.prog 140 s_140:=sokS hm0 run_140 ⟨sok_147,trivial⟩
theorem sok_123:SummOK Tryz.prog 123 s_123:=sokN hm0 run_123 ⟨sok_45,sok_82,sok_109,sok_122,sok_135,sok_140,trivial⟩
theorem sok_88:SummOK Tryz.prog 88 s_88:=sokN hm0 run_88 ⟨sok_29,sok_82,sok_106,sok_123,trivial⟩
theorem sok_46:SummOK Tryz.prog 46 s_46:=sokN hm0 run_46 ⟨sok_88,trivial⟩
theorem sok_44:SummOK Tryz.prog 44 s_44:=sokN hm0 run_44 ⟨sok_46,sok_82,trivial⟩
theorem sok_89:SummOK Tryz.prog 89 s_89:=sokN hm0 run_89 trivial
theorem sok_47:SummOK Tryz.prog 47 s_47:=sokN hm0 run_47 ⟨sok_89,trivial⟩
theorem sok_51:SummOK Tryz.prog 51 s_51:=sokS hm0 run_51 ⟨sok_81,trivial⟩
theorem sok_124:SummOK Tryz.prog 124 s_124:=sokN hm0 run_124 ⟨sok_74,trivial⟩
theorem sok_92:SummOK Tryz.prog 92 s_92:=sokS hm0 run_92 ⟨sok_90,sok_91,sok_124,trivial⟩
theorem sok_93:SummOK Tryz.prog 93 s_93:=sokS hm0 run_93 ⟨sok_90,sok_91,sok_124,trivial⟩
theorem sok_10:SummOK Tryz.prog 10 s_10:=sokS hm0 run_10 ⟨sok_29,sok_37,sok_39,sok_40,sok_41,sok_42,sok_43,sok_44,sok_45,sok_46,sok_47,sok_51,sok_90,sok_91,sok_92,sok_93,trivial⟩
theorem sok_73:SummOK Tryz.prog 73 s_73:=sokN hm0 run_73 trivial
theorem sok_28:SummOK Tryz.prog 28 s_28:=sokN hm0 run_28 ⟨sok_73,trivial⟩
theorem sok_143:SummOK Tryz.prog 143 s_143:=sokN hm0 run_143 trivial
theorem sok_144:SummOK Tryz.prog 144 s_144:=sokN hm0 run_144 trivial
theorem sok_133:SummOK Tryz.prog 133 s_133:=sokN hm0 run_133 ⟨sok_143,sok_144,trivial⟩
theorem sok_117:SummOK Tryz.prog 117 s_117:=sokS hm0 run_117 ⟨sok_133,trivial⟩
theorem sok_79:SummOK Tryz.prog 79 s_79:=sokS hm0 run_79 ⟨sok_117,trivial⟩
theorem sok_34:SummOK Tryz.prog 34 s_34:=sokS hm0 run_34 ⟨sok_75,sok_79,trivial⟩
theorem sok_35:SummOK Tryz.prog 35 s_35:=sokS hm0 run_35 trivial
theorem sok_36:SummOK Tryz.prog 36 s_36:=sokN hm0 run_36 trivial
theorem sok_118:SummOK Tryz.prog 118 s_118:=sokN hm0 run_118 trivial
theorem sok_80:SummOK Tryz.prog 80 s_80:=sokN hm0 run_80 ⟨sok_118,trivial⟩
theorem sok_38:SummOK Tryz.prog 38 s_38:=sokN hm0 run_38 ⟨sok_80,trivial⟩
theorem sok_7:SummOK Tryz.prog 7 s_7:=sokN hm0 run_7 ⟨sok_10,sok_28,sok_34,sok_35,sok_36,sok_37,sok_38,trivial⟩
theorem sok_8:SummOK Tryz.prog 8 s_8:=sokN hm0 run_8 trivial
theorem sok_9:SummOK Tryz.prog 9 s_9:=sokN hm0 run_9 trivial
theorem sok_96:SummOK Tryz.prog 96 s_96:=sokN hm0 run_96 trivial
theorem sok_54:SummOK Tryz.prog 54 s_54:=sokN hm0 run_54 ⟨sok_96,trivial⟩
theorem sok_55:SummOK Tryz.prog 55 s_55:=sokN hm0 run_55 trivial
theorem sok_12:SummOK Tryz.prog 12 s_12:=sokN hm0 run_12 ⟨sok_54,sok_55,trivial⟩
theorem sok_30:SummOK Tryz.prog 30 s_30:=sokS hm0 run_30 trivial
theorem sok_95:SummOK Tryz.prog 95 s_95:=sokN hm0 run_95 trivial
theorem sok_97:SummOK Tryz.prog 97 s_97:=sokS hm0 run_97 trivial
theorem sok_131:SummOK Tryz.prog 131 s_131:=sokS hm0 run_131 trivial
theorem sok_141:SummOK Tryz.prog 141 s_141:=sokN hm0 run_141 trivial
theorem sok_142:SummOK Tryz.prog 142 s_142:=sokN hm0 run_142 trivial
theorem sok_132:SummOK Tryz.prog 132 s_132:=sokN hm0 run_132 ⟨sok_141,sok_142,trivial⟩
theorem sok_116:SummOK Tryz.prog 116 s_116:=sokN hm0 run_116 ⟨sok_131,sok_132,trivial⟩
theorem sok_98:SummOK Tryz.prog 98 s_98:=sokN hm0 run_98 ⟨sok_116,trivial⟩
theorem sok_99:SummOK Tryz.prog 99 s_99:=sokN hm0 run_99 ⟨sok_116,trivial⟩
theorem sok_100:SummOK Tryz.prog 100 s_100:=sokN hm0 run_100 ⟨sok_116,trivial⟩
theorem sok_57:SummOK Tryz.prog 57 s_57:=sokN hm0 run_57 ⟨sok_95,sok_97,sok_98,sok_99,sok_100,trivial⟩
theorem sok_107:SummOK Tryz.prog 107 s_107:=sokN hm0 run_107 trivial
theorem sok_113:SummOK Tryz.prog 113 s_113:=sokN hm0 run_113 trivial
theorem sok_114:SummOK Tryz.prog 114 s_114:=sokS hm0 run_114 trivial
theorem sok_77:SummOK Tryz.prog 77 s_77:=sokS hm0 run_77 ⟨sok_12,sok_30,sok_107,sok_113,sok_114,trivial⟩
theorem sok_78:SummOK Tryz.prog 78 s_78:=sokN hm0 run_78 ⟨sok_116,trivial⟩
theorem sok_32:SummOK Tryz.prog 32 s_32:=sokN hm0 run_32 ⟨sok_30,sok_57,sok_77,sok_78,trivial⟩
theorem sok_104:SummOK Tryz.prog 104 s_104:=sokN hm0 run_104 ⟨sok_30,sok_32,trivial⟩
theorem sok_63:SummOK Tryz.prog 63 s_63:=sokN hm0 run_63 ⟨sok_12,sok_30,sok_104,trivial⟩
theorem sok_18:SummOK Tryz.prog 18 s_18:=sokN hm0 run_18 ⟨sok_63,trivial⟩
theorem sok_64:SummOK Tryz.prog 64 s_64:=sokN hm0 run_64 ⟨sok_29,sok_37,sok_39,sok_40,sok_41,sok_43,trivial⟩
theorem sok_105:SummOK Tryz.prog 105 s_105:=sokN hm0 run_105 ⟨sok_29,sok_120,sok_123,trivial⟩
theorem sok_65:SummOK Tryz.prog 65 s_65:=sokS hm0 run_65 ⟨sok_36,sok_44,sok_82,sok_93,sok_105,sok_106,trivial⟩
theorem sok_19:SummOK Tryz.prog 19 s_19:=sokS hm0 run_19 ⟨sok_42,sok_64,sok_65,trivial⟩
theorem sok_68:SummOK Tryz.prog 68 s_68:=sokS hm0 run_68 ⟨sok_41,sok_42,sok_64,sok_90,sok_91,sok_93,trivial⟩
theorem sok_23:SummOK Tryz.prog 23 s_23:=sokS hm0 run_23 ⟨sok_10,sok_19,sok_29,sok_35,sok_39,sok_40,sok_41,sok_68,trivial⟩
theorem sok_72:SummOK Tryz.prog 72 s_72:=sokS hm0 run_72 ⟨sok_90,sok_105,sok_109,trivial⟩
theorem sok_27:SummOK Tryz.prog 27 s_27:=sokS hm0 run_27 ⟨sok_44,sok_46,sok_72,trivial⟩
theorem sok_112:SummOK Tryz.prog 112 s_112:=sokS hm0 run_112 trivial
theorem sok_76:SummOK Tryz.prog 76 s_76:=sokS hm0 run_76 ⟨sok_112,trivial⟩
theorem sok_31:SummOK Tryz.prog 31 s_31:=sokS hm0 run_31 ⟨sok_76,trivial⟩
theorem sok_33:SummOK Tryz.prog 33 s_33:=sokN hm0 run_33 trivial
theorem call_6{R:Type}(n base:Nat):CallOK Tryz.prog base (rokOf Tryz.prog smB fns) (evFn (R:=R) sm_6 fns FU n):=callG hm0 (l:=[(7,s_7),(8,s_8),(9,s_9),(18,s_18),(23,s_23),(27,s_27),(28,s_28),(29,s_29),(30,s_30),(31,s_31),(32,s_32),(33,s_33)]) ⟨sok_7,sok_8,sok_9,sok_18,sok_23,sok_27,sok_28,sok_29,sok_30,sok_31,sok_32,sok_33,trivial⟩ n base
end Go.Ev
