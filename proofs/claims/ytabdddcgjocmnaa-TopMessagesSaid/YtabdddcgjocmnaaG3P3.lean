/- Helpers: functions of the program as Lean functions, and what they compute. No condition. -/
import Derived.Test.YtabdddcgjocmnaaG3P2
import Derived.Test.YtabdddcgjocmnaaG3P1
import Derived.Test.YtabdddcgjocmnaaProg
import Derived.Test.YtabdddcgjocmnaaE3P2
import Derived.Test.YtabdddcgjocmnaaG3P0
import Derived.Test.YtabdddcgjocmnaaE3P3
import Derived.Shelf.Bytes.SlClone
set_option maxRecDepth 10000
set_option linter.unusedVariables false
set_option linter.unusedSimpArgs false
open Go.IntKind (wrap i64 i32 i16 i8 u64 u32 u16 u8)
open List (getD length take drop replicate)
open Int (toNat)
open Go.Ev.Sp
namespace Go.Ev
open Go
set_option maxRecDepth 100000
set_option maxHeartbeats 4000000
set_option linter.unusedVariables false
noncomputable section
theorem OK_8_0{R:Type}:okF (R:=R) sm_8 2 (nf 8 0) O_8_0:=jp ov_8_8_ok (os:=[]) trivial T_8_0 (fun R k a=>S_8_0 k a.1 a.2.1 a.2.2.1 a.2.2.2.1 a.2.2.2.2.1 a.2.2.2.2.2.1 a.2.2.2.2.2.2.1 a.2.2.2.2.2.2.2.1 a.2.2.2.2.2.2.2.2.1) Y_8_0 (fun k a=>by kernel_rfl) (fun Y a=>by
 unfold S_8_0
 repeat' first|apply gdN|apply condN|rfl) (ok0 _)
noncomputable def T_8_4:PS:=⟨81,[(8,.kc (.ptr 0 [])),(9,.kc (.ptr 1 [])),(11,.kc (.ptr 4 [])),(12,.kc (.whole 5))],[.mem (.hv Zy8_7),.mem (.pr (.kc (.whole 2)) (.pr (.kc (.whole 3)) (.hv Zy8_13))),.vec 53 Zy8_8,.vec 58 Zy8_9,.mem (.hv Zy8_3),.vec 5 (.int .u8)],0⟩
inductive Sp.E_8_4 where
 |e0 (p4:Zt8_0) (p5:List Int)
noncomputable def Sp.B_8_4{R:Type}(r:Option E_8_4)(k0:Zt8_0->List Int->Option R):Option R:=match r with
 |none=>none
 |some (.e0 p4 p5)=>k0 p4 p5
theorem Bn_8_4{A R:Type}{r:Option E_8_4}{f:A->Option R}{k0:Zt8_0->List Int->Option A}{l0:Zt8_0->List Int->Option R}(h0:∀p4 p5,(k0 p4 p5).bind f=l0 p4 p5):(B_8_4 r k0).bind f=B_8_4 r l0:=by
 cases r with
 |none=>rfl
 |some e=>cases e<;>first|apply h0
noncomputable def Y_8_4{R:Type}(k:Ex->St->Option R):E_8_4->Option R
 | .e0 p4 p5=>k Ex.ret (sx 81 [(8,CV.ptr 0 []),(9,CV.ptr 1 []),(10,CV.whole 2)] [Blk.mem (CV.pure (Ty.pair (Ty.int i64) (Ty.pair (Ty.int i64) (Ty.pair (Ty.int i64) (Ty.pair (Ty.int i64) (Ty.pair (Ty.int i64) (Ty.pair (Ty.int i64) Ty.unit)))))) ((p4.1):Zt8_15)),Blk.mem (CV.pure (Ty.pair (Ty.slice (Ty.pair (Ty.int i64) (Ty.pair (Ty.int i64) (Ty.pair (Ty.int i64) (Ty.pair (Ty.int i64) (Ty.pair (Ty.int i64) (Ty.pair (Ty.int i64) (Ty.pair Ty.bool (Ty.pair (Ty.int i64) Ty.unit))))))))) (Ty.pair (Ty.slice (Ty.pair (Ty.int i64) (Ty.pair (Ty.int i64) (Ty.pair (Ty.int i64) (Ty.pair (Ty.int i64) (Ty.pair (Ty.int i64) (Ty.pair (Ty.slice (Ty.int i64)) (Ty.pair (Ty.int i64) Ty.unit)))))))) (Ty.pair (Ty.int i64) (Ty.pair Ty.bool Ty.unit)))) ((p4.2.1):Zt8_12)),Blk.vec 5 (Ty.int u8) p5])
noncomputable def Sp.S_8_4{R:Type}(k:E_8_4->Option R)(p0:Int×Int×Int×Int×Int×Int×Unit)(p1:Int×Bool×Unit)(p2:List (Int×Int×Int×Int×Int×Int×Bool×Int×Unit))(p3:List (Int×Int×Int×Int×Int×List Int×Int×Unit))(p4:(Int×Int×Int×Int×Int×Int×Unit)×(List (Int×Int×Int×Int×Int×Int×Bool×Int×Unit)×List (Int×Int×Int×Int×Int×List Int×Int×Unit)×Int×Bool×Unit)×Int×Unit)(p5:List Int):Option R:=
 k (E_8_4.e0 p4 p5)
noncomputable def Sp.J_8_4(p0:Int×Int×Int×Int×Int×Int×Unit)(p1:Int×Bool×Unit)(p2:List (Int×Int×Int×Int×Int×Int×Bool×Int×Unit))(p3:List (Int×Int×Int×Int×Int×List Int×Int×Unit))(p4:(Int×Int×Int×Int×Int×Int×Unit)×(List (Int×Int×Int×Int×Int×Int×Bool×Int×Unit)×List (Int×Int×Int×Int×Int×List Int×Int×Unit)×Int×Bool×Unit)×Int×Unit)(p5:List Int):Option E_8_4:=S_8_4 some p0 p1 p2 p3 p4 p5
noncomputable def O_8_4{R:Type}:Orc R:=orL T_8_4 (fun a=>J_8_4 a.1 a.2.1 a.2.2.1 a.2.2.2.1 a.2.2.2.2.1 a.2.2.2.2.2.1) Y_8_4
theorem OK_8_4{R:Type}:okF (R:=R) sm_8 2 (ni (ni (ni (nf 8 1) 0) 0) 0) O_8_4:=jp ov_8_8_ok (os:=[]) trivial T_8_4 (fun R k a=>S_8_4 k a.1 a.2.1 a.2.2.1 a.2.2.2.1 a.2.2.2.2.1 a.2.2.2.2.2.1) Y_8_4 (fun k a=>by kernel_rfl) (fun Y a=>by
 unfold S_8_4
 repeat' first|apply gdN|apply condN|rfl) (ok0 _)
noncomputable def T_8_4_1:PS:=⟨81,[(8,.kc (.ptr 0 [])),(9,.kc (.ptr 1 [])),(11,.kc (.ptr 4 [])),(12,.hv (.slice (.int .u8)))],[.mem (.hv Zy8_7),.mem (.pr (.kc (.whole 2)) (.pr (.kc (.whole 3)) (.hv Zy8_13))),.vec 53 Zy8_8,.vec 58 Zy8_9,.mem (.hv Zy8_3)],0⟩
inductive Sp.E_8_4_1 where
 |e0 (p0:List Int) (p5:Zt8_0)
noncomputable def Sp.B_8_4_1{R:Type}(r:Option E_8_4_1)(k0:List Int->Zt8_0->Option R):Option R:=match r with
 |none=>none
 |some (.e0 p0 p5)=>k0 p0 p5
theorem Bn_8_4_1{A R:Type}{r:Option E_8_4_1}{f:A->Option R}{k0:List Int->Zt8_0->Option A}{l0:List Int->Zt8_0->Option R}(h0:∀p0 p5,(k0 p0 p5).bind f=l0 p0 p5):(B_8_4_1 r k0).bind f=B_8_4_1 r l0:=by
 cases r with
 |none=>rfl
 |some e=>cases e<;>first|apply h0
noncomputable def Y_8_4_1{R:Type}(k:Ex->St->Option R):E_8_4_1->Option R
 | .e0 p0 p5=>k Ex.ret (sx 81 [(8,CV.ptr 0 []),(9,CV.ptr 1 []),(10,CV.pure (Ty.slice (Ty.int u8)) p0)] [Blk.mem (CV.pure (Ty.pair (Ty.int i64) (Ty.pair (Ty.int i64) (Ty.pair (Ty.int i64) (Ty.pair (Ty.int i64) (Ty.pair (Ty.int i64) (Ty.pair (Ty.int i64) Ty.unit)))))) ((p5.1):Zt8_15)),Blk.mem (CV.pure (Ty.pair (Ty.slice (Ty.pair (Ty.int i64) (Ty.pair (Ty.int i64) (Ty.pair (Ty.int i64) (Ty.pair (Ty.int i64) (Ty.pair (Ty.int i64) (Ty.pair (Ty.int i64) (Ty.pair Ty.bool (Ty.pair (Ty.int i64) Ty.unit))))))))) (Ty.pair (Ty.slice (Ty.pair (Ty.int i64) (Ty.pair (Ty.int i64) (Ty.pair (Ty.int i64) (Ty.pair (Ty.int i64) (Ty.pair (Ty.int i64) (Ty.pair (Ty.slice (Ty.int i64)) (Ty.pair (Ty.int i64) Ty.unit)))))))) (Ty.pair (Ty.int i64) (Ty.pair Ty.bool Ty.unit)))) ((p5.2.1):Zt8_12))])
noncomputable def Sp.S_8_4_1{R:Type}(k:E_8_4_1->Option R)(p0:List Int)(p1:Int×Int×Int×Int×Int×Int×Unit)(p2:Int×Bool×Unit)(p3:List (Int×Int×Int×Int×Int×Int×Bool×Int×Unit))(p4:List (Int×Int×Int×Int×Int×List Int×Int×Unit))(p5:(Int×Int×Int×Int×Int×Int×Unit)×(List (Int×Int×Int×Int×Int×Int×Bool×Int×Unit)×List (Int×Int×Int×Int×Int×List Int×Int×Unit)×Int×Bool×Unit)×Int×Unit):Option R:=
 k (E_8_4_1.e0 p0 p5)
noncomputable def Sp.J_8_4_1(p0:List Int)(p1:Int×Int×Int×Int×Int×Int×Unit)(p2:Int×Bool×Unit)(p3:List (Int×Int×Int×Int×Int×Int×Bool×Int×Unit))(p4:List (Int×Int×Int×Int×Int×List Int×Int×Unit))(p5:(Int×Int×Int×Int×Int×Int×Unit)×(List (Int×Int×Int×Int×Int×Int×Bool×Int×Unit)×List (Int×Int×Int×Int×Int×List Int×Int×Unit)×Int×Bool×Unit)×Int×Unit):Option E_8_4_1:=S_8_4_1 some p0 p1 p2 p3 p4 p5
noncomputable def O_8_4_1{R:Type}:Orc R:=orL T_8_4_1 (fun a=>J_8_4_1 a.1 a.2.1 a.2.2.1 a.2.2.2.1 a.2.2.2.2.1 a.2.2.2.2.2.1) Y_8_4_1 O_8_4
theorem OK_8_4_1{R:Type}:okF (R:=R) sm_8 2 (ni (ni (ni (nf 8 1) 0) 0) 0) O_8_4_1:=jp ov_8_8_ok (os:=[]) trivial T_8_4_1 (fun R k a=>S_8_4_1 k a.1 a.2.1 a.2.2.1 a.2.2.2.1 a.2.2.2.2.1 a.2.2.2.2.2.1) Y_8_4_1 (fun k a=>by kernel_rfl) (fun Y a=>by
 unfold S_8_4_1
 repeat' first|apply gdN|apply condN|rfl) OK_8_4
noncomputable def T_8_3:PS:=⟨81,[(3,.hv (.int .i64)),(8,.kc (.ptr 0 [])),(9,.kc (.ptr 1 [])),(11,.kc (.ptr 4 [])),(12,.kc (.whole 5))],[.mem (.hv Zy8_7),.mem (.pr (.kc (.whole 2)) (.pr (.kc (.whole 3)) (.hv Zy8_13))),.vec 53 Zy8_8,.vec 58 Zy8_9,.mem (.hv Zy8_3),.vec 5 (.int .u8)],0⟩
inductive Sp.E_8_3 where
 |e0 (y4:Zt8_0) (y5:List Int)
noncomputable def Sp.B_8_3{R:Type}(r:Option E_8_3)(k0:Zt8_0->List Int->Option R):Option R:=match r with
 |none=>none
 |some (.e0 y4 y5)=>k0 y4 y5
theorem Bn_8_3{A R:Type}{r:Option E_8_3}{f:A->Option R}{k0:Zt8_0->List Int->Option A}{l0:Zt8_0->List Int->Option R}(h0:∀y4 y5,(k0 y4 y5).bind f=l0 y4 y5):(B_8_3 r k0).bind f=B_8_3 r l0:=by
 cases r with
 |none=>rfl
 |some e=>cases e<;>first|apply h0
noncomputable def Y_8_3{R:Type}(k:Ex->St->Option R):E_8_3->Option R
 | .e0 y4 y5=>k Ex.ret (sx 81 [(8,CV.ptr 0 []),(9,CV.ptr 1 []),(10,CV.whole 2)] [Blk.mem (CV.pure (Ty.pair (Ty.int i64) (Ty.pair (Ty.int i64) (Ty.pair (Ty.int i64) (Ty.pair (Ty.int i64) (Ty.pair (Ty.int i64) (Ty.pair (Ty.int i64) Ty.unit)))))) ((y4.1):Zt8_15)),Blk.mem (CV.pure (Ty.pair (Ty.slice (Ty.pair (Ty.int i64) (Ty.pair (Ty.int i64) (Ty.pair (Ty.int i64) (Ty.pair (Ty.int i64) (Ty.pair (Ty.int i64) (Ty.pair (Ty.int i64) (Ty.pair Ty.bool (Ty.pair (Ty.int i64) Ty.unit))))))))) (Ty.pair (Ty.slice (Ty.pair (Ty.int i64) (Ty.pair (Ty.int i64) (Ty.pair (Ty.int i64) (Ty.pair (Ty.int i64) (Ty.pair (Ty.int i64) (Ty.pair (Ty.slice (Ty.int i64)) (Ty.pair (Ty.int i64) Ty.unit)))))))) (Ty.pair (Ty.int i64) (Ty.pair Ty.bool Ty.unit)))) ((y4.2.1):Zt8_12)),Blk.vec 5 (Ty.int u8) y5])
noncomputable def Sp.S_8_3{R:Type}(k:E_8_3->Option R)(p0:Int)(p1:Int×Int×Int×Int×Int×Int×Unit)(p2:Int×Bool×Unit)(p3:List (Int×Int×Int×Int×Int×Int×Bool×Int×Unit))(p4:List (Int×Int×Int×Int×Int×List Int×Int×Unit))(p5:(Int×Int×Int×Int×Int×Int×Unit)×(List (Int×Int×Int×Int×Int×Int×Bool×Int×Unit)×List (Int×Int×Int×Int×Int×List Int×Int×Unit)×Int×Bool×Unit)×Int×Unit)(p6:List Int):Option R:=
 bif p5.1.1 !=1 then B_8_4 (J_8_4 p1 p2 p3 p4 ((p5.1.1,p5.1.2.1,p5.1.2.2.1,p5.1.2.2.2.1,p5.1.2.2.2.2.1,wrap i64 (p0+5000000),p5.1.2.2.2.2.2.2),p5.2) p6) fun y4 y5=>k (E_8_3.e0 y4 y5)else B_8_4 (J_8_4 p1 p2 p3 p4 ((p5.1.1,p5.1.2.1,p5.1.2.2.1,p5.1.2.2.2.1,p5.1.2.2.2.2.1,0,p5.1.2.2.2.2.2.2),p5.2) p6) fun y6 y7=>k (E_8_3.e0 y6 y7)
noncomputable def Sp.J_8_3(p0:Int)(p1:Int×Int×Int×Int×Int×Int×Unit)(p2:Int×Bool×Unit)(p3:List (Int×Int×Int×Int×Int×Int×Bool×Int×Unit))(p4:List (Int×Int×Int×Int×Int×List Int×Int×Unit))(p5:(Int×Int×Int×Int×Int×Int×Unit)×(List (Int×Int×Int×Int×Int×Int×Bool×Int×Unit)×List (Int×Int×Int×Int×Int×List Int×Int×Unit)×Int×Bool×Unit)×Int×Unit)(p6:List Int):Option E_8_3:=S_8_3 some p0 p1 p2 p3 p4 p5 p6
noncomputable def O_8_3{R:Type}:Orc R:=orL T_8_3 (fun a=>J_8_3 a.1 a.2.1 a.2.2.1 a.2.2.2.1 a.2.2.2.2.1 a.2.2.2.2.2.1 a.2.2.2.2.2.2.1) Y_8_3
theorem OK_8_3{R:Type}:okF (R:=R) sm_8 2 (ni (ni (nf 8 1) 0) 0) O_8_3:=jp ov_8_8_ok (os:=[O_8_4_1]) ⟨OK_8_4_1,trivial⟩ T_8_3 (fun R k a=>S_8_3 k a.1 a.2.1 a.2.2.1 a.2.2.2.1 a.2.2.2.2.1 a.2.2.2.2.2.1 a.2.2.2.2.2.2.1) Y_8_3 (fun k a=>by kernel_rfl) (fun Y a=>by
 unfold S_8_3
 repeat' first|apply gdN|apply condN|(apply Bn_8_4<;>intros)|rfl) (ok0 _)
noncomputable def T_8_3_1:PS:=⟨81,[(3,.hv (.int .i64)),(8,.kc (.ptr 0 [])),(9,.kc (.ptr 1 [])),(11,.kc (.ptr 4 [])),(12,.hv (.slice (.int .u8)))],[.mem (.hv Zy8_7),.mem (.pr (.kc (.whole 2)) (.pr (.kc (.whole 3)) (.hv Zy8_13))),.vec 53 Zy8_8,.vec 58 Zy8_9,.mem (.hv Zy8_3)],0⟩
inductive Sp.E_8_3_1 where
 |e0 (y4:List Int) (y5:Zt8_0)
noncomputable def Sp.B_8_3_1{R:Type}(r:Option E_8_3_1)(k0:List Int->Zt8_0->Option R):Option R:=match r with
 |none=>none
 |some (.e0 y4 y5)=>k0 y4 y5
theorem Bn_8_3_1{A R:Type}{r:Option E_8_3_1}{f:A->Option R}{k0:List Int->Zt8_0->Option A}{l0:List Int->Zt8_0->Option R}(h0:∀y4 y5,(k0 y4 y5).bind f=l0 y4 y5):(B_8_3_1 r k0).bind f=B_8_3_1 r l0:=by
 cases r with
 |none=>rfl
 |some e=>cases e<;>first|apply h0
noncomputable def Y_8_3_1{R:Type}(k:Ex->St->Option R):E_8_3_1->Option R
 | .e0 y4 y5=>k Ex.ret (sx 81 [(8,CV.ptr 0 []),(9,CV.ptr 1 []),(10,CV.pure (Ty.slice (Ty.int u8)) y4)] [Blk.mem (CV.pure (Ty.pair (Ty.int i64) (Ty.pair (Ty.int i64) (Ty.pair (Ty.int i64) (Ty.pair (Ty.int i64) (Ty.pair (Ty.int i64) (Ty.pair (Ty.int i64) Ty.unit)))))) ((y5.1):Zt8_15)),Blk.mem (CV.pure (Ty.pair (Ty.slice (Ty.pair (Ty.int i64) (Ty.pair (Ty.int i64) (Ty.pair (Ty.int i64) (Ty.pair (Ty.int i64) (Ty.pair (Ty.int i64) (Ty.pair (Ty.int i64) (Ty.pair Ty.bool (Ty.pair (Ty.int i64) Ty.unit))))))))) (Ty.pair (Ty.slice (Ty.pair (Ty.int i64) (Ty.pair (Ty.int i64) (Ty.pair (Ty.int i64) (Ty.pair (Ty.int i64) (Ty.pair (Ty.int i64) (Ty.pair (Ty.slice (Ty.int i64)) (Ty.pair (Ty.int i64) Ty.unit)))))))) (Ty.pair (Ty.int i64) (Ty.pair Ty.bool Ty.unit)))) ((y5.2.1):Zt8_12))])
noncomputable def Sp.S_8_3_1{R:Type}(k:E_8_3_1->Option R)(p0:Int)(p1:List Int)(p2:Int×Int×Int×Int×Int×Int×Unit)(p3:Int×Bool×Unit)(p4:List (Int×Int×Int×Int×Int×Int×Bool×Int×Unit))(p5:List (Int×Int×Int×Int×Int×List Int×Int×Unit))(p6:(Int×Int×Int×Int×Int×Int×Unit)×(List (Int×Int×Int×Int×Int×Int×Bool×Int×Unit)×List (Int×Int×Int×Int×Int×List Int×Int×Unit)×Int×Bool×Unit)×Int×Unit):Option R:=
 bif p6.1.1 !=1 then B_8_4_1 (J_8_4_1 p1 p2 p3 p4 p5 ((p6.1.1,p6.1.2.1,p6.1.2.2.1,p6.1.2.2.2.1,p6.1.2.2.2.2.1,wrap i64 (p0+5000000),p6.1.2.2.2.2.2.2),p6.2)) fun y4 y5=>k (E_8_3_1.e0 y4 y5)else B_8_4_1 (J_8_4_1 p1 p2 p3 p4 p5 ((p6.1.1,p6.1.2.1,p6.1.2.2.1,p6.1.2.2.2.1,p6.1.2.2.2.2.1,0,p6.1.2.2.2.2.2.2),p6.2)) fun y6 y7=>k (E_8_3_1.e0 y6 y7)
noncomputable def Sp.J_8_3_1(p0:Int)(p1:List Int)(p2:Int×Int×Int×Int×Int×Int×Unit)(p3:Int×Bool×Unit)(p4:List (Int×Int×Int×Int×Int×Int×Bool×Int×Unit))(p5:List (Int×Int×Int×Int×Int×List Int×Int×Unit))(p6:(Int×Int×Int×Int×Int×Int×Unit)×(List (Int×Int×Int×Int×Int×Int×Bool×Int×Unit)×List (Int×Int×Int×Int×Int×List Int×Int×Unit)×Int×Bool×Unit)×Int×Unit):Option E_8_3_1:=S_8_3_1 some p0 p1 p2 p3 p4 p5 p6
noncomputable def O_8_3_1{R:Type}:Orc R:=orL T_8_3_1 (fun a=>J_8_3_1 a.1 a.2.1 a.2.2.1 a.2.2.2.1 a.2.2.2.2.1 a.2.2.2.2.2.1 a.2.2.2.2.2.2.1) Y_8_3_1 O_8_3
theorem OK_8_3_1{R:Type}:okF (R:=R) sm_8 2 (ni (ni (nf 8 1) 0) 0) O_8_3_1:=jp ov_8_8_ok (os:=[O_8_4_1]) ⟨OK_8_4_1,trivial⟩ T_8_3_1 (fun R k a=>S_8_3_1 k a.1 a.2.1 a.2.2.1 a.2.2.2.1 a.2.2.2.2.1 a.2.2.2.2.2.1 a.2.2.2.2.2.2.1) Y_8_3_1 (fun k a=>by kernel_rfl) (fun Y a=>by
 unfold S_8_3_1
 repeat' first|apply gdN|apply condN|(apply Bn_8_4_1<;>intros)|rfl) OK_8_3
noncomputable def T_8_2:PS:=⟨81,[(2,.hv (.slice (.int .u8))),(3,.hv (.int .i64)),(8,.kc (.ptr 0 [])),(9,.kc (.ptr 1 [])),(11,.kc (.ptr 4 [])),(12,.kc (.whole 5)),(13,.hv (.int .i64))],[.mem (.hv Zy8_7),.mem (.pr (.kc (.whole 2)) (.pr (.kc (.whole 3)) (.hv Zy8_13))),.vec 53 Zy8_8,.vec 58 Zy8_9,.mem (.hv Zy8_3),.vec 5 (.int .u8)],0⟩
inductive Sp.E_8_2 where
 |e0 (y4:Zt8_0) (y5:List Int)
noncomputable def Sp.B_8_2{R:Type}(r:Option E_8_2)(k0:Zt8_0->List Int->Option R):Option R:=match r with
 |none=>none
 |some (.e0 y4 y5)=>k0 y4 y5
theorem Bn_8_2{A R:Type}{r:Option E_8_2}{f:A->Option R}{k0:Zt8_0->List Int->Option A}{l0:Zt8_0->List Int->Option R}(h0:∀y4 y5,(k0 y4 y5).bind f=l0 y4 y5):(B_8_2 r k0).bind f=B_8_2 r l0:=by
 cases r with
 |none=>rfl
 |some e=>cases e<;>first|apply h0
noncomputable def Y_8_2{R:Type}(k:Ex->St->Option R):E_8_2->Option R
 | .e0 y4 y5=>k Ex.ret (sx 81 [(8,CV.ptr 0 []),(9,CV.ptr 1 []),(10,CV.whole 2)] [Blk.mem (CV.pure (Ty.pair (Ty.int i64) (Ty.pair (Ty.int i64) (Ty.pair (Ty.int i64) (Ty.pair (Ty.int i64) (Ty.pair (Ty.int i64) (Ty.pair (Ty.int i64) Ty.unit)))))) ((y4.1):Zt8_15)),Blk.mem (CV.pure (Ty.pair (Ty.slice (Ty.pair (Ty.int i64) (Ty.pair (Ty.int i64) (Ty.pair (Ty.int i64) (Ty.pair (Ty.int i64) (Ty.pair (Ty.int i64) (Ty.pair (Ty.int i64) (Ty.pair Ty.bool (Ty.pair (Ty.int i64) Ty.unit))))))))) (Ty.pair (Ty.slice (Ty.pair (Ty.int i64) (Ty.pair (Ty.int i64) (Ty.pair (Ty.int i64) (Ty.pair (Ty.int i64) (Ty.pair (Ty.int i64) (Ty.pair (Ty.slice (Ty.int i64)) (Ty.pair (Ty.int i64) Ty.unit)))))))) (Ty.pair (Ty.int i64) (Ty.pair Ty.bool Ty.unit)))) ((y4.2.1):Zt8_12)),Blk.vec 5 (Ty.int u8) y5])
noncomputable def Sp.S_8_2{R:Type}(k:E_8_2->Option R)(p0:List Int)(p1 p2:Int)(p3:Int×Int×Int×Int×Int×Int×Unit)(p4:Int×Bool×Unit)(p5:List (Int×Int×Int×Int×Int×Int×Bool×Int×Unit))(p6:List (Int×Int×Int×Int×Int×List Int×Int×Unit))(p7:(Int×Int×Int×Int×Int×Int×Unit)×(List (Int×Int×Int×Int×Int×Int×Bool×Int×Unit)×List (Int×Int×Int×Int×Int×List Int×Int×Unit)×Int×Bool×Unit)×Int×Unit)(p8:List Int):Option R:=
 bif p2 !=0 then gd (inB 0 (length p0)) (B_8_3 (J_8_3 p1 p3 p4 p5 p6 p7 [127,getD p0 0 0,wrap u8 p2]) fun y4 y5=>k (E_8_2.e0 y4 y5))else B_8_3 (J_8_3 p1 p3 p4 p5 p6 p7 p8) fun y6 y7=>k (E_8_2.e0 y6 y7)
noncomputable def Sp.J_8_2(p0:List Int)(p1 p2:Int)(p3:Int×Int×Int×Int×Int×Int×Unit)(p4:Int×Bool×Unit)(p5:List (Int×Int×Int×Int×Int×Int×Bool×Int×Unit))(p6:List (Int×Int×Int×Int×Int×List Int×Int×Unit))(p7:(Int×Int×Int×Int×Int×Int×Unit)×(List (Int×Int×Int×Int×Int×Int×Bool×Int×Unit)×List (Int×Int×Int×Int×Int×List Int×Int×Unit)×Int×Bool×Unit)×Int×Unit)(p8:List Int):Option E_8_2:=S_8_2 some p0 p1 p2 p3 p4 p5 p6 p7 p8
noncomputable def O_8_2{R:Type}:Orc R:=orL T_8_2 (fun a=>J_8_2 a.1 a.2.1 a.2.2.1 a.2.2.2.1 a.2.2.2.2.1 a.2.2.2.2.2.1 a.2.2.2.2.2.2.1 a.2.2.2.2.2.2.2.1 a.2.2.2.2.2.2.2.2.1) Y_8_2
theorem OK_8_2{R:Type}:okF (R:=R) sm_8 2 (ni (nf 8 1) 0) O_8_2:=jp ov_8_8_ok (os:=[O_8_3_1]) ⟨OK_8_3_1,trivial⟩ T_8_2 (fun R k a=>S_8_2 k a.1 a.2.1 a.2.2.1 a.2.2.2.1 a.2.2.2.2.1 a.2.2.2.2.2.1 a.2.2.2.2.2.2.1 a.2.2.2.2.2.2.2.1 a.2.2.2.2.2.2.2.2.1) Y_8_2 (fun k a=>by kernel_rfl) (fun Y a=>by
 unfold S_8_2
 repeat' first|apply gdN|apply condN|(apply Bn_8_3<;>intros)|rfl) (ok0 _)
noncomputable def T_8_2_1:PS:=⟨81,[(2,.hv (.slice (.int .u8))),(3,.hv (.int .i64)),(8,.kc (.ptr 0 [])),(9,.kc (.ptr 1 [])),(11,.kc (.ptr 4 [])),(12,.hv (.slice (.int .u8))),(13,.hv (.int .i64))],[.mem (.hv Zy8_7),.mem (.pr (.kc (.whole 2)) (.pr (.kc (.whole 3)) (.hv Zy8_13))),.vec 53 Zy8_8,.vec 58 Zy8_9,.mem (.hv Zy8_3)],0⟩
inductive Sp.E_8_2_1 where
 |e0 (y4:Zt8_0) (y5:List Int)
 |e1 (y6:List Int) (y7:Zt8_0)
noncomputable def Sp.B_8_2_1{R:Type}(r:Option E_8_2_1)(k0:Zt8_0->List Int->Option R)(k1:List Int->Zt8_0->Option R):Option R:=match r with
 |none=>none
 |some (.e0 y4 y5)=>k0 y4 y5
 |some (.e1 y6 y7)=>k1 y6 y7
theorem Bn_8_2_1{A R:Type}{r:Option E_8_2_1}{f:A->Option R}{k0:Zt8_0->List Int->Option A}{k1:List Int->Zt8_0->Option A}{l0:Zt8_0->List Int->Option R}{l1:List Int->Zt8_0->Option R}(h0:∀y4 y5,(k0 y4 y5).bind f=l0 y4 y5)(h1:∀y6 y7,(k1 y6 y7).bind f=l1 y6 y7):(B_8_2_1 r k0 k1).bind f=B_8_2_1 r l0 l1:=by
 cases r with
 |none=>rfl
 |some e=>cases e<;>first|apply h0|apply h1
noncomputable def Y_8_2_1{R:Type}(k:Ex->St->Option R):E_8_2_1->Option R
 | .e0 y4 y5=>k Ex.ret (sx 81 [(8,CV.ptr 0 []),(9,CV.ptr 1 []),(10,CV.whole 2)] [Blk.mem (CV.pure (Ty.pair (Ty.int i64) (Ty.pair (Ty.int i64) (Ty.pair (Ty.int i64) (Ty.pair (Ty.int i64) (Ty.pair (Ty.int i64) (Ty.pair (Ty.int i64) Ty.unit)))))) ((y4.1):Zt8_15)),Blk.mem (CV.pure (Ty.pair (Ty.slice (Ty.pair (Ty.int i64) (Ty.pair (Ty.int i64) (Ty.pair (Ty.int i64) (Ty.pair (Ty.int i64) (Ty.pair (Ty.int i64) (Ty.pair (Ty.int i64) (Ty.pair Ty.bool (Ty.pair (Ty.int i64) Ty.unit))))))))) (Ty.pair (Ty.slice (Ty.pair (Ty.int i64) (Ty.pair (Ty.int i64) (Ty.pair (Ty.int i64) (Ty.pair (Ty.int i64) (Ty.pair (Ty.int i64) (Ty.pair (Ty.slice (Ty.int i64)) (Ty.pair (Ty.int i64) Ty.unit)))))))) (Ty.pair (Ty.int i64) (Ty.pair Ty.bool Ty.unit)))) ((y4.2.1):Zt8_12)),Blk.vec 5 (Ty.int u8) y5])
 | .e1 y6 y7=>k Ex.ret (sx 81 [(8,CV.ptr 0 []),(9,CV.ptr 1 []),(10,CV.pure (Ty.slice (Ty.int u8)) y6)] [Blk.mem (CV.pure (Ty.pair (Ty.int i64) (Ty.pair (Ty.int i64) (Ty.pair (Ty.int i64) (Ty.pair (Ty.int i64) (Ty.pair (Ty.int i64) (Ty.pair (Ty.int i64) Ty.unit)))))) ((y7.1):Zt8_15)),Blk.mem (CV.pure (Ty.pair (Ty.slice (Ty.pair (Ty.int i64) (Ty.pair (Ty.int i64) (Ty.pair (Ty.int i64) (Ty.pair (Ty.int i64) (Ty.pair (Ty.int i64) (Ty.pair (Ty.int i64) (Ty.pair Ty.bool (Ty.pair (Ty.int i64) Ty.unit))))))))) (Ty.pair (Ty.slice (Ty.pair (Ty.int i64) (Ty.pair (Ty.int i64) (Ty.pair (Ty.int i64) (Ty.pair (Ty.int i64) (Ty.pair (Ty.int i64) (Ty.pair (Ty.slice (Ty.int i64)) (Ty.pair (Ty.int i64) Ty.unit)))))))) (Ty.pair (Ty.int i64) (Ty.pair Ty.bool Ty.unit)))) ((y7.2.1):Zt8_12))])
noncomputable def Sp.S_8_2_1{R:Type}(k:E_8_2_1->Option R)(p0:List Int)(p1:Int)(p2:List Int)(p3:Int)(p4:Int×Int×Int×Int×Int×Int×Unit)(p5:Int×Bool×Unit)(p6:List (Int×Int×Int×Int×Int×Int×Bool×Int×Unit))(p7:List (Int×Int×Int×Int×Int×List Int×Int×Unit))(p8:(Int×Int×Int×Int×Int×Int×Unit)×(List (Int×Int×Int×Int×Int×Int×Bool×Int×Unit)×List (Int×Int×Int×Int×Int×List Int×Int×Unit)×Int×Bool×Unit)×Int×Unit):Option R:=
 bif p3 !=0 then gd (inB 0 (length p0)) (B_8_3 (J_8_3 p1 p4 p5 p6 p7 p8 [127,getD p0 0 0,wrap u8 p3]) fun y4 y5=>k (E_8_2_1.e0 y4 y5))else B_8_3_1 (J_8_3_1 p1 p2 p4 p5 p6 p7 p8) fun y6 y7=>k (E_8_2_1.e1 y6 y7)
noncomputable def Sp.J_8_2_1(p0:List Int)(p1:Int)(p2:List Int)(p3:Int)(p4:Int×Int×Int×Int×Int×Int×Unit)(p5:Int×Bool×Unit)(p6:List (Int×Int×Int×Int×Int×Int×Bool×Int×Unit))(p7:List (Int×Int×Int×Int×Int×List Int×Int×Unit))(p8:(Int×Int×Int×Int×Int×Int×Unit)×(List (Int×Int×Int×Int×Int×Int×Bool×Int×Unit)×List (Int×Int×Int×Int×Int×List Int×Int×Unit)×Int×Bool×Unit)×Int×Unit):Option E_8_2_1:=S_8_2_1 some p0 p1 p2 p3 p4 p5 p6 p7 p8
noncomputable def O_8_2_1{R:Type}:Orc R:=orL T_8_2_1 (fun a=>J_8_2_1 a.1 a.2.1 a.2.2.1 a.2.2.2.1 a.2.2.2.2.1 a.2.2.2.2.2.1 a.2.2.2.2.2.2.1 a.2.2.2.2.2.2.2.1 a.2.2.2.2.2.2.2.2.1) Y_8_2_1 O_8_2
theorem OK_8_2_1{R:Type}:okF (R:=R) sm_8 2 (ni (nf 8 1) 0) O_8_2_1:=jp ov_8_8_ok (os:=[O_8_3_1]) ⟨OK_8_3_1,trivial⟩ T_8_2_1 (fun R k a=>S_8_2_1 k a.1 a.2.1 a.2.2.1 a.2.2.2.1 a.2.2.2.2.1 a.2.2.2.2.2.1 a.2.2.2.2.2.2.1 a.2.2.2.2.2.2.2.1 a.2.2.2.2.2.2.2.2.1) Y_8_2_1 (fun k a=>by kernel_rfl) (fun Y a=>by
 unfold S_8_2_1
 repeat' first|apply gdN|apply condN|(apply Bn_8_3<;>intros)|(apply Bn_8_3_1<;>intros)|rfl) OK_8_2
noncomputable def T_8_1:PS:=⟨81,[(2,.hv (.slice (.int .u8))),(3,.hv (.int .i64)),(4,.kc (.ptr 0 [])),(5,.kc (.ptr 1 [])),(8,.kc (.ptr 2 [])),(9,.kc (.ptr 3 []))],[.mem (.hv Zy8_7),.mem (.hv Zy8_6),.mem (.hv Zy8_7),.mem (.pr (.kc (.whole 4)) (.pr (.kc (.whole 5)) (.hv Zy8_13))),.vec 53 Zy8_8,.vec 58 Zy8_9],0⟩
inductive Sp.E_8_1 where
 |e0 (y707:Zt8_0) (y708:List Int)
 |e1 (y764:List Int) (y765:Zt8_0)
noncomputable def Sp.B_8_1{R:Type}(r:Option E_8_1)(k0:Zt8_0->List Int->Option R)(k1:List Int->Zt8_0->Option R):Option R:=match r with
 |none=>none
 |some (.e0 y707 y708)=>k0 y707 y708
 |some (.e1 y764 y765)=>k1 y764 y765
noncomputable def Y_8_1{R:Type}(k:Ex->St->Option R):E_8_1->Option R
 | .e0 y707 y708=>k Ex.ret (sx 81 [(8,CV.ptr 0 []),(9,CV.ptr 1 []),(10,CV.whole 2)] [Blk.mem (CV.pure (Ty.pair (Ty.int i64) (Ty.pair (Ty.int i64) (Ty.pair (Ty.int i64) (Ty.pair (Ty.int i64) (Ty.pair (Ty.int i64) (Ty.pair (Ty.int i64) Ty.unit)))))) ((y707.1):Zt8_15)),Blk.mem (CV.pure (Ty.pair (Ty.slice (Ty.pair (Ty.int i64) (Ty.pair (Ty.int i64) (Ty.pair (Ty.int i64) (Ty.pair (Ty.int i64) (Ty.pair (Ty.int i64) (Ty.pair (Ty.int i64) (Ty.pair Ty.bool (Ty.pair (Ty.int i64) Ty.unit))))))))) (Ty.pair (Ty.slice (Ty.pair (Ty.int i64) (Ty.pair (Ty.int i64) (Ty.pair (Ty.int i64) (Ty.pair (Ty.int i64) (Ty.pair (Ty.int i64) (Ty.pair (Ty.slice (Ty.int i64)) (Ty.pair (Ty.int i64) Ty.unit)))))))) (Ty.pair (Ty.int i64) (Ty.pair Ty.bool Ty.unit)))) ((y707.2.1):Zt8_12)),Blk.vec 5 (Ty.int u8) y708])
 | .e1 y764 y765=>k Ex.ret (sx 81 [(8,CV.ptr 0 []),(9,CV.ptr 1 []),(10,CV.pure (Ty.slice (Ty.int u8)) y764)] [Blk.mem (CV.pure (Ty.pair (Ty.int i64) (Ty.pair (Ty.int i64) (Ty.pair (Ty.int i64) (Ty.pair (Ty.int i64) (Ty.pair (Ty.int i64) (Ty.pair (Ty.int i64) Ty.unit)))))) ((y765.1):Zt8_15)),Blk.mem (CV.pure (Ty.pair (Ty.slice (Ty.pair (Ty.int i64) (Ty.pair (Ty.int i64) (Ty.pair (Ty.int i64) (Ty.pair (Ty.int i64) (Ty.pair (Ty.int i64) (Ty.pair (Ty.int i64) (Ty.pair Ty.bool (Ty.pair (Ty.int i64) Ty.unit))))))))) (Ty.pair (Ty.slice (Ty.pair (Ty.int i64) (Ty.pair (Ty.int i64) (Ty.pair (Ty.int i64) (Ty.pair (Ty.int i64) (Ty.pair (Ty.int i64) (Ty.pair (Ty.slice (Ty.int i64)) (Ty.pair (Ty.int i64) Ty.unit)))))))) (Ty.pair (Ty.int i64) (Ty.pair Ty.bool Ty.unit)))) ((y765.2.1):Zt8_12))])
noncomputable def Sp.S_8_1{R:Type}(k:E_8_1->Option R)(p0:List Int)(p1:Int)(p2:Int×Int×Int×Int×Int×Int×Unit)(p3:List (Int×Int×Int×Int×Int×Int×Bool×Int×Unit)×List (Int×Int×Int×Int×Int×List Int×Int×Unit)×Int×Bool×Unit)(p4:Int×Int×Int×Int×Int×Int×Unit)(p5:Int×Bool×Unit)(p6:List (Int×Int×Int×Int×Int×Int×Bool×Int×Unit))(p7:List (Int×Int×Int×Int×Int×List Int×Int×Unit)):Option R:=
 gd (p_20 p2 p1) (gd (p_39 p0) (bif(v_39 p0).1==0 then B_8_2 (J_8_2 p0 p1 17 p4 p5 p6 p7 ((v_20 p2 p1).1,p3,p1,PUnit.unit) []) fun y707 y708=>k (E_8_1.e0 y707 y708)else gd (inB 0 (length p0)) (bif getD p0 0 (0:Int)==(20:Int)then B_8_21_0_0 (J_8_21_0_0 p0 ((v_39 p0).1) ((v_20 p2 p1).1.1==1) p2 p3 p4 p5 p6 p7 ((v_20 p2 p1).1,p3,p1,PUnit.unit)) (fun y709 y710 y711 y712 y713 y714 y715=>B_8_2 (J_8_2 p0 p1 127 y711 y712 y713 y714 y715 []) fun y716 y717=>k (E_8_1.e0 y716 y717)) (fun y718 y719 y720 y721 y722 y723 y724=>B_8_2 (J_8_2 p0 p1 19 y720 y721 y722 y723 y724 []) fun y725 y726=>k (E_8_1.e0 y725 y726)) (fun y727 y728 y729 y730 y731 y732 y733=>B_8_2 (J_8_2 p0 p1 18 y729 y730 y731 y732 y733 []) fun y734 y735=>k (E_8_1.e0 y734 y735)) fun y736 y737 y738 y739 y740 y741 y742 y743 y744=>B_8_21_1_0 (J_8_21_1_0 y736 y738 y739 y740 y741 y742 y743 y744) (fun y745 y746 y747 y748 y749 y750 y751=>B_8_2 (J_8_2 p0 p1 34 y747 y748 y749 y750 y751 []) fun y752 y753=>k (E_8_1.e0 y752 y753)) (fun y754 y755 y756 y757 y758 y759 y760 y761=>B_8_2_1 (J_8_2_1 p0 p1 ((v_42 [80,wrap u8 y754]).1) ((v_42 [80,wrap u8 y754]).2.1) y757 y758 y759 y760 ((v_38 (y761.1) y754).1,y761.2)) (fun y762 y763=>k (E_8_1.e0 y762 y763)) fun y764 y765=>k (E_8_1.e1 y764 y765)) (fun y766 y767 y768 y769 y770 y771 y772=>B_8_2_1 (J_8_2_1 p0 p1 ((v_42 [81,1]).1) ((v_42 [81,1]).2.1) y768 y769 y770 y771 y772) (fun y773 y774=>k (E_8_1.e0 y773 y774)) fun y775 y776=>k (E_8_1.e1 y775 y776)) (fun y777 y778 y779 y780 y781 y782 y783=>B_8_2 (J_8_2 p0 p1 49 y779 y780 y781 y782 y783 []) fun y784 y785=>k (E_8_1.e0 y784 y785)) (fun y786 y787 y788 y789 y790 y791 y792=>B_8_2_1 (J_8_2_1 p0 p1 ((v_42 [84]).1) ((v_42 [84]).2.1) y788 y789 y790 y791 (y792.1,(v_56 (y792.2.1)).1,y792.2.2)) (fun y793 y794=>k (E_8_1.e0 y793 y794)) fun y795 y796=>k (E_8_1.e1 y795 y796)) (fun y797 y798 y799 y800 y801 y802 y803=>B_8_2_1 (J_8_2_1 p0 p1 ((v_42 [84]).1) ((v_42 [84]).2.1) y799 y800 y801 y802 y803) (fun y804 y805=>k (E_8_1.e0 y804 y805)) fun y806 y807=>k (E_8_1.e1 y806 y807)) (fun y808 y809 y810 y811 y812 y813 y814 y815=>B_8_2 (J_8_2 p0 p1 0 y810 y811 y812 y813 y814 y815) fun y816 y817=>k (E_8_1.e0 y816 y817)) (fun y818 y819 y820 y821 y822 y823 y824 y825=>B_8_2 (J_8_2 p0 p1 0 y821 y822 y823 y824 y825 ([98,getD y818 1 0,getD y818 2 0]++(v_57 (y825.1.1) 1).1)) fun y826 y827=>k (E_8_1.e0 y826 y827)) (fun y828 y829 y830 y831 y832 y833 y834 y835=>B_8_2 (J_8_2 p0 p1 0 y831 y832 y833 y834 y835 ([98,getD y828 1 0,getD y828 2 0]++(v_57 (↑(length (y835.2.1.2.1)):Int) 1).1)) fun y836 y837=>k (E_8_1.e0 y836 y837)) (fun y838 y839 y840 y841 y842 y843 y844 y845=>B_8_2 (J_8_2 p0 p1 0 y841 y842 y843 y844 y845 ([98,getD y838 1 0,getD y838 2 0]++(v_57 (y845.2.1.2.2.1) 4).1)) fun y846 y847=>k (E_8_1.e0 y846 y847)) (fun y848 y849 y850 y851 y852 y853 y854 y855=>B_8_2 (J_8_2 p0 p1 0 y851 y852 y853 y854 y855 ([98,getD y848 1 0,getD y848 2 0]++(v_57 (y855.1.2.2.1) 1).1)) fun y856 y857=>k (E_8_1.e0 y856 y857)) (fun y858 y859 y860 y861 y862 y863 y864=>B_8_2 (J_8_2 p0 p1 49 y860 y861 y862 y863 y864 []) fun y865 y866=>k (E_8_1.e0 y865 y866)) (fun y867 y868 y869 y870 y871 y872 y873=>B_8_2 (J_8_2 p0 p1 55 y869 y870 y871 y872 y873 []) fun y874 y875=>k (E_8_1.e0 y874 y875)) (fun y876 y877 y878 y879 y880 y881 y882 y883=>B_8_2 (J_8_2 p0 p1 0 y879 y880 y881 y882 y883 ([103,1]++(v_57 y876 2).1)) fun y884 y885=>k (E_8_1.e0 y884 y885)) (fun y886 y887 y888 y889 y890 y891 y892=>B_8_2 (J_8_2 p0 p1 36 y888 y889 y890 y891 y892 []) fun y893 y894=>k (E_8_1.e0 y893 y894)) (fun y895 y896 y897 y898 y899 y900 y901=>B_8_2_1 (J_8_2_1 p0 p1 ((v_42 [103,2]).1) ((v_42 [103,2]).2.1) y897 y898 y899 y900 y901) (fun y902 y903=>k (E_8_1.e0 y902 y903)) fun y904 y905=>k (E_8_1.e1 y904 y905)) (fun y906 y907 y908 y909 y910 y911 y912=>B_8_2 (J_8_2 p0 p1 53 y908 y909 y910 y911 y912 []) fun y913 y914=>k (E_8_1.e0 y913 y914)) (fun y915 y916 y917 y918 y919 y920 y921=>B_8_2 (J_8_2 p0 p1 54 y917 y918 y919 y920 ((y921.1.1,y921.1.2.1,y921.1.2.2.1,0,wrap i64 (y921.2.2.1+10000000),y921.1.2.2.2.2.2),y921.2) []) fun y922 y923=>k (E_8_1.e0 y922 y923)) (fun y924 y925 y926 y927 y928 y929 y930=>B_8_2 (J_8_2 p0 p1 0 y926 y927 y928 y929 y930 []) fun y931 y932=>k (E_8_1.e0 y931 y932)) fun y933 y934 y935 y936 y937 y938 y939=>B_8_2_1 (J_8_2_1 p0 p1 ((v_42 [126,0]).1) ((v_42 [126,0]).2.1) y935 y936 y937 y938 y939) (fun y940 y941=>k (E_8_1.e0 y940 y941)) fun y942 y943=>k (E_8_1.e1 y942 y943)else gd (inB 0 (length p0)) (bif getD p0 0 (0:Int)==(39:Int)then B_8_21_0_0 (J_8_21_0_0 p0 ((v_39 p0).1) ((v_20 p2 p1).1.1==1) p2 p3 p4 p5 p6 p7 ((v_20 p2 p1).1,p3,p1,PUnit.unit)) (fun y944 y945 y946 y947 y948 y949 y950=>B_8_2 (J_8_2 p0 p1 127 y946 y947 y948 y949 y950 []) fun y951 y952=>k (E_8_1.e0 y951 y952)) (fun y953 y954 y955 y956 y957 y958 y959=>B_8_2 (J_8_2 p0 p1 19 y955 y956 y957 y958 y959 []) fun y960 y961=>k (E_8_1.e0 y960 y961)) (fun y962 y963 y964 y965 y966 y967 y968=>B_8_2 (J_8_2 p0 p1 18 y964 y965 y966 y967 y968 []) fun y969 y970=>k (E_8_1.e0 y969 y970)) fun y971 y972 y973 y974 y975 y976 y977 y978 y979=>B_8_21_1_0 (J_8_21_1_0 y971 y973 y974 y975 y976 y977 y978 y979) (fun y980 y981 y982 y983 y984 y985 y986=>B_8_2 (J_8_2 p0 p1 34 y982 y983 y984 y985 y986 []) fun y987 y988=>k (E_8_1.e0 y987 y988)) (fun y989 y990 y991 y992 y993 y994 y995 y996=>B_8_2_1 (J_8_2_1 p0 p1 ((v_42 [80,wrap u8 y989]).1) ((v_42 [80,wrap u8 y989]).2.1) y992 y993 y994 y995 ((v_38 (y996.1) y989).1,y996.2)) (fun y997 y998=>k (E_8_1.e0 y997 y998)) fun y999 y1000=>k (E_8_1.e1 y999 y1000)) (fun y1001 y1002 y1003 y1004 y1005 y1006 y1007=>B_8_2_1 (J_8_2_1 p0 p1 ((v_42 [81,1]).1) ((v_42 [81,1]).2.1) y1003 y1004 y1005 y1006 y1007) (fun y1008 y1009=>k (E_8_1.e0 y1008 y1009)) fun y1010 y1011=>k (E_8_1.e1 y1010 y1011)) (fun y1012 y1013 y1014 y1015 y1016 y1017 y1018=>B_8_2 (J_8_2 p0 p1 49 y1014 y1015 y1016 y1017 y1018 []) fun y1019 y1020=>k (E_8_1.e0 y1019 y1020)) (fun y1021 y1022 y1023 y1024 y1025 y1026 y1027=>B_8_2_1 (J_8_2_1 p0 p1 ((v_42 [84]).1) ((v_42 [84]).2.1) y1023 y1024 y1025 y1026 (y1027.1,(v_56 (y1027.2.1)).1,y1027.2.2)) (fun y1028 y1029=>k (E_8_1.e0 y1028 y1029)) fun y1030 y1031=>k (E_8_1.e1 y1030 y1031)) (fun y1032 y1033 y1034 y1035 y1036 y1037 y1038=>B_8_2_1 (J_8_2_1 p0 p1 ((v_42 [84]).1) ((v_42 [84]).2.1) y1034 y1035 y1036 y1037 y1038) (fun y1039 y1040=>k (E_8_1.e0 y1039 y1040)) fun y1041 y1042=>k (E_8_1.e1 y1041 y1042)) (fun y1043 y1044 y1045 y1046 y1047 y1048 y1049 y1050=>B_8_2 (J_8_2 p0 p1 0 y1045 y1046 y1047 y1048 y1049 y1050) fun y1051 y1052=>k (E_8_1.e0 y1051 y1052)) (fun y1053 y1054 y1055 y1056 y1057 y1058 y1059 y1060=>B_8_2 (J_8_2 p0 p1 0 y1056 y1057 y1058 y1059 y1060 ([98,getD y1053 1 0,getD y1053 2 0]++(v_57 (y1060.1.1) 1).1)) fun y1061 y1062=>k (E_8_1.e0 y1061 y1062)) (fun y1063 y1064 y1065 y1066 y1067 y1068 y1069 y1070=>B_8_2 (J_8_2 p0 p1 0 y1066 y1067 y1068 y1069 y1070 ([98,getD y1063 1 0,getD y1063 2 0]++(v_57 (↑(length (y1070.2.1.2.1)):Int) 1).1)) fun y1071 y1072=>k (E_8_1.e0 y1071 y1072)) (fun y1073 y1074 y1075 y1076 y1077 y1078 y1079 y1080=>B_8_2 (J_8_2 p0 p1 0 y1076 y1077 y1078 y1079 y1080 ([98,getD y1073 1 0,getD y1073 2 0]++(v_57 (y1080.2.1.2.2.1) 4).1)) fun y1081 y1082=>k (E_8_1.e0 y1081 y1082)) (fun y1083 y1084 y1085 y1086 y1087 y1088 y1089 y1090=>B_8_2 (J_8_2 p0 p1 0 y1086 y1087 y1088 y1089 y1090 ([98,getD y1083 1 0,getD y1083 2 0]++(v_57 (y1090.1.2.2.1) 1).1)) fun y1091 y1092=>k (E_8_1.e0 y1091 y1092)) (fun y1093 y1094 y1095 y1096 y1097 y1098 y1099=>B_8_2 (J_8_2 p0 p1 49 y1095 y1096 y1097 y1098 y1099 []) fun y1100 y1101=>k (E_8_1.e0 y1100 y1101)) (fun y1102 y1103 y1104 y1105 y1106 y1107 y1108=>B_8_2 (J_8_2 p0 p1 55 y1104 y1105 y1106 y1107 y1108 []) fun y1109 y1110=>k (E_8_1.e0 y1109 y1110)) (fun y1111 y1112 y1113 y1114 y1115 y1116 y1117 y1118=>B_8_2 (J_8_2 p0 p1 0 y1114 y1115 y1116 y1117 y1118 ([103,1]++(v_57 y1111 2).1)) fun y1119 y1120=>k (E_8_1.e0 y1119 y1120)) (fun y1121 y1122 y1123 y1124 y1125 y1126 y1127=>B_8_2 (J_8_2 p0 p1 36 y1123 y1124 y1125 y1126 y1127 []) fun y1128 y1129=>k (E_8_1.e0 y1128 y1129)) (fun y1130 y1131 y1132 y1133 y1134 y1135 y1136=>B_8_2_1 (J_8_2_1 p0 p1 ((v_42 [103,2]).1) ((v_42 [103,2]).2.1) y1132 y1133 y1134 y1135 y1136) (fun y1137 y1138=>k (E_8_1.e0 y1137 y1138)) fun y1139 y1140=>k (E_8_1.e1 y1139 y1140)) (fun y1141 y1142 y1143 y1144 y1145 y1146 y1147=>B_8_2 (J_8_2 p0 p1 53 y1143 y1144 y1145 y1146 y1147 []) fun y1148 y1149=>k (E_8_1.e0 y1148 y1149)) (fun y1150 y1151 y1152 y1153 y1154 y1155 y1156=>B_8_2 (J_8_2 p0 p1 54 y1152 y1153 y1154 y1155 ((y1156.1.1,y1156.1.2.1,y1156.1.2.2.1,0,wrap i64 (y1156.2.2.1+10000000),y1156.1.2.2.2.2.2),y1156.2) []) fun y1157 y1158=>k (E_8_1.e0 y1157 y1158)) (fun y1159 y1160 y1161 y1162 y1163 y1164 y1165=>B_8_2 (J_8_2 p0 p1 0 y1161 y1162 y1163 y1164 y1165 []) fun y1166 y1167=>k (E_8_1.e0 y1166 y1167)) fun y1168 y1169 y1170 y1171 y1172 y1173 y1174=>B_8_2_1 (J_8_2_1 p0 p1 ((v_42 [126,0]).1) ((v_42 [126,0]).2.1) y1170 y1171 y1172 y1173 y1174) (fun y1175 y1176=>k (E_8_1.e0 y1175 y1176)) fun y1177 y1178=>k (E_8_1.e1 y1177 y1178)else B_8_21_0_0 (J_8_21_0_0 p0 ((v_39 p0).1) false p2 p3 p4 p5 p6 p7 ((v_20 p2 p1).1,p3,p1,PUnit.unit)) (fun y1179 y1180 y1181 y1182 y1183 y1184 y1185=>B_8_2 (J_8_2 p0 p1 127 y1181 y1182 y1183 y1184 y1185 []) fun y1186 y1187=>k (E_8_1.e0 y1186 y1187)) (fun y1188 y1189 y1190 y1191 y1192 y1193 y1194=>B_8_2 (J_8_2 p0 p1 19 y1190 y1191 y1192 y1193 y1194 []) fun y1195 y1196=>k (E_8_1.e0 y1195 y1196)) (fun y1197 y1198 y1199 y1200 y1201 y1202 y1203=>B_8_2 (J_8_2 p0 p1 18 y1199 y1200 y1201 y1202 y1203 []) fun y1204 y1205=>k (E_8_1.e0 y1204 y1205)) fun y1206 y1207 y1208 y1209 y1210 y1211 y1212 y1213 y1214=>B_8_21_1_0 (J_8_21_1_0 y1206 y1208 y1209 y1210 y1211 y1212 y1213 y1214) (fun y1215 y1216 y1217 y1218 y1219 y1220 y1221=>B_8_2 (J_8_2 p0 p1 34 y1217 y1218 y1219 y1220 y1221 []) fun y1222 y1223=>k (E_8_1.e0 y1222 y1223)) (fun y1224 y1225 y1226 y1227 y1228 y1229 y1230 y1231=>B_8_2_1 (J_8_2_1 p0 p1 ((v_42 [80,wrap u8 y1224]).1) ((v_42 [80,wrap u8 y1224]).2.1) y1227 y1228 y1229 y1230 ((v_38 (y1231.1) y1224).1,y1231.2)) (fun y1232 y1233=>k (E_8_1.e0 y1232 y1233)) fun y1234 y1235=>k (E_8_1.e1 y1234 y1235)) (fun y1236 y1237 y1238 y1239 y1240 y1241 y1242=>B_8_2_1 (J_8_2_1 p0 p1 ((v_42 [81,1]).1) ((v_42 [81,1]).2.1) y1238 y1239 y1240 y1241 y1242) (fun y1243 y1244=>k (E_8_1.e0 y1243 y1244)) fun y1245 y1246=>k (E_8_1.e1 y1245 y1246)) (fun y1247 y1248 y1249 y1250 y1251 y1252 y1253=>B_8_2 (J_8_2 p0 p1 49 y1249 y1250 y1251 y1252 y1253 []) fun y1254 y1255=>k (E_8_1.e0 y1254 y1255)) (fun y1256 y1257 y1258 y1259 y1260 y1261 y1262=>B_8_2_1 (J_8_2_1 p0 p1 ((v_42 [84]).1) ((v_42 [84]).2.1) y1258 y1259 y1260 y1261 (y1262.1,(v_56 (y1262.2.1)).1,y1262.2.2)) (fun y1263 y1264=>k (E_8_1.e0 y1263 y1264)) fun y1265 y1266=>k (E_8_1.e1 y1265 y1266)) (fun y1267 y1268 y1269 y1270 y1271 y1272 y1273=>B_8_2_1 (J_8_2_1 p0 p1 ((v_42 [84]).1) ((v_42 [84]).2.1) y1269 y1270 y1271 y1272 y1273) (fun y1274 y1275=>k (E_8_1.e0 y1274 y1275)) fun y1276 y1277=>k (E_8_1.e1 y1276 y1277)) (fun y1278 y1279 y1280 y1281 y1282 y1283 y1284 y1285=>B_8_2 (J_8_2 p0 p1 0 y1280 y1281 y1282 y1283 y1284 y1285) fun y1286 y1287=>k (E_8_1.e0 y1286 y1287)) (fun y1288 y1289 y1290 y1291 y1292 y1293 y1294 y1295=>B_8_2 (J_8_2 p0 p1 0 y1291 y1292 y1293 y1294 y1295 ([98,getD y1288 1 0,getD y1288 2 0]++(v_57 (y1295.1.1) 1).1)) fun y1296 y1297=>k (E_8_1.e0 y1296 y1297)) (fun y1298 y1299 y1300 y1301 y1302 y1303 y1304 y1305=>B_8_2 (J_8_2 p0 p1 0 y1301 y1302 y1303 y1304 y1305 ([98,getD y1298 1 0,getD y1298 2 0]++(v_57 (↑(length (y1305.2.1.2.1)):Int) 1).1)) fun y1306 y1307=>k (E_8_1.e0 y1306 y1307)) (fun y1308 y1309 y1310 y1311 y1312 y1313 y1314 y1315=>B_8_2 (J_8_2 p0 p1 0 y1311 y1312 y1313 y1314 y1315 ([98,getD y1308 1 0,getD y1308 2 0]++(v_57 (y1315.2.1.2.2.1) 4).1)) fun y1316 y1317=>k (E_8_1.e0 y1316 y1317)) (fun y1318 y1319 y1320 y1321 y1322 y1323 y1324 y1325=>B_8_2 (J_8_2 p0 p1 0 y1321 y1322 y1323 y1324 y1325 ([98,getD y1318 1 0,getD y1318 2 0]++(v_57 (y1325.1.2.2.1) 1).1)) fun y1326 y1327=>k (E_8_1.e0 y1326 y1327)) (fun y1328 y1329 y1330 y1331 y1332 y1333 y1334=>B_8_2 (J_8_2 p0 p1 49 y1330 y1331 y1332 y1333 y1334 []) fun y1335 y1336=>k (E_8_1.e0 y1335 y1336)) (fun y1337 y1338 y1339 y1340 y1341 y1342 y1343=>B_8_2 (J_8_2 p0 p1 55 y1339 y1340 y1341 y1342 y1343 []) fun y1344 y1345=>k (E_8_1.e0 y1344 y1345)) (fun y1346 y1347 y1348 y1349 y1350 y1351 y1352 y1353=>B_8_2 (J_8_2 p0 p1 0 y1349 y1350 y1351 y1352 y1353 ([103,1]++(v_57 y1346 2).1)) fun y1354 y1355=>k (E_8_1.e0 y1354 y1355)) (fun y1356 y1357 y1358 y1359 y1360 y1361 y1362=>B_8_2 (J_8_2 p0 p1 36 y1358 y1359 y1360 y1361 y1362 []) fun y1363 y1364=>k (E_8_1.e0 y1363 y1364)) (fun y1365 y1366 y1367 y1368 y1369 y1370 y1371=>B_8_2_1 (J_8_2_1 p0 p1 ((v_42 [103,2]).1) ((v_42 [103,2]).2.1) y1367 y1368 y1369 y1370 y1371) (fun y1372 y1373=>k (E_8_1.e0 y1372 y1373)) fun y1374 y1375=>k (E_8_1.e1 y1374 y1375)) (fun y1376 y1377 y1378 y1379 y1380 y1381 y1382=>B_8_2 (J_8_2 p0 p1 53 y1378 y1379 y1380 y1381 y1382 []) fun y1383 y1384=>k (E_8_1.e0 y1383 y1384)) (fun y1385 y1386 y1387 y1388 y1389 y1390 y1391=>B_8_2 (J_8_2 p0 p1 54 y1387 y1388 y1389 y1390 ((y1391.1.1,y1391.1.2.1,y1391.1.2.2.1,0,wrap i64 (y1391.2.2.1+10000000),y1391.1.2.2.2.2.2),y1391.2) []) fun y1392 y1393=>k (E_8_1.e0 y1392 y1393)) (fun y1394 y1395 y1396 y1397 y1398 y1399 y1400=>B_8_2 (J_8_2 p0 p1 0 y1396 y1397 y1398 y1399 y1400 []) fun y1401 y1402=>k (E_8_1.e0 y1401 y1402)) fun y1403 y1404 y1405 y1406 y1407 y1408 y1409=>B_8_2_1 (J_8_2_1 p0 p1 ((v_42 [126,0]).1) ((v_42 [126,0]).2.1) y1405 y1406 y1407 y1408 y1409) (fun y1410 y1411=>k (E_8_1.e0 y1410 y1411)) fun y1412 y1413=>k (E_8_1.e1 y1412 y1413)))))
noncomputable def Sp.J_8_1(p0:List Int)(p1:Int)(p2:Int×Int×Int×Int×Int×Int×Unit)(p3:List (Int×Int×Int×Int×Int×Int×Bool×Int×Unit)×List (Int×Int×Int×Int×Int×List Int×Int×Unit)×Int×Bool×Unit)(p4:Int×Int×Int×Int×Int×Int×Unit)(p5:Int×Bool×Unit)(p6:List (Int×Int×Int×Int×Int×Int×Bool×Int×Unit))(p7:List (Int×Int×Int×Int×Int×List Int×Int×Unit)):Option E_8_1:=S_8_1 some p0 p1 p2 p3 p4 p5 p6 p7
noncomputable def O_8_1{R:Type}:Orc R:=orL T_8_1 (fun a=>J_8_1 a.1 a.2.1 a.2.2.1 a.2.2.2.1 a.2.2.2.2.1 a.2.2.2.2.2.1 a.2.2.2.2.2.2.1 a.2.2.2.2.2.2.2.1) Y_8_1
theorem OK_8_1{R:Type}:okF (R:=R) sm_8 2 (nf 8 1) O_8_1:=jp ov_8_8_ok (os:=[O_8_2_1]) ⟨OK_8_2_1,trivial⟩ T_8_1 (fun R k a=>S_8_1 k a.1 a.2.1 a.2.2.1 a.2.2.2.1 a.2.2.2.2.1 a.2.2.2.2.2.1 a.2.2.2.2.2.2.1 a.2.2.2.2.2.2.2.1) Y_8_1 (fun k a=>by kernel_rfl) (fun Y a=>by
 unfold S_8_1
 repeat' first|apply gdN|apply condN|(apply Bn_8_2<;>intros)|(apply Bn_8_21_0_0<;>intros)|(apply Bn_8_21_1_0<;>intros)|(apply Bn_8_2_1<;>intros)|rfl) (ok0 _)
noncomputable def F_8(a0:(Int×(Int×(Int×(Int×(Int×(Int×Unit)))))))(a1:((List (Int×(Int×(Int×(Int×(Int×(Int×(Bool×(Int×Unit)))))))))×((List (Int×(Int×(Int×(Int×(Int×((List Int)×(Int×Unit))))))))×(Int×(Bool×Unit)))))(a2:(List Int))(a3:Int):Option ((Int×(Int×(Int×(Int×(Int×(Int×Unit))))))×((List (Int×(Int×(Int×(Int×(Int×(Int×(Bool×(Int×Unit)))))))))×((List (Int×(Int×(Int×(Int×(Int×((List Int)×(Int×Unit))))))))×(Int×(Bool×Unit))))×(List Int)×Unit) :=
 gd (p_6 a0) (bif !(v_6 a0).1 then B_8_0 (J_8_0 a2 a3 true a0 a1 (0,0,0,0,0,0,PUnit.unit) (0,false,PUnit.unit) [] []) (fun y56 y57=>some (y56,y57,[],PUnit.unit)) fun y58 y59 y60 y61 y62 y63 y64 y65=>B_8_1 (J_8_1 y58 y59 y60 y61 y62 y63 y64 y65) (fun y66 y67=>some (y66.1,y66.2.1,y67,PUnit.unit)) fun y68 y69=>some (y69.1,y69.2.1,y68,PUnit.unit)else gd (p_7 a1) (bif !(v_7 a1).1 then B_8_0 (J_8_0 a2 a3 true a0 a1 (0,0,0,0,0,0,PUnit.unit) (0,false,PUnit.unit) [] []) (fun y70 y71=>some (y70,y71,[],PUnit.unit)) fun y72 y73 y74 y75 y76 y77 y78 y79=>B_8_1 (J_8_1 y72 y73 y74 y75 y76 y77 y78 y79) (fun y80 y81=>some (y80.1,y80.2.1,y81,PUnit.unit)) fun y82 y83=>some (y83.1,y83.2.1,y82,PUnit.unit)else gd (p_14 a3 0 1099511627776) (bif !(v_14 a3 0 1099511627776).1 then B_8_0 (J_8_0 a2 a3 true a0 a1 (0,0,0,0,0,0,PUnit.unit) (0,false,PUnit.unit) [] []) (fun y84 y85=>some (y84,y85,[],PUnit.unit)) fun y86 y87 y88 y89 y90 y91 y92 y93=>B_8_1 (J_8_1 y86 y87 y88 y89 y90 y91 y92 y93) (fun y94 y95=>some (y94.1,y94.2.1,y95,PUnit.unit)) fun y96 y97=>some (y97.1,y97.2.1,y96,PUnit.unit)else gd (p_14 (↑(length a2):Int) 1 1023) (B_8_0 (J_8_0 a2 a3 (!(v_14 (↑(length a2):Int) 1 1023).1) a0 a1 (0,0,0,0,0,0,PUnit.unit) (0,false,PUnit.unit) [] []) (fun y98 y99=>some (y98,y99,[],PUnit.unit)) fun y100 y101 y102 y103 y104 y105 y106 y107=>B_8_1 (J_8_1 y100 y101 y102 y103 y104 y105 y106 y107) (fun y108 y109=>some (y108.1,y108.2.1,y109,PUnit.unit)) fun y110 y111=>some (y111.1,y111.2.1,y110,PUnit.unit)))))
noncomputable def Sp.p_8(a0:(Int×(Int×(Int×(Int×(Int×(Int×Unit)))))))(a1:((List (Int×(Int×(Int×(Int×(Int×(Int×(Bool×(Int×Unit)))))))))×((List (Int×(Int×(Int×(Int×(Int×((List Int)×(Int×Unit))))))))×(Int×(Bool×Unit)))))(a2:(List Int))(a3:Int):Bool:=(F_8 a0 a1 a2 a3).isSome
noncomputable def Sp.v_8(a0:(Int×(Int×(Int×(Int×(Int×(Int×Unit)))))))(a1:((List (Int×(Int×(Int×(Int×(Int×(Int×(Bool×(Int×Unit)))))))))×((List (Int×(Int×(Int×(Int×(Int×((List Int)×(Int×Unit))))))))×(Int×(Bool×Unit)))))(a2:(List Int))(a3:Int):(Int×(Int×(Int×(Int×(Int×(Int×Unit))))))×((List (Int×(Int×(Int×(Int×(Int×(Int×(Bool×(Int×Unit)))))))))×((List (Int×(Int×(Int×(Int×(Int×((List Int)×(Int×Unit))))))))×(Int×(Bool×Unit))))×(List Int)×Unit:=(F_8 a0 a1 a2 a3).getD (dfH R_8)
noncomputable def s_8:Summ:=shS A_8 R_8 (fun x=>p_8 x.1 x.2.1 x.2.2.1 x.2.2.2.1) (fun x=>v_8 x.1 x.2.1 x.2.2.1 x.2.2.2.1)
theorem pv_8(a0:(Int×(Int×(Int×(Int×(Int×(Int×Unit)))))))(a1:((List (Int×(Int×(Int×(Int×(Int×(Int×(Bool×(Int×Unit)))))))))×((List (Int×(Int×(Int×(Int×(Int×((List Int)×(Int×Unit))))))))×(Int×(Bool×Unit)))))(a2:(List Int))(a3:Int){y:(Int×(Int×(Int×(Int×(Int×(Int×Unit))))))×((List (Int×(Int×(Int×(Int×(Int×(Int×(Bool×(Int×Unit)))))))))×((List (Int×(Int×(Int×(Int×(Int×((List Int)×(Int×Unit))))))))×(Int×(Bool×Unit))))×(List Int)×Unit}(h:F_8 a0 a1 a2 a3=some y):p_8 a0 a1 a2 a3=true/\v_8 a0 a1 a2 a3=y:=pvG h
theorem run_8(x:HDen A_8)(y:HDen R_8)(h:F_8 x.1 x.2.1 x.2.2.1 x.2.2.2.1=some y):rnF sm_8 3 8 A_8 R_8 x y:=runG ov_8_8_ok (os:=[O_8_0,O_8_1]) ⟨OK_8_0,OK_8_1,trivial⟩ (Eq.trans (by kernel_rfl) h)
end
noncomputable section
abbrev Zt3_0:Type:=List (Int×Int×Int×Int×Int×Int×Bool×Int×Unit)×List (Int×Int×Int×Int×Int×List Int×Int×Unit)×Int×Bool×Unit
abbrev Zt3_1:Type:=Int×Int×Int×Int×Int×Int×Unit
abbrev A_3:List Ty:=[(.slice (.int .u8)),(.pair (.int .i64) (.pair (.int .i64) (.pair (.int .i64) (.pair (.int .i64) (.pair (.int .i64) (.pair (.int .i64) .unit)))))),(.pair (.slice (.pair (.int .i64) (.pair (.int .i64) (.pair (.int .i64) (.pair (.int .i64) (.pair (.int .i64) (.pair (.int .i64) (.pair .bool (.pair (.int .i64) .unit))))))))) (.pair (.slice (.pair (.int .i64) (.pair (.int .i64) (.pair (.int .i64) (.pair (.int .i64) (.pair (.int .i64) (.pair (.slice (.int .i64)) (.pair (.int .i64) .unit)))))))) (.pair (.int .i64) (.pair .bool .unit)))),(.slice (.int .u8)),(.int .i64),(.int .u8)]
abbrev R_3:List Ty:=[.bool]
noncomputable def sm_3:Nat->Option Summ:=smL [(4,s_4),(5,s_5),(6,s_6),(7,s_7),(8,s_8)]
noncomputable def T_3_0:PS:=⟨217,[(3,.hv (.slice (.int .u8))),(4,.hv (.int .i64)),(5,.hv (.int .u8)),(7,.kc (.ptr 0 [])),(8,.kc (.ptr 1 []))],[.mem (.hv (.pair (.int .i64) (.pair (.int .i64) (.pair (.int .i64) (.pair (.int .i64) (.pair (.int .i64) (.pair (.int .i64) .unit))))))),.mem (.hv (.pair (.slice (.pair (.int .i64) (.pair (.int .i64) (.pair (.int .i64) (.pair (.int .i64) (.pair (.int .i64) (.pair (.int .i64) (.pair .bool (.pair (.int .i64) .unit))))))))) (.pair (.slice (.pair (.int .i64) (.pair (.int .i64) (.pair (.int .i64) (.pair (.int .i64) (.pair (.int .i64) (.pair (.slice (.int .i64)) (.pair (.int .i64) .unit)))))))) (.pair (.int .i64) (.pair .bool .unit)))))],0⟩
inductive Sp.E_3_0 where
 |e0
 |e1
 |e2 (p0:List Int)
 |e3 (p0:List Int) (p1 p2:Int) (p3:Zt3_1) (p4:Zt3_0)
noncomputable def Sp.B_3_0{R:Type}(r:Option E_3_0)(k0 k1:Option R)(k2:List Int->Option R)(k3:List Int->Int->Int->Zt3_1->Zt3_0->Option R):Option R:=match r with
 |none=>none
 |some (.e0)=>k0
 |some (.e1)=>k1
 |some (.e2 p0)=>k2 p0
 |some (.e3 p0 p1 p2 p3 p4)=>k3 p0 p1 p2 p3 p4
noncomputable def Y_3_0{R:Type}(k:Ex->St->Option R):E_3_0->Option R
 | .e0=>k Ex.ret (sx 217 [(12,CV.bool true)] [])
 | .e1=>k Ex.ret (sx 217 [(12,CV.bool false)] [])
 | .e2 p0=>k Ex.ret (sx 217 [(12,CV.bool (getD p0 0 (0:Int)==(62:Int)))] [])
 | .e3 p0 p1 p2 p3 p4=>k Ex.ret (sx 217 [(12,CV.bool (getD ((v_4 ((v_8 p3 p4 p0 p1).2.2.1) (wrap u8 (255-p2)) p1).1) 1 0==getD p0 0 0))] [])
noncomputable def Sp.S_3_0{R:Type}(k:E_3_0->Option R)(p0:List Int)(p1 p2:Int)(p3:Int×Int×Int×Int×Int×Int×Unit)(p4:List (Int×Int×Int×Int×Int×Int×Bool×Int×Unit)×List (Int×Int×Int×Int×Int×List Int×Int×Unit)×Int×Bool×Unit):Option R:=
 bif(↑(length p0):Int)==0 then k (E_3_0.e0)else gd (p_6 p3) (bif !(v_6 p3).1 then k (E_3_0.e0)else gd (p_7 p4) (bif !(v_7 p4).1 then k (E_3_0.e0)else gd (p_4 p0 p2 p1) (bif !(v_4 p0 p2 p1).2.1 then k (E_3_0.e1)else gd (p_5 ((v_4 p0 p2 p1).1) p0) (bif !(v_5 ((v_4 p0 p2 p1).1) p0).1 then k (E_3_0.e1)else gd (p_8 p3 p4 p0 p1) (gd (p_8 p3 p4 ((v_4 p0 p2 p1).1) p1) (bif !Ty.beq (Ty.pair (Ty.int i64) (Ty.pair (Ty.int i64) (Ty.pair (Ty.int i64) (Ty.pair (Ty.int i64) (Ty.pair (Ty.int i64) (Ty.pair (Ty.int i64) Ty.unit)))))) ((v_8 p3 p4 p0 p1).1) ((v_8 p3 p4 ((v_4 p0 p2 p1).1) p1).1)then k (E_3_0.e1)else gd (p_5 ((v_8 p3 p4 p0 p1).2.2.1) ((v_8 p3 p4 ((v_4 p0 p2 p1).1) p1).2.2.1)) (bif !(v_5 ((v_8 p3 p4 p0 p1).2.2.1) ((v_8 p3 p4 ((v_4 p0 p2 p1).1) p1).2.2.1)).1 then k (E_3_0.e1)else bif(v_8 p3 p4 p0 p1).2.1.2.2.1 !=(v_8 p3 p4 ((v_4 p0 p2 p1).1) p1).2.1.2.2.1 then k (E_3_0.e1)else bif(↑(length ((v_8 p3 p4 p0 p1).2.1.2.1)):Int)!=(↑(length ((v_8 p3 p4 ((v_4 p0 p2 p1).1) p1).2.1.2.1)):Int)then k (E_3_0.e1)else gd (p_6 ((v_8 p3 p4 p0 p1).1)) (bif !(v_6 ((v_8 p3 p4 p0 p1).1)).1 then k (E_3_0.e1)else gd (p_7 ((v_8 p3 p4 p0 p1).2.1)) (bif !(v_7 ((v_8 p3 p4 p0 p1).2.1)).1 then k (E_3_0.e1)else bif(↑(length ((v_8 p3 p4 p0 p1).2.2.1)):Int)==0 then gd (inB 0 (length p0)) (k (E_3_0.e2 p0))else gd (p_4 ((v_8 p3 p4 p0 p1).2.2.1) (wrap u8 (255-p2)) p1) (bif !(v_4 ((v_8 p3 p4 p0 p1).2.2.1) (wrap u8 (255-p2)) p1).2.1 then k (E_3_0.e1)else gd (p_5 ((v_4 ((v_8 p3 p4 p0 p1).2.2.1) (wrap u8 (255-p2)) p1).1) ((v_8 p3 p4 p0 p1).2.2.1)) (bif !(v_5 ((v_4 ((v_8 p3 p4 p0 p1).2.2.1) (wrap u8 (255-p2)) p1).1) ((v_8 p3 p4 p0 p1).2.2.1)).1 then k (E_3_0.e1)else gd (inB 0 (length ((v_4 ((v_8 p3 p4 p0 p1).2.2.1) (wrap u8 (255-p2)) p1).1))) (gd (inB 0 (length p0)) (bif getD ((v_4 ((v_8 p3 p4 p0 p1).2.2.1) (wrap u8 (255-p2)) p1).1) 0 0==wrap u8 (getD p0 0 (0:Int)+(64:Int))then k (E_3_0.e0)else bif(↑(length ((v_4 ((v_8 p3 p4 p0 p1).2.2.1) (wrap u8 (255-p2)) p1).1)):Int)==3 then gd (inB 0 (length ((v_4 ((v_8 p3 p4 p0 p1).2.2.1) (wrap u8 (255-p2)) p1).1))) (bif getD ((v_4 ((v_8 p3 p4 p0 p1).2.2.1) (wrap u8 (255-p2)) p1).1) 0 (0:Int)==(127:Int)then gd (inB 1 (length ((v_4 ((v_8 p3 p4 p0 p1).2.2.1) (wrap u8 (255-p2)) p1).1))) (gd (inB 0 (length p0)) (k (E_3_0.e3 p0 p1 p2 p3 p4)))else k (E_3_0.e1))else k (E_3_0.e1))))))))))))))
noncomputable def Sp.J_3_0(p0:List Int)(p1 p2:Int)(p3:Int×Int×Int×Int×Int×Int×Unit)(p4:List (Int×Int×Int×Int×Int×Int×Bool×Int×Unit)×List (Int×Int×Int×Int×Int×List Int×Int×Unit)×Int×Bool×Unit):Option E_3_0:=S_3_0 some p0 p1 p2 p3 p4
noncomputable def O_3_0{R:Type}:Orc R:=orL T_3_0 (fun a=>J_3_0 a.1 a.2.1 a.2.2.1 a.2.2.2.1 a.2.2.2.2.1) Y_3_0
theorem OK_3_0{R:Type}:okF (R:=R) sm_3 0 (nf 3 0) O_3_0:=jp noO_ok (os:=[]) trivial T_3_0 (fun R k a=>S_3_0 k a.1 a.2.1 a.2.2.1 a.2.2.2.1 a.2.2.2.2.1) Y_3_0 (fun k a=>by kernel_rfl) (fun Y a=>by
 unfold S_3_0
 repeat' first|apply gdN|apply condN|rfl) (ok0 _)
noncomputable def F_3(a0:(List Int))(a1:(Int×(Int×(Int×(Int×(Int×(Int×Unit)))))))(a2:((List (Int×(Int×(Int×(Int×(Int×(Int×(Bool×(Int×Unit)))))))))×((List (Int×(Int×(Int×(Int×(Int×((List Int)×(Int×Unit))))))))×(Int×(Bool×Unit)))))(a3:(List Int))(a4 a5:Int):Option (Bool) :=
 gd (p_4 [48,49,50,51,52,53,54,55,56,57] 1 0) (bif !(v_4 [48,49,50,51,52,53,54,55,56,57] 1 0).2.1 then some false else bif !(v_4 [48,49,50,51,52,53,54,55,56,57] 1 0).1==[48,49,50,51,52,53,54,55,56,57]then some false else bif decide (a4<0)then some true else bif decide (a4>1099511627776)then some true else bif decide ((↑(length a0):Int)>1023)then some true else bif decide ((↑(length a3):Int)>1023)then some true else bif decide ((↑(length (a2.2.1)):Int)>70)then some true else bif decide ((↑(length (a2.1)):Int)>70)then some true else bif decide ((↑(length a0):Int)>0)then gd (p_4 a0 a5 a4) (bif !(v_4 a0 a5 a4).2.1 then some false else gd (p_5 ((v_4 a0 a5 a4).1) a0) (bif !(v_5 ((v_4 a0 a5 a4).1) a0).1 then some false else B_3_0 (J_3_0 a3 a4 a5 a1 a2) (some true) (some false) (fun y40=>some (getD y40 0 (0:Int)==(62:Int))) fun y41 y42 y43 y44 y45=>some (getD ((v_4 ((v_8 y44 y45 y41 y42).2.2.1) (wrap u8 (255-y43)) y42).1) 1 0==getD y41 0 0)))else B_3_0 (J_3_0 a3 a4 a5 a1 a2) (some true) (some false) (fun y46=>some (getD y46 0 (0:Int)==(62:Int))) fun y47 y48 y49 y50 y51=>some (getD ((v_4 ((v_8 y50 y51 y47 y48).2.2.1) (wrap u8 (255-y49)) y48).1) 1 0==getD y47 0 0))
theorem run_3(a0:(List Int))(a1:(Int×(Int×(Int×(Int×(Int×(Int×Unit)))))))(a2:((List (Int×(Int×(Int×(Int×(Int×(Int×(Bool×(Int×Unit)))))))))×((List (Int×(Int×(Int×(Int×(Int×((List Int)×(Int×Unit))))))))×(Int×(Bool×Unit)))))(a3:(List Int))(a4 a5:Int){b:Bool}(h:F_3 a0 a1 a2 a3 a4 a5=some b):evFn sm_3 fns FU 1 3 (ofH A_3 (a0,a1,a2,a3,a4,a5,())) [] bk=some b:=runG noO_ok (os:=[O_3_0]) ⟨OK_3_0,trivial⟩ (Eq.trans (by kernel_rfl) h)
end
end Go.Ev
namespace Go.Proofs
open Go.Shelf
end Go.Proofs
namespace Go.Ev
open Go Go.Proofs Go.RowKit
set_option maxRecDepth 100000
set_option maxHeartbeats 4000000
noncomputable def bcl24_ren:Go.Shelf.Ren:=⟨fun|4=>24|n=>n,fun n=>n,fun n=>n⟩
theorem bcl24_lay:Go.Proofs.SlLaysK.n4 Try.prog bcl24_ren:= {
 mixed:=by kernel_rfl
 f4:=Try.func24.trans (congrArg some (by kernel_rfl))
 t4:=Try.underlying4
 a4:=Try.isAgg4
 z4:=Try.sizeOf4
 v4:=Try.zeroValue4
 t22:=Try.underlying22
 a22:=Try.isAgg22
 z22:=Try.sizeOf22
 v22:=Try.zeroValue22
 t5:=Try.underlying5
 i5:=by kernel_rfl}
theorem sok_24:SummOK Try.prog 24 (vecS (.int .u8) 5 1):=bclone_vec (by kernel_rfl)
 (fun a n c xs w hx hb hc=>Any.bytes_Clone_at bcl24_lay a n c xs w hx hb hc)
 (fun n c w=>Any.bytes_Clone_nil bcl24_lay n c w)
theorem sok_22:SummOK Try.prog 22 s_22:=sokN hm0 run_22 trivial
theorem sok_23:SummOK Try.prog 23 s_23:=sokN hm0 run_23 trivial
theorem sok_25:SummOK Try.prog 25 s_25:=sokS hm0 run_25 trivial
theorem sok_9:SummOK Try.prog 9 s_9:=sokS hm0 run_9 ⟨sok_22,sok_23,sok_24,sok_25,trivial⟩
theorem sok_5:SummOK Try.prog 5 s_5:=sokN hm0 run_5 trivial
theorem sok_66:SummOK Try.prog 66 s_66:=sokN hm0 run_66 trivial
theorem sok_71:SummOK Try.prog 71 s_71:=sokN hm0 run_71 trivial
theorem sok_65:SummOK Try.prog 65 s_65:=sokN hm0 run_65 ⟨sok_66,sok_71,trivial⟩
theorem sok_67:SummOK Try.prog 67 s_67:=sokN hm0 run_67 trivial
theorem sok_60:SummOK Try.prog 60 s_60:=sokN hm0 run_60 ⟨sok_65,sok_66,sok_67,trivial⟩
theorem sok_61:SummOK Try.prog 61 s_61:=sokN hm0 run_61 trivial
theorem sok_49:SummOK Try.prog 49 s_49:=sokS hm0 run_49 ⟨sok_60,sok_61,trivial⟩
theorem sok_70:SummOK Try.prog 70 s_70:=sokN hm0 run_70 ⟨sok_49,sok_60,trivial⟩
theorem sok_64:SummOK Try.prog 64 s_64:=sokN hm0 run_64 ⟨sok_65,sok_66,sok_70,trivial⟩
theorem sok_59:SummOK Try.prog 59 s_59:=sokN hm0 run_59 ⟨sok_64,trivial⟩
theorem sok_48:SummOK Try.prog 48 s_48:=sokN hm0 run_48 ⟨sok_59,trivial⟩
theorem sok_62:SummOK Try.prog 62 s_62:=sokN hm0 run_62 trivial
theorem sok_50:SummOK Try.prog 50 s_50:=sokN hm0 run_50 ⟨sok_62,trivial⟩
theorem sok_26:SummOK Try.prog 26 s_26:=sokS hm0 run_26 ⟨sok_48,sok_49,sok_50,trivial⟩
theorem sok_27:SummOK Try.prog 27 s_27:=sokS hm0 run_27 ⟨sok_48,sok_49,sok_50,trivial⟩
theorem sok_10:SummOK Try.prog 10 s_10:=sokS hm0 run_10 ⟨sok_5,sok_26,sok_27,trivial⟩
theorem sok_28:SummOK Try.prog 28 s_28:=sokN hm0 run_28 trivial
theorem sok_51:SummOK Try.prog 51 s_51:=sokN hm0 run_51 trivial
theorem sok_52:SummOK Try.prog 52 s_52:=sokN hm0 run_52 trivial
theorem sok_29:SummOK Try.prog 29 s_29:=sokN hm0 run_29 ⟨sok_22,sok_51,sok_52,trivial⟩
theorem sok_30:SummOK Try.prog 30 s_30:=sokS hm0 run_30 ⟨sok_25,trivial⟩
theorem sok_31:SummOK Try.prog 31 s_31:=sokS hm0 run_31 trivial
theorem sok_11:SummOK Try.prog 11 s_11:=sokS hm0 run_11 ⟨sok_23,sok_24,sok_28,sok_29,sok_30,sok_31,trivial⟩
theorem sok_32:SummOK Try.prog 32 s_32:=sokN hm0 run_32 ⟨sok_22,sok_51,sok_52,trivial⟩
theorem sok_12:SummOK Try.prog 12 s_12:=sokS hm0 run_12 ⟨sok_23,sok_24,sok_28,sok_32,trivial⟩
theorem sok_13:SummOK Try.prog 13 s_13:=sokS hm0 run_13 ⟨sok_23,sok_24,sok_25,sok_32,trivial⟩
theorem sok_4:SummOK Try.prog 4 s_4:=sokS hm0 run_4 ⟨sok_9,sok_10,sok_11,sok_12,sok_13,trivial⟩
theorem sok_14:SummOK Try.prog 14 s_14:=sokN hm0 run_14 trivial
theorem sok_6:SummOK Try.prog 6 s_6:=sokN hm0 run_6 ⟨sok_14,trivial⟩
theorem sok_18:SummOK Try.prog 18 s_18:=sokN hm0 run_18 trivial
theorem sok_55:SummOK Try.prog 55 s_55:=sokN hm0 run_55 ⟨sok_18,trivial⟩
theorem sok_35:SummOK Try.prog 35 s_35:=sokN hm0 run_35 ⟨sok_55,trivial⟩
theorem sok_36:SummOK Try.prog 36 s_36:=sokN hm0 run_36 trivial
theorem sok_37:SummOK Try.prog 37 s_37:=sokN hm0 run_37 trivial
theorem sok_19:SummOK Try.prog 19 s_19:=sokN hm0 run_19 ⟨sok_18,sok_35,sok_36,sok_37,trivial⟩
theorem sok_34:SummOK Try.prog 34 s_34:=sokN hm0 run_34 ⟨sok_18,trivial⟩
theorem sok_7:SummOK Try.prog 7 s_7:=sokN hm0 run_7 ⟨sok_17,sok_18,sok_19,sok_34,trivial⟩
theorem sok_38:SummOK Try.prog 38 s_38:=sokN hm0 run_38 trivial
theorem sok_20:SummOK Try.prog 20 s_20:=sokN hm0 run_20 ⟨sok_6,sok_14,sok_38,trivial⟩
theorem sok_39:SummOK Try.prog 39 s_39:=sokN hm0 run_39 trivial
theorem sok_40:SummOK Try.prog 40 s_40:=sokN hm0 run_40 trivial
theorem sok_42:SummOK Try.prog 42 s_42:=sokS hm0 run_42 trivial
theorem sok_56:SummOK Try.prog 56 s_56:=sokS hm0 run_56 ⟨sok_7,trivial⟩
theorem sok_57:SummOK Try.prog 57 s_57:=sokS hm0 run_57 trivial
theorem sok_58:SummOK Try.prog 58 s_58:=sokN hm0 run_58 ⟨sok_14,trivial⟩
theorem sok_8:SummOK Try.prog 8 s_8:=sokS hm0 run_8 ⟨sok_6,sok_7,sok_14,sok_20,sok_38,sok_39,sok_40,sok_42,sok_56,sok_57,sok_58,trivial⟩
theorem call_3{R:Type}(n base:Nat):CallOK Try.prog base (rokOf Try.prog smB fns) (evFn (R:=R) sm_3 fns FU n):=callG hm0 (l:=[(4,s_4),(5,s_5),(6,s_6),(7,s_7),(8,s_8)]) ⟨sok_4,sok_5,sok_6,sok_7,sok_8,trivial⟩ n base
end Go.Ev
