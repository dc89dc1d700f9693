/- Helpers: functions of the program as Lean functions, and what they compute. No condition. -/
import Derived.Test.YtaaagikcbnbncaaGreatG5P1
import Derived.Test.YtaaagikcbnbncaaGreatG5P2
import Derived.Test.YtaaagikcbnbncaaGreatG5P3
import Derived.Test.YtaaagikcbnbncaaGreatProg
import Derived.Test.YtaaagikcbnbncaaGreatE5P2
import Derived.Test.YtaaagikcbnbncaaGreatG5P0
set_option maxRecDepth 10000
set_option linter.unusedVariables false
set_option linter.unusedSimpArgs false
open Go.IntKind (wrap i64 i32 i16 i8 u64 u32 u16 u8)
open List (getD length take drop replicate)
open Int (toNat)
open Go.Ev.Sp
namespace Go.Ev
open Go
set_option maxRecDepth 100000
set_option maxHeartbeats 4000000
set_option linter.unusedVariables false
noncomputable section
abbrev Zt5_0:Type:=(List Int×List Int×Int×Unit)×List Int×Unit
abbrev Zt5_1:Type:=Int×Int×List Int×(Int×List (List Int)×List (List Int)×Unit)×Unit
abbrev Zt5_2:Type:=((List Int×List Int×Int×Unit)×List Int×Unit)×(Int×Int×Unit)×Int×Unit
abbrev Zy5_3:Ty:=(.pair (.pair (.slice (.int .u32)) (.pair (.slice (.int .i64)) (.pair (.int .i64) .unit))) (.pair (.arr 32 (.int .u8)) .unit))
abbrev Zt5_4:Type:=Int×Int×Unit
abbrev Zy5_5:Ty:=(.pair (.int .i64) (.pair (.int .i64) (.pair (.arr 32 (.int .u8)) (.pair (.pair (.int .i64) (.pair (.slice (.arr 32 (.int .u8))) (.pair (.slice (.arr 32 (.int .u8))) .unit))) .unit))))
abbrev Zy5_6:Ty:=(.pair (.pair (.pair (.slice (.int .u32)) (.pair (.slice (.int .i64)) (.pair (.int .i64) .unit))) (.pair (.arr 32 (.int .u8)) .unit)) (.pair (.pair (.int .i64) (.pair (.int .u32) .unit)) (.pair (.int .i64) .unit)))
abbrev Zy5_7:Ty:=(.pair (.int .i64) (.pair (.int .u32) .unit))
abbrev A_5:List Ty:=[(.pair (.pair (.slice (.int .u32)) (.pair (.slice (.int .i64)) (.pair (.int .i64) .unit))) (.pair (.arr 32 (.int .u8)) .unit)),(.pair (.int .i64) (.pair (.int .i64) (.pair (.arr 32 (.int .u8)) (.pair (.pair (.int .i64) (.pair (.slice (.arr 32 (.int .u8))) (.pair (.slice (.arr 32 (.int .u8))) .unit))) .unit)))),(.slice (.int .u32)),(.pair (.int .i64) (.pair (.int .u32) .unit))]
abbrev R_5:List Ty:=[.bool]
noncomputable def sm_5:Nat->Option Summ:=smL [(7,s_7),(8,s_8),(9,s_9),(12,s_12),(13,s_13),(14,s_14),(23,s_23),(24,s_24),(26,s_26),(28,s_28),(38,s_38),(59,s_59)]
noncomputable def T_5_15_1_0:PS:=⟨90,[(3,.hv (.int .i64)),(6,.kc (.ptr 6 [])),(7,.kc (.ptr 9 [])),(8,.kc (.ptr 10 [])),(13,.kc (.ptr 11 [])),(14,.kc (.ptr 12 []))],[.mem (.hv Zy5_3),.mem (.hv Zy5_5),.mem (.hv (.slice (.int .u32))),.mem (.hv Zy5_7),.mem (.hv Zy5_3),.mem (.hv Zy5_7),.mem (.pr (.hv (.int .i64)) (.pr (.hv (.int .i64)) (.pr (.hv (.int .i64)) (.pr (.pr (.hv (.int .i64)) (.pr (.hv (.int .i64)) (.pr (.hv (.arr 32 (.int .u8))) (.pr (.pr (.hv (.int .i64)) (.kc (.pair (.whole 7) (.pair (.whole 8) (.pure .unit PUnit.unit))))) (.kc (.pure .unit PUnit.unit)))))) (.kc (.pure .unit PUnit.unit)))))),.vec 23 (.arr 32 (.int .u8)),.vec 23 (.arr 32 (.int .u8)),.mem (.hv Zy5_3),.mem (.hv Zy5_7),.mem (.hv Zy5_6),.mem (.pr (.hv (.int .i64)) (.pr (.hv (.int .i64)) (.pr (.hv (.int .i64)) (.pr (.pr (.hv (.int .i64)) (.pr (.hv (.int .i64)) (.pr (.hv (.arr 32 (.int .u8))) (.pr (.pr (.hv (.int .i64)) (.kc (.pair (.whole 13) (.pair (.whole 14) (.pure .unit PUnit.unit))))) (.kc (.pure .unit PUnit.unit)))))) (.kc (.pure .unit PUnit.unit)))))),.vec 23 (.arr 32 (.int .u8)),.vec 23 (.arr 32 (.int .u8))],6⟩
inductive Sp.E_5_15_1_0 where
 |e0 (p1:Zt5_0) (p2:Zt5_1) (p3:List Int) (p4:Zt5_4) (p5:Zt5_0) (p6 p17:Zt5_4) (p18:Zt5_2)
 |e1 (p1:Zt5_0) (p2:Zt5_1) (p3:List Int) (p4:Zt5_4) (p5:Zt5_0) (p6:Zt5_4)
noncomputable def Sp.B_5_15_1_0{R:Type}(r:Option E_5_15_1_0)(k0:Zt5_0->Zt5_1->List Int->Zt5_4->Zt5_0->Zt5_4->Zt5_4->Zt5_2->Option R)(k1:Zt5_0->Zt5_1->List Int->Zt5_4->Zt5_0->Zt5_4->Option R):Option R:=match r with
 |none=>none
 |some (.e0 p1 p2 p3 p4 p5 p6 p17 p18)=>k0 p1 p2 p3 p4 p5 p6 p17 p18
 |some (.e1 p1 p2 p3 p4 p5 p6)=>k1 p1 p2 p3 p4 p5 p6
theorem Bn_5_15_1_0{A R:Type}{r:Option E_5_15_1_0}{f:A->Option R}{k0:Zt5_0->Zt5_1->List Int->Zt5_4->Zt5_0->Zt5_4->Zt5_4->Zt5_2->Option A}{k1:Zt5_0->Zt5_1->List Int->Zt5_4->Zt5_0->Zt5_4->Option A}{l0:Zt5_0->Zt5_1->List Int->Zt5_4->Zt5_0->Zt5_4->Zt5_4->Zt5_2->Option R}{l1:Zt5_0->Zt5_1->List Int->Zt5_4->Zt5_0->Zt5_4->Option R}(h0:∀p1 p2 p3 p4 p5 p6 p17 p18,(k0 p1 p2 p3 p4 p5 p6 p17 p18).bind f=l0 p1 p2 p3 p4 p5 p6 p17 p18)(h1:∀p1 p2 p3 p4 p5 p6,(k1 p1 p2 p3 p4 p5 p6).bind f=l1 p1 p2 p3 p4 p5 p6):(B_5_15_1_0 r k0 k1).bind f=B_5_15_1_0 r l0 l1:=by
 cases r with
 |none=>rfl
 |some e=>cases e<;>first|apply h0|apply h1
noncomputable def Y_5_15_1_0{R:Type}(k:Ex->St->Option R):E_5_15_1_0->Option R
 | .e0 p1 p2 p3 p4 p5 p6 p17 p18=>k Ex.ret (sx 90 [(12,CV.bool (Ty.beq (Ty.pair (Ty.int i64) (Ty.pair (Ty.int u32) Ty.unit)) p17 (p18.2.1)))] [Blk.mem (CV.pure (Ty.pair (Ty.pair (Ty.slice (Ty.int u32)) (Ty.pair (Ty.slice (Ty.int i64)) (Ty.pair (Ty.int i64) Ty.unit))) (Ty.pair (Ty.arr 32 (Ty.int u8)) Ty.unit)) p1),Blk.mem (CV.pure (Ty.pair (Ty.int i64) (Ty.pair (Ty.int i64) (Ty.pair (Ty.arr 32 (Ty.int u8)) (Ty.pair (Ty.pair (Ty.int i64) (Ty.pair (Ty.slice (Ty.arr 32 (Ty.int u8))) (Ty.pair (Ty.slice (Ty.arr 32 (Ty.int u8))) Ty.unit))) Ty.unit)))) p2),Blk.mem (CV.pure (Ty.slice (Ty.int u32)) p3),Blk.mem (CV.pure (Ty.pair (Ty.int i64) (Ty.pair (Ty.int u32) Ty.unit)) p4),Blk.mem (CV.pure (Ty.pair (Ty.pair (Ty.slice (Ty.int u32)) (Ty.pair (Ty.slice (Ty.int i64)) (Ty.pair (Ty.int i64) Ty.unit))) (Ty.pair (Ty.arr 32 (Ty.int u8)) Ty.unit)) p5),Blk.mem (CV.pure (Ty.pair (Ty.int i64) (Ty.pair (Ty.int u32) Ty.unit)) p6)] 6)
 | .e1 p1 p2 p3 p4 p5 p6=>k Ex.ret (sx 90 [(12,CV.bool false)] [Blk.mem (CV.pure (Ty.pair (Ty.pair (Ty.slice (Ty.int u32)) (Ty.pair (Ty.slice (Ty.int i64)) (Ty.pair (Ty.int i64) Ty.unit))) (Ty.pair (Ty.arr 32 (Ty.int u8)) Ty.unit)) p1),Blk.mem (CV.pure (Ty.pair (Ty.int i64) (Ty.pair (Ty.int i64) (Ty.pair (Ty.arr 32 (Ty.int u8)) (Ty.pair (Ty.pair (Ty.int i64) (Ty.pair (Ty.slice (Ty.arr 32 (Ty.int u8))) (Ty.pair (Ty.slice (Ty.arr 32 (Ty.int u8))) Ty.unit))) Ty.unit)))) p2),Blk.mem (CV.pure (Ty.slice (Ty.int u32)) p3),Blk.mem (CV.pure (Ty.pair (Ty.int i64) (Ty.pair (Ty.int u32) Ty.unit)) p4),Blk.mem (CV.pure (Ty.pair (Ty.pair (Ty.slice (Ty.int u32)) (Ty.pair (Ty.slice (Ty.int i64)) (Ty.pair (Ty.int i64) Ty.unit))) (Ty.pair (Ty.arr 32 (Ty.int u8)) Ty.unit)) p5),Blk.mem (CV.pure (Ty.pair (Ty.int i64) (Ty.pair (Ty.int u32) Ty.unit)) p6)] 6)
noncomputable def Sp.S_5_15_1_0{R:Type}(k:E_5_15_1_0->Option R)(p0:Int)(p1:(List Int×List Int×Int×Unit)×List Int×Unit)(p2:Int×Int×List Int×(Int×List (List Int)×List (List Int)×Unit)×Unit)(p3:List Int)(p4:Int×Int×Unit)(p5:(List Int×List Int×Int×Unit)×List Int×Unit)(p6:Int×Int×Unit)(p7 p8 p9 p10 p11:Int)(p12:List Int)(p13:Int)(p14 p15:List (List Int))(p16:(List Int×List Int×Int×Unit)×List Int×Unit)(p17:Int×Int×Unit)(p18:((List Int×List Int×Int×Unit)×List Int×Unit)×(Int×Int×Unit)×Int×Unit)(p19 p20 p21 p22 p23:Int)(p24:List Int)(p25:Int)(p26 p27:List (List Int)):Option R:=
 bif p0==p18.2.2.1 then gd (p_59 (p7,p8,p9,(p10,p11,p12,(p13,p14,p15,PUnit.unit),PUnit.unit),PUnit.unit) (p19,p20,p21,(p22,p23,p24,(p25,p26,p27,PUnit.unit),PUnit.unit),PUnit.unit)) (bif(v_59 (p7,p8,p9,(p10,p11,p12,(p13,p14,p15,PUnit.unit),PUnit.unit),PUnit.unit) (p19,p20,p21,(p22,p23,p24,(p25,p26,p27,PUnit.unit),PUnit.unit),PUnit.unit)).1 then gd (p_28 p16 (p18.1)) (bif(v_28 p16 (p18.1)).1 then k (E_5_15_1_0.e0 p1 p2 p3 p4 p5 p6 p17 p18)else k (E_5_15_1_0.e1 p1 p2 p3 p4 p5 p6))else k (E_5_15_1_0.e1 p1 p2 p3 p4 p5 p6))else k (E_5_15_1_0.e1 p1 p2 p3 p4 p5 p6)
noncomputable def Sp.J_5_15_1_0(p0:Int)(p1:(List Int×List Int×Int×Unit)×List Int×Unit)(p2:Int×Int×List Int×(Int×List (List Int)×List (List Int)×Unit)×Unit)(p3:List Int)(p4:Int×Int×Unit)(p5:(List Int×List Int×Int×Unit)×List Int×Unit)(p6:Int×Int×Unit)(p7 p8 p9 p10 p11:Int)(p12:List Int)(p13:Int)(p14 p15:List (List Int))(p16:(List Int×List Int×Int×Unit)×List Int×Unit)(p17:Int×Int×Unit)(p18:((List Int×List Int×Int×Unit)×List Int×Unit)×(Int×Int×Unit)×Int×Unit)(p19 p20 p21 p22 p23:Int)(p24:List Int)(p25:Int)(p26 p27:List (List Int)):Option E_5_15_1_0:=S_5_15_1_0 some p0 p1 p2 p3 p4 p5 p6 p7 p8 p9 p10 p11 p12 p13 p14 p15 p16 p17 p18 p19 p20 p21 p22 p23 p24 p25 p26 p27
noncomputable def O_5_15_1_0{R:Type}:Orc R:=orL T_5_15_1_0 (fun a=>J_5_15_1_0 a.1 a.2.1 a.2.2.1 a.2.2.2.1 a.2.2.2.2.1 a.2.2.2.2.2.1 a.2.2.2.2.2.2.1 a.2.2.2.2.2.2.2.1 a.2.2.2.2.2.2.2.2.1 a.2.2.2.2.2.2.2.2.2.1 a.2.2.2.2.2.2.2.2.2.2.1 a.2.2.2.2.2.2.2.2.2.2.2.1 a.2.2.2.2.2.2.2.2.2.2.2.2.1 a.2.2.2.2.2.2.2.2.2.2.2.2.2.1 a.2.2.2.2.2.2.2.2.2.2.2.2.2.2.1 a.2.2.2.2.2.2.2.2.2.2.2.2.2.2.2.1 a.2.2.2.2.2.2.2.2.2.2.2.2.2.2.2.2.1 a.2.2.2.2.2.2.2.2.2.2.2.2.2.2.2.2.2.1 a.2.2.2.2.2.2.2.2.2.2.2.2.2.2.2.2.2.2.1 a.2.2.2.2.2.2.2.2.2.2.2.2.2.2.2.2.2.2.2.1 a.2.2.2.2.2.2.2.2.2.2.2.2.2.2.2.2.2.2.2.2.1 a.2.2.2.2.2.2.2.2.2.2.2.2.2.2.2.2.2.2.2.2.2.1 a.2.2.2.2.2.2.2.2.2.2.2.2.2.2.2.2.2.2.2.2.2.2.1 a.2.2.2.2.2.2.2.2.2.2.2.2.2.2.2.2.2.2.2.2.2.2.2.1 a.2.2.2.2.2.2.2.2.2.2.2.2.2.2.2.2.2.2.2.2.2.2.2.2.1 a.2.2.2.2.2.2.2.2.2.2.2.2.2.2.2.2.2.2.2.2.2.2.2.2.2.1 a.2.2.2.2.2.2.2.2.2.2.2.2.2.2.2.2.2.2.2.2.2.2.2.2.2.2.1 a.2.2.2.2.2.2.2.2.2.2.2.2.2.2.2.2.2.2.2.2.2.2.2.2.2.2.2.1) Y_5_15_1_0
theorem OK_5_15_1_0{R:Type}:okF (R:=R) sm_5 2 (ni (nf 15 0) 0) O_5_15_1_0:=jp noO_ok (os:=[]) trivial T_5_15_1_0 (fun R k a=>S_5_15_1_0 k a.1 a.2.1 a.2.2.1 a.2.2.2.1 a.2.2.2.2.1 a.2.2.2.2.2.1 a.2.2.2.2.2.2.1 a.2.2.2.2.2.2.2.1 a.2.2.2.2.2.2.2.2.1 a.2.2.2.2.2.2.2.2.2.1 a.2.2.2.2.2.2.2.2.2.2.1 a.2.2.2.2.2.2.2.2.2.2.2.1 a.2.2.2.2.2.2.2.2.2.2.2.2.1 a.2.2.2.2.2.2.2.2.2.2.2.2.2.1 a.2.2.2.2.2.2.2.2.2.2.2.2.2.2.1 a.2.2.2.2.2.2.2.2.2.2.2.2.2.2.2.1 a.2.2.2.2.2.2.2.2.2.2.2.2.2.2.2.2.1 a.2.2.2.2.2.2.2.2.2.2.2.2.2.2.2.2.2.1 a.2.2.2.2.2.2.2.2.2.2.2.2.2.2.2.2.2.2.1 a.2.2.2.2.2.2.2.2.2.2.2.2.2.2.2.2.2.2.2.1 a.2.2.2.2.2.2.2.2.2.2.2.2.2.2.2.2.2.2.2.2.1 a.2.2.2.2.2.2.2.2.2.2.2.2.2.2.2.2.2.2.2.2.2.1 a.2.2.2.2.2.2.2.2.2.2.2.2.2.2.2.2.2.2.2.2.2.2.1 a.2.2.2.2.2.2.2.2.2.2.2.2.2.2.2.2.2.2.2.2.2.2.2.1 a.2.2.2.2.2.2.2.2.2.2.2.2.2.2.2.2.2.2.2.2.2.2.2.2.1 a.2.2.2.2.2.2.2.2.2.2.2.2.2.2.2.2.2.2.2.2.2.2.2.2.2.1 a.2.2.2.2.2.2.2.2.2.2.2.2.2.2.2.2.2.2.2.2.2.2.2.2.2.2.1 a.2.2.2.2.2.2.2.2.2.2.2.2.2.2.2.2.2.2.2.2.2.2.2.2.2.2.2.1) Y_5_15_1_0 (fun k a=>by kernel_rfl) (fun Y a=>by
 unfold S_5_15_1_0
 repeat' first|apply gdN|apply condN|rfl) (ok0 _)
noncomputable def T_5_15_0_0:PS:=⟨90,[(3,.hv (.int .i64)),(6,.kc (.ptr 6 [])),(7,.kc (.ptr 9 [])),(8,.kc (.ptr 10 [])),(13,.kc (.ptr 11 [])),(14,.kc (.ptr 12 []))],[.mem (.hv Zy5_3),.mem (.hv Zy5_5),.mem (.hv (.slice (.int .u32))),.mem (.hv Zy5_7),.mem (.hv Zy5_3),.mem (.hv Zy5_7),.mem (.pr (.hv (.int .i64)) (.pr (.hv (.int .i64)) (.pr (.hv (.int .i64)) (.pr (.pr (.hv (.int .i64)) (.pr (.hv (.int .i64)) (.pr (.hv (.arr 32 (.int .u8))) (.pr (.pr (.hv (.int .i64)) (.kc (.pair (.whole 7) (.pair (.whole 8) (.pure .unit PUnit.unit))))) (.kc (.pure .unit PUnit.unit)))))) (.kc (.pure .unit PUnit.unit)))))),.vec 23 (.arr 32 (.int .u8)),.vec 23 (.arr 32 (.int .u8)),.mem (.hv Zy5_3),.mem (.hv Zy5_7),.mem (.hv Zy5_6),.mem (.pr (.hv (.int .i64)) (.pr (.hv (.int .i64)) (.pr (.hv (.int .i64)) (.pr (.pr (.hv (.int .i64)) (.pr (.hv (.int .i64)) (.pr (.hv (.arr 32 (.int .u8))) (.pr (.pr (.hv (.int .i64)) (.kc (.pair (.whole 13) (.pair (.whole 14) (.pure .unit PUnit.unit))))) (.kc (.pure .unit PUnit.unit)))))) (.kc (.pure .unit PUnit.unit)))))),.vec 23 (.arr 32 (.int .u8)),.vec 23 (.arr 32 (.int .u8))],6⟩
inductive Sp.E_5_15_0_0 where
 |e0 (y28:Zt5_0) (y29:Zt5_1) (y30:List Int) (y31:Zt5_4) (y32:Zt5_0) (y33 y34:Zt5_4) (y35:Zt5_2)
 |e1 (y36:Zt5_0) (y37:Zt5_1) (y38:List Int) (y39:Zt5_4) (y40:Zt5_0) (y41:Zt5_4)
noncomputable def Sp.B_5_15_0_0{R:Type}(r:Option E_5_15_0_0)(k0:Zt5_0->Zt5_1->List Int->Zt5_4->Zt5_0->Zt5_4->Zt5_4->Zt5_2->Option R)(k1:Zt5_0->Zt5_1->List Int->Zt5_4->Zt5_0->Zt5_4->Option R):Option R:=match r with
 |none=>none
 |some (.e0 y28 y29 y30 y31 y32 y33 y34 y35)=>k0 y28 y29 y30 y31 y32 y33 y34 y35
 |some (.e1 y36 y37 y38 y39 y40 y41)=>k1 y36 y37 y38 y39 y40 y41
theorem Bn_5_15_0_0{A R:Type}{r:Option E_5_15_0_0}{f:A->Option R}{k0:Zt5_0->Zt5_1->List Int->Zt5_4->Zt5_0->Zt5_4->Zt5_4->Zt5_2->Option A}{k1:Zt5_0->Zt5_1->List Int->Zt5_4->Zt5_0->Zt5_4->Option A}{l0:Zt5_0->Zt5_1->List Int->Zt5_4->Zt5_0->Zt5_4->Zt5_4->Zt5_2->Option R}{l1:Zt5_0->Zt5_1->List Int->Zt5_4->Zt5_0->Zt5_4->Option R}(h0:∀y28 y29 y30 y31 y32 y33 y34 y35,(k0 y28 y29 y30 y31 y32 y33 y34 y35).bind f=l0 y28 y29 y30 y31 y32 y33 y34 y35)(h1:∀y36 y37 y38 y39 y40 y41,(k1 y36 y37 y38 y39 y40 y41).bind f=l1 y36 y37 y38 y39 y40 y41):(B_5_15_0_0 r k0 k1).bind f=B_5_15_0_0 r l0 l1:=by
 cases r with
 |none=>rfl
 |some e=>cases e<;>first|apply h0|apply h1
noncomputable def Y_5_15_0_0{R:Type}(k:Ex->St->Option R):E_5_15_0_0->Option R
 | .e0 y28 y29 y30 y31 y32 y33 y34 y35=>k Ex.ret (sx 90 [(12,CV.bool (Ty.beq (Ty.pair (Ty.int i64) (Ty.pair (Ty.int u32) Ty.unit)) y34 (y35.2.1)))] [Blk.mem (CV.pure (Ty.pair (Ty.pair (Ty.slice (Ty.int u32)) (Ty.pair (Ty.slice (Ty.int i64)) (Ty.pair (Ty.int i64) Ty.unit))) (Ty.pair (Ty.arr 32 (Ty.int u8)) Ty.unit)) y28),Blk.mem (CV.pure (Ty.pair (Ty.int i64) (Ty.pair (Ty.int i64) (Ty.pair (Ty.arr 32 (Ty.int u8)) (Ty.pair (Ty.pair (Ty.int i64) (Ty.pair (Ty.slice (Ty.arr 32 (Ty.int u8))) (Ty.pair (Ty.slice (Ty.arr 32 (Ty.int u8))) Ty.unit))) Ty.unit)))) y29),Blk.mem (CV.pure (Ty.slice (Ty.int u32)) y30),Blk.mem (CV.pure (Ty.pair (Ty.int i64) (Ty.pair (Ty.int u32) Ty.unit)) y31),Blk.mem (CV.pure (Ty.pair (Ty.pair (Ty.slice (Ty.int u32)) (Ty.pair (Ty.slice (Ty.int i64)) (Ty.pair (Ty.int i64) Ty.unit))) (Ty.pair (Ty.arr 32 (Ty.int u8)) Ty.unit)) y32),Blk.mem (CV.pure (Ty.pair (Ty.int i64) (Ty.pair (Ty.int u32) Ty.unit)) y33)] 6)
 | .e1 y36 y37 y38 y39 y40 y41=>k Ex.ret (sx 90 [(12,CV.bool false)] [Blk.mem (CV.pure (Ty.pair (Ty.pair (Ty.slice (Ty.int u32)) (Ty.pair (Ty.slice (Ty.int i64)) (Ty.pair (Ty.int i64) Ty.unit))) (Ty.pair (Ty.arr 32 (Ty.int u8)) Ty.unit)) y36),Blk.mem (CV.pure (Ty.pair (Ty.int i64) (Ty.pair (Ty.int i64) (Ty.pair (Ty.arr 32 (Ty.int u8)) (Ty.pair (Ty.pair (Ty.int i64) (Ty.pair (Ty.slice (Ty.arr 32 (Ty.int u8))) (Ty.pair (Ty.slice (Ty.arr 32 (Ty.int u8))) Ty.unit))) Ty.unit)))) y37),Blk.mem (CV.pure (Ty.slice (Ty.int u32)) y38),Blk.mem (CV.pure (Ty.pair (Ty.int i64) (Ty.pair (Ty.int u32) Ty.unit)) y39),Blk.mem (CV.pure (Ty.pair (Ty.pair (Ty.slice (Ty.int u32)) (Ty.pair (Ty.slice (Ty.int i64)) (Ty.pair (Ty.int i64) Ty.unit))) (Ty.pair (Ty.arr 32 (Ty.int u8)) Ty.unit)) y40),Blk.mem (CV.pure (Ty.pair (Ty.int i64) (Ty.pair (Ty.int u32) Ty.unit)) y41)] 6)
noncomputable def Sp.S_5_15_0_0{R:Type}(k:E_5_15_0_0->Option R)(p0:Int)(p1:(List Int×List Int×Int×Unit)×List Int×Unit)(p2:Int×Int×List Int×(Int×List (List Int)×List (List Int)×Unit)×Unit)(p3:List Int)(p4:Int×Int×Unit)(p5:(List Int×List Int×Int×Unit)×List Int×Unit)(p6:Int×Int×Unit)(p7 p8 p9 p10 p11:Int)(p12:List Int)(p13:Int)(p14 p15:List (List Int))(p16:(List Int×List Int×Int×Unit)×List Int×Unit)(p17:Int×Int×Unit)(p18:((List Int×List Int×Int×Unit)×List Int×Unit)×(Int×Int×Unit)×Int×Unit)(p19 p20 p21 p22 p23:Int)(p24:List Int)(p25:Int)(p26 p27:List (List Int)):Option R:=
 bif p18.2.2.1 !=0 then B_5_15_1_0 (J_5_15_1_0 p0 p1 p2 p3 p4 p5 p6 p7 p8 p9 p10 p11 p12 p13 p14 p15 p16 p17 p18 0 0 0 0 0 (replicate 32 (0:Int)) 0 [] []) (fun y28 y29 y30 y31 y32 y33 y34 y35=>k (E_5_15_0_0.e0 y28 y29 y30 y31 y32 y33 y34 y35)) fun y36 y37 y38 y39 y40 y41=>k (E_5_15_0_0.e1 y36 y37 y38 y39 y40 y41)else B_5_15_1_0 (J_5_15_1_0 p0 p1 p2 p3 p4 p5 p6 p7 p8 p9 p10 p11 p12 p13 p14 p15 p16 p17 p18 p19 p20 p21 p22 p23 p24 p25 p26 p27) (fun y42 y43 y44 y45 y46 y47 y48 y49=>k (E_5_15_0_0.e0 y42 y43 y44 y45 y46 y47 y48 y49)) fun y50 y51 y52 y53 y54 y55=>k (E_5_15_0_0.e1 y50 y51 y52 y53 y54 y55)
noncomputable def Sp.J_5_15_0_0(p0:Int)(p1:(List Int×List Int×Int×Unit)×List Int×Unit)(p2:Int×Int×List Int×(Int×List (List Int)×List (List Int)×Unit)×Unit)(p3:List Int)(p4:Int×Int×Unit)(p5:(List Int×List Int×Int×Unit)×List Int×Unit)(p6:Int×Int×Unit)(p7 p8 p9 p10 p11:Int)(p12:List Int)(p13:Int)(p14 p15:List (List Int))(p16:(List Int×List Int×Int×Unit)×List Int×Unit)(p17:Int×Int×Unit)(p18:((List Int×List Int×Int×Unit)×List Int×Unit)×(Int×Int×Unit)×Int×Unit)(p19 p20 p21 p22 p23:Int)(p24:List Int)(p25:Int)(p26 p27:List (List Int)):Option E_5_15_0_0:=S_5_15_0_0 some p0 p1 p2 p3 p4 p5 p6 p7 p8 p9 p10 p11 p12 p13 p14 p15 p16 p17 p18 p19 p20 p21 p22 p23 p24 p25 p26 p27
noncomputable def O_5_15_0_0{R:Type}:Orc R:=orL T_5_15_0_0 (fun a=>J_5_15_0_0 a.1 a.2.1 a.2.2.1 a.2.2.2.1 a.2.2.2.2.1 a.2.2.2.2.2.1 a.2.2.2.2.2.2.1 a.2.2.2.2.2.2.2.1 a.2.2.2.2.2.2.2.2.1 a.2.2.2.2.2.2.2.2.2.1 a.2.2.2.2.2.2.2.2.2.2.1 a.2.2.2.2.2.2.2.2.2.2.2.1 a.2.2.2.2.2.2.2.2.2.2.2.2.1 a.2.2.2.2.2.2.2.2.2.2.2.2.2.1 a.2.2.2.2.2.2.2.2.2.2.2.2.2.2.1 a.2.2.2.2.2.2.2.2.2.2.2.2.2.2.2.1 a.2.2.2.2.2.2.2.2.2.2.2.2.2.2.2.2.1 a.2.2.2.2.2.2.2.2.2.2.2.2.2.2.2.2.2.1 a.2.2.2.2.2.2.2.2.2.2.2.2.2.2.2.2.2.2.1 a.2.2.2.2.2.2.2.2.2.2.2.2.2.2.2.2.2.2.2.1 a.2.2.2.2.2.2.2.2.2.2.2.2.2.2.2.2.2.2.2.2.1 a.2.2.2.2.2.2.2.2.2.2.2.2.2.2.2.2.2.2.2.2.2.1 a.2.2.2.2.2.2.2.2.2.2.2.2.2.2.2.2.2.2.2.2.2.2.1 a.2.2.2.2.2.2.2.2.2.2.2.2.2.2.2.2.2.2.2.2.2.2.2.1 a.2.2.2.2.2.2.2.2.2.2.2.2.2.2.2.2.2.2.2.2.2.2.2.2.1 a.2.2.2.2.2.2.2.2.2.2.2.2.2.2.2.2.2.2.2.2.2.2.2.2.2.1 a.2.2.2.2.2.2.2.2.2.2.2.2.2.2.2.2.2.2.2.2.2.2.2.2.2.2.1 a.2.2.2.2.2.2.2.2.2.2.2.2.2.2.2.2.2.2.2.2.2.2.2.2.2.2.2.1) Y_5_15_0_0
theorem OK_5_15_0_0{R:Type}:okF (R:=R) sm_5 2 (nf 15 0) O_5_15_0_0:=jp noO_ok (os:=[O_5_15_1_0]) ⟨OK_5_15_1_0,trivial⟩ T_5_15_0_0 (fun R k a=>S_5_15_0_0 k a.1 a.2.1 a.2.2.1 a.2.2.2.1 a.2.2.2.2.1 a.2.2.2.2.2.1 a.2.2.2.2.2.2.1 a.2.2.2.2.2.2.2.1 a.2.2.2.2.2.2.2.2.1 a.2.2.2.2.2.2.2.2.2.1 a.2.2.2.2.2.2.2.2.2.2.1 a.2.2.2.2.2.2.2.2.2.2.2.1 a.2.2.2.2.2.2.2.2.2.2.2.2.1 a.2.2.2.2.2.2.2.2.2.2.2.2.2.1 a.2.2.2.2.2.2.2.2.2.2.2.2.2.2.1 a.2.2.2.2.2.2.2.2.2.2.2.2.2.2.2.1 a.2.2.2.2.2.2.2.2.2.2.2.2.2.2.2.2.1 a.2.2.2.2.2.2.2.2.2.2.2.2.2.2.2.2.2.1 a.2.2.2.2.2.2.2.2.2.2.2.2.2.2.2.2.2.2.1 a.2.2.2.2.2.2.2.2.2.2.2.2.2.2.2.2.2.2.2.1 a.2.2.2.2.2.2.2.2.2.2.2.2.2.2.2.2.2.2.2.2.1 a.2.2.2.2.2.2.2.2.2.2.2.2.2.2.2.2.2.2.2.2.2.1 a.2.2.2.2.2.2.2.2.2.2.2.2.2.2.2.2.2.2.2.2.2.2.1 a.2.2.2.2.2.2.2.2.2.2.2.2.2.2.2.2.2.2.2.2.2.2.2.1 a.2.2.2.2.2.2.2.2.2.2.2.2.2.2.2.2.2.2.2.2.2.2.2.2.1 a.2.2.2.2.2.2.2.2.2.2.2.2.2.2.2.2.2.2.2.2.2.2.2.2.2.1 a.2.2.2.2.2.2.2.2.2.2.2.2.2.2.2.2.2.2.2.2.2.2.2.2.2.2.1 a.2.2.2.2.2.2.2.2.2.2.2.2.2.2.2.2.2.2.2.2.2.2.2.2.2.2.2.1) Y_5_15_0_0 (fun k a=>by kernel_rfl) (fun Y a=>by
 unfold S_5_15_0_0
 repeat' first|apply gdN|apply condN|(apply Bn_5_15_1_0<;>intros)|rfl) (ok0 _)
noncomputable def g_5_15{R:Type}:List CV->List Blk->(CV->List Blk->Option R)->Option R:=evFnL sm_5 FU (ovr noO (evFn sm_5 fns FU 2)) (mkT (fB fns 15) [O_5_15_0_0]) (fO fns 15)
theorem g_5_15_ok{R:Type}(args:List CV)(hp:List Blk)(k:CV->List Blk->Option R)(r:R)(h:g_5_15 args hp k=some r):evFn sm_5 fns FU 3 15 args hp k=some r:=runG noO_ok (os:=[O_5_15_0_0]) ⟨OK_5_15_0_0,trivial⟩ h
noncomputable def ov_5_5{R:Type}:Nat->Option (List CV->List Blk->(CV->List Blk->Option R)->Option R):=fun f'=>bif Nat.beq f' 15 then some g_5_15 else none
theorem ov_5_5_ok{R:Type}:OvrOK (R:=R) ov_5_5 (evFn sm_5 fns FU 3):=by
 intro f' g h args hp k r hg
 dsimp only[ov_5_5]at h
 by_cases h15:f'=15
 ·subst h15
  injection h with h
  subst h
  exact evFn_le 0 (g_5_15_ok _ _ _ _ hg)
 rw[nbeq_ne h15,cond_false]at h
 cases h
noncomputable def T_5_0:PS:=⟨64,[(4,.kc (.ptr 0 [])),(5,.kc (.ptr 1 [])),(6,.kc (.ptr 2 [])),(7,.kc (.ptr 3 [])),(9,.kc (.ptr 4 [])),(10,.kc (.ptr 5 [])),(11,.hv (.int .i64)),(12,.hv (.int .i64))],[.mem (.hv Zy5_3),.mem (.hv Zy5_5),.mem (.hv (.slice (.int .u32))),.mem (.hv Zy5_7),.mem (.hv Zy5_3),.mem (.hv Zy5_7)],0⟩
inductive Sp.E_5_0 where
 |e0 (p7:Int×Int×Unit)
 |e1
 |e2 (y34:Zt5_4) (y35:Zt5_2)
noncomputable def Sp.B_5_0{R:Type}(r:Option E_5_0)(k0:Zt5_4->Option R)(k1:Option R)(k2:Zt5_4->Zt5_2->Option R):Option R:=match r with
 |none=>none
 |some (.e0 p7)=>k0 p7
 |some (.e1)=>k1
 |some (.e2 y34 y35)=>k2 y34 y35
noncomputable def Y_5_0{R:Type}(k:Ex->St->Option R):E_5_0->Option R
 | .e0 p7=>k Ex.ret (sx 64 [(8,CV.bool (Ty.beq (Ty.pair (Ty.int i64) (Ty.pair (Ty.int u32) Ty.unit)) p7 (0,0,PUnit.unit)))] [])
 | .e1=>k Ex.ret (sx 64 [(8,CV.bool false)] [])
 | .e2 y34 y35=>k Ex.ret (sx 64 [(8,CV.bool (Ty.beq (Ty.pair (Ty.int i64) (Ty.pair (Ty.int u32) Ty.unit)) y34 (y35.2.1)))] [])
noncomputable def Sp.S_5_0{R:Type}(k:E_5_0->Option R)(p0 p1:Int)(p2:(List Int×List Int×Int×Unit)×List Int×Unit)(p3:Int×Int×List Int×(Int×List (List Int)×List (List Int)×Unit)×Unit)(p4:List Int)(p5:Int×Int×Unit)(p6:(List Int×List Int×Int×Unit)×List Int×Unit)(p7:Int×Int×Unit):Option R:=
 bif p1 !=0 then bif p0==p1 then gd (p_38 (0,0,0,(0,0,replicate 32 (0:Int),(0,[],[],PUnit.unit),PUnit.unit),PUnit.unit)) (bif(v_38 (0,0,0,(0,0,replicate 32 (0:Int),(0,[],[],PUnit.unit),PUnit.unit),PUnit.unit)).1 then gd (p_28 p6 (([],[],0,PUnit.unit),replicate 32 (0:Int),PUnit.unit)) (bif(v_28 p6 (([],[],0,PUnit.unit),replicate 32 (0:Int),PUnit.unit)).1 then k (E_5_0.e0 p7)else k (E_5_0.e1))else k (E_5_0.e1))else k (E_5_0.e1)else gd (p_26 (p2,p5,0,PUnit.unit) p3 p4) (bif(v_26 (p2,p5,0,PUnit.unit) p3 p4).1.2.2.1 !=0 then bif(v_26 (p2,p5,0,PUnit.unit) p3 p4).1.2.2.1 !=18 then bif p0==(v_26 (p2,p5,0,PUnit.unit) p3 p4).1.2.2.1 then gd (p_38 (0,0,0,(0,0,replicate 32 (0:Int),(0,[],[],PUnit.unit),PUnit.unit),PUnit.unit)) (bif(v_38 (0,0,0,(0,0,replicate 32 (0:Int),(0,[],[],PUnit.unit),PUnit.unit),PUnit.unit)).1 then gd (p_28 p6 (([],[],0,PUnit.unit),replicate 32 (0:Int),PUnit.unit)) (bif(v_28 p6 (([],[],0,PUnit.unit),replicate 32 (0:Int),PUnit.unit)).1 then k (E_5_0.e0 p7)else k (E_5_0.e1))else k (E_5_0.e1))else k (E_5_0.e1)else B_5_15_0_0 (J_5_15_0_0 p0 p2 p3 p4 p5 p6 p7 0 0 0 0 0 (replicate 32 (0:Int)) 0 [] [] p6 p7 ((v_26 (p2,p5,0,PUnit.unit) p3 p4).1) 0 0 0 0 0 (replicate 32 (0:Int)) 0 [] []) (fun y28 y29 y30 y31 y32 y33 y34 y35=>k (E_5_0.e2 y34 y35)) fun y36 y37 y38 y39 y40 y41=>k (E_5_0.e1)else B_5_15_0_0 (J_5_15_0_0 p0 p2 p3 p4 p5 p6 p7 0 0 0 0 0 (replicate 32 (0:Int)) 0 [] [] p6 p7 ((v_26 (p2,p5,0,PUnit.unit) p3 p4).1) 0 0 0 0 0 (replicate 32 (0:Int)) 0 [] []) (fun y42 y43 y44 y45 y46 y47 y48 y49=>k (E_5_0.e2 y48 y49)) fun y50 y51 y52 y53 y54 y55=>k (E_5_0.e1))
noncomputable def Sp.J_5_0(p0 p1:Int)(p2:(List Int×List Int×Int×Unit)×List Int×Unit)(p3:Int×Int×List Int×(Int×List (List Int)×List (List Int)×Unit)×Unit)(p4:List Int)(p5:Int×Int×Unit)(p6:(List Int×List Int×Int×Unit)×List Int×Unit)(p7:Int×Int×Unit):Option E_5_0:=S_5_0 some p0 p1 p2 p3 p4 p5 p6 p7
noncomputable def O_5_0{R:Type}:Orc R:=orL T_5_0 (fun a=>J_5_0 a.1 a.2.1 a.2.2.1 a.2.2.2.1 a.2.2.2.2.1 a.2.2.2.2.2.1 a.2.2.2.2.2.2.1 a.2.2.2.2.2.2.2.1) Y_5_0
theorem OK_5_0{R:Type}:okF (R:=R) sm_5 3 (nf 5 0) O_5_0:=jp ov_5_5_ok (os:=[]) trivial T_5_0 (fun R k a=>S_5_0 k a.1 a.2.1 a.2.2.1 a.2.2.2.1 a.2.2.2.2.1 a.2.2.2.2.2.1 a.2.2.2.2.2.2.1 a.2.2.2.2.2.2.2.1) Y_5_0 (fun k a=>by kernel_rfl) (fun Y a=>by
 unfold S_5_0
 repeat' first|apply gdN|apply condN|(apply Bn_5_15_0_0<;>intros)|rfl) (ok0 _)
noncomputable def F_5(a0:(((List Int)×((List Int)×(Int×Unit)))×((List Int)×Unit)))(a1:(Int×(Int×((List Int)×((Int×((List (List Int))×((List (List Int))×Unit)))×Unit)))))(a2:(List Int))(a3:(Int×(Int×Unit))):Option (Bool) :=
 gd p_7 (bif !v_7.1 then some false else gd (p_8 a0) (bif(v_8 a0).1 then some true else gd (p_9 a1) (bif(v_9 a1).1 then some true else bif decide ((↑(length a2):Int)>100)then some true else gd (p_23 a0 a1 a2 a3) (gd (p_12 a0) (bif(v_12 a0).1 then gd (p_13 a3) (bif(v_13 a3).1 then gd (p_24 a1 a0) (bif(v_24 a1 a0).1 then bif(↑(length a2):Int)==a1.2.1 then gd (p_14 (0,0,0,(0,0,replicate 32 (0:Int),(0,[],[],PUnit.unit),PUnit.unit),PUnit.unit) a0 a1) (B_5_0 (J_5_0 ((v_23 a0 a1 a2 a3).2.2.1) ((v_14 (0,0,0,(0,0,replicate 32 (0:Int),(0,[],[],PUnit.unit),PUnit.unit),PUnit.unit) a0 a1).1) a0 a1 a2 a3 ((v_23 a0 a1 a2 a3).1) ((v_23 a0 a1 a2 a3).2.1)) (fun y19=>some (Ty.beq (Ty.pair (Ty.int i64) (Ty.pair (Ty.int u32) Ty.unit)) y19 (0,0,PUnit.unit))) (some false) fun y20 y21=>some (Ty.beq (Ty.pair (Ty.int i64) (Ty.pair (Ty.int u32) Ty.unit)) y20 (y21.2.1)))else B_5_0 (J_5_0 ((v_23 a0 a1 a2 a3).2.2.1) 1 a0 a1 a2 a3 ((v_23 a0 a1 a2 a3).1) ((v_23 a0 a1 a2 a3).2.1)) (fun y22=>some (Ty.beq (Ty.pair (Ty.int i64) (Ty.pair (Ty.int u32) Ty.unit)) y22 (0,0,PUnit.unit))) (some false) fun y23 y24=>some (Ty.beq (Ty.pair (Ty.int i64) (Ty.pair (Ty.int u32) Ty.unit)) y23 (y24.2.1))else B_5_0 (J_5_0 ((v_23 a0 a1 a2 a3).2.2.1) 1 a0 a1 a2 a3 ((v_23 a0 a1 a2 a3).1) ((v_23 a0 a1 a2 a3).2.1)) (fun y25=>some (Ty.beq (Ty.pair (Ty.int i64) (Ty.pair (Ty.int u32) Ty.unit)) y25 (0,0,PUnit.unit))) (some false) fun y26 y27=>some (Ty.beq (Ty.pair (Ty.int i64) (Ty.pair (Ty.int u32) Ty.unit)) y26 (y27.2.1)))else B_5_0 (J_5_0 ((v_23 a0 a1 a2 a3).2.2.1) 1 a0 a1 a2 a3 ((v_23 a0 a1 a2 a3).1) ((v_23 a0 a1 a2 a3).2.1)) (fun y28=>some (Ty.beq (Ty.pair (Ty.int i64) (Ty.pair (Ty.int u32) Ty.unit)) y28 (0,0,PUnit.unit))) (some false) fun y29 y30=>some (Ty.beq (Ty.pair (Ty.int i64) (Ty.pair (Ty.int u32) Ty.unit)) y29 (y30.2.1)))else B_5_0 (J_5_0 ((v_23 a0 a1 a2 a3).2.2.1) 1 a0 a1 a2 a3 ((v_23 a0 a1 a2 a3).1) ((v_23 a0 a1 a2 a3).2.1)) (fun y31=>some (Ty.beq (Ty.pair (Ty.int i64) (Ty.pair (Ty.int u32) Ty.unit)) y31 (0,0,PUnit.unit))) (some false) fun y32 y33=>some (Ty.beq (Ty.pair (Ty.int i64) (Ty.pair (Ty.int u32) Ty.unit)) y32 (y33.2.1)))))))
theorem run_5(a0:(((List Int)×((List Int)×(Int×Unit)))×((List Int)×Unit)))(a1:(Int×(Int×((List Int)×((Int×((List (List Int))×((List (List Int))×Unit)))×Unit)))))(a2:(List Int))(a3:(Int×(Int×Unit))){b:Bool}(h:F_5 a0 a1 a2 a3=some b):evFn sm_5 fns FU 4 5 (ofH A_5 (a0,a1,a2,a3,())) [] bk=some b:=runG ov_5_5_ok (os:=[O_5_0]) ⟨OK_5_0,trivial⟩ (Eq.trans (by kernel_rfl) h)
end
end Go.Ev
namespace Go.Proofs
open Go.Shelf
noncomputable def Tryz.clone90_ren:Go.Shelf.Ren:=⟨fun|41=>90|n=>n,fun|22=>31|23=>37|4=>4|n=>n,fun|n=>n⟩
theorem Tryz.clone90:Go.Proofs.SlLaysE0.n41 Tryz.prog Tryz.clone90_ren:= {
 mixed:=by kernel_rfl
 f41:=⟨Tryz.f90.name,by decide,Tryz.func90.trans (congrArg some (by kernel_rfl))⟩
 t4:=Tryz.underlying4
 a4:=Tryz.isAgg4
 z4:=Tryz.sizeOf4
 v4:=Tryz.zeroValue4
 t22:=Tryz.underlying31
 a22:=Tryz.isAgg31
 z22:=Tryz.sizeOf31
 v22:=Tryz.zeroValue31}
noncomputable def Tryz.clone91_ren:Go.Shelf.Ren:=⟨fun|41=>91|n=>n,fun|22=>32|23=>3|4=>4|n=>n,fun|n=>n⟩
theorem Tryz.clone91:Go.Proofs.SlLaysE0.n41 Tryz.prog Tryz.clone91_ren:= {
 mixed:=by kernel_rfl
 f41:=⟨Tryz.f91.name,by decide,Tryz.func91.trans (congrArg some (by kernel_rfl))⟩
 t4:=Tryz.underlying4
 a4:=Tryz.isAgg4
 z4:=Tryz.sizeOf4
 v4:=Tryz.zeroValue4
 t22:=Tryz.underlying32
 a22:=Tryz.isAgg32
 z22:=Tryz.sizeOf32
 v22:=Tryz.zeroValue32}
end Go.Proofs
namespace Go.Ev
open Go Go.Proofs Go.RowKit
set_option maxRecDepth 100000
set_option maxHeartbeats 4000000
theorem info90:∃i,Tryz.prog.info? 37=some i/\i.zero=some (.int .u32 0)/\i.size=1/\i.bytes=4:=⟨_,rfl,by kernel_rfl,by kernel_rfl,by kernel_rfl⟩
theorem sok_90:SummOK Tryz.prog 90 (vecS (.int .u32) 37 4):=by
 obtain⟨i,hi,h0,h1,h2⟩:=info90
 exact clone_vec (by kernel_rfl) (by decide)
  (fun b off n c news w hl hn hb hc h3=>AnyE.slices_Clone Tryz.clone90 i _ 1 4 hi h0 h1 h2 (by kernel_rfl) (by decide) Tryz.sizeOf37 b off n c news w hl hn hb hc h3)
  (fun n c w=>AnyE.slices_Clone_nil Tryz.clone90 n c w)
  (fun a c w=>clone_zero Tryz.clone90 i _ 1 4 hi h0 h1 h2 (by kernel_rfl) (by decide) Tryz.sizeOf37 a c w)
theorem info91:∃i,Tryz.prog.info? 3=some i/\i.zero=some (.int .i64 0)/\i.size=1/\i.bytes=8:=⟨_,rfl,by kernel_rfl,by kernel_rfl,by kernel_rfl⟩
theorem sok_91:SummOK Tryz.prog 91 (vecS (.int .i64) 3 8):=by
 obtain⟨i,hi,h0,h1,h2⟩:=info91
 exact clone_vec (by kernel_rfl) (by decide)
  (fun b off n c news w hl hn hb hc h3=>AnyE.slices_Clone Tryz.clone91 i _ 1 8 hi h0 h1 h2 (by kernel_rfl) (by decide) Tryz.sizeOf3 b off n c news w hl hn hb hc h3)
  (fun n c w=>AnyE.slices_Clone_nil Tryz.clone91 n c w)
  (fun a c w=>clone_zero Tryz.clone91 i _ 1 8 hi h0 h1 h2 (by kernel_rfl) (by decide) Tryz.sizeOf3 a c w)
noncomputable def grow147_ren:Go.Shelf.Ren:=⟨fun|4=>147|n=>n,fun|25=>37|22=>31|20=>20|n=>n,fun|n=>n⟩
theorem grow147_lay:Go.Proofs.Lays8.n4 Tryz.prog grow147_ren:= {
 mixed:=by kernel_rfl
 f4:=⟨Tryz.f147.name,by decide,Tryz.func147.trans (congrArg some (by kernel_rfl))⟩
 t0:=Tryz.underlying0
 a0:=Tryz.isAgg0
 z0:=Tryz.sizeOf0
 v0:=Tryz.zeroValue0
 t3:=Tryz.underlying3
 a3:=Tryz.isAgg3
 z3:=Tryz.sizeOf3
 v3:=Tryz.zeroValue3
 t4:=Tryz.underlying4
 a4:=Tryz.isAgg4
 z4:=Tryz.sizeOf4
 v4:=Tryz.zeroValue4
 t9:=Tryz.underlying9
 a9:=Tryz.isAgg9
 z9:=Tryz.sizeOf9
 v9:=Tryz.zeroValue9
 t20:=Tryz.underlying20
 a20:=Tryz.isAgg20
 z20:=Tryz.sizeOf20
 v20:=Tryz.zeroValue20
 t22:=Tryz.underlying31
 a22:=Tryz.isAgg31
 z22:=Tryz.sizeOf31
 v22:=Tryz.zeroValue31}
theorem growinfo147:∃i,Tryz.prog.info? 37=some i/\i.zero=some (.int .u32 0)/\i.size=1/\i.bytes=4:=⟨_,rfl,by kernel_rfl,by kernel_rfl,by kernel_rfl⟩
theorem sok_147:SummOK Tryz.prog 147 (growS (.int .u32) 37 4):=by
 obtain⟨i,hi,h0,h1,h2⟩:=growinfo147
 exact grow_vec (by kernel_rfl) (by decide) (fun n w hn hb=>grow_calls grow147_lay i _ 1 4 hi h0 h1 h2 (by decide) (by decide) (by rfl) n w hn hb)
theorem sok_74:SummOK Tryz.prog 74 s_74:=sokN hm0 run_74 trivial
theorem sok_75:SummOK Tryz.prog 75 s_75:=sokN hm0 run_75 trivial
theorem sok_29:SummOK Tryz.prog 29 s_29:=sokN hm0 run_29 ⟨sok_74,sok_75,trivial⟩
theorem sok_83:SummOK Tryz.prog 83 s_83:=sokN hm0 run_83 trivial
theorem sok_119:SummOK Tryz.prog 119 s_119:=sokN hm0 run_119 trivial
theorem sok_81:SummOK Tryz.prog 81 s_81:=sokS hm0 run_81 ⟨sok_83,sok_119,trivial⟩
theorem sok_40:SummOK Tryz.prog 40 s_40:=sokN hm0 run_40 ⟨sok_81,trivial⟩
theorem sok_43:SummOK Tryz.prog 43 s_43:=sokN hm0 run_43 trivial
theorem sok_37:SummOK Tryz.prog 37 s_37:=sokN hm0 run_37 ⟨sok_40,sok_43,trivial⟩
theorem sok_39:SummOK Tryz.prog 39 s_39:=sokN hm0 run_39 trivial
theorem sok_41:SummOK Tryz.prog 41 s_41:=sokN hm0 run_41 trivial
theorem sok_42:SummOK Tryz.prog 42 s_42:=sokS hm0 run_42 trivial
theorem sok_109:SummOK Tryz.prog 109 s_109:=sokS hm0 run_109 trivial
theorem sok_120:SummOK Tryz.prog 120 s_120:=sokN hm0 run_120 trivial
theorem sok_135:SummOK Tryz.prog 135 s_135:=sokS hm0 run_135 trivial
theorem sok_136:SummOK Tryz.prog 136 s_136:=sokS hm0 run_136 trivial
theorem sok_121:SummOK Tryz.prog 121 s_121:=sokS hm0 run_121 ⟨sok_135,sok_136,sok_145,trivial⟩
theorem sok_82:SummOK Tryz.prog 82 s_82:=sokS hm0 run_82 ⟨sok_29,sok_109,sok_120,sok_121,trivial⟩
theorem sok_106:SummOK Tryz.prog 106 s_106:=sokN hm0 run_106 ⟨sok_109,trivial⟩
theorem sok_84:SummOK Tryz.prog 84 s_84:=sokS hm0 run_84 trivial
theorem sok_137:SummOK Tryz.prog 137 s_137:=sokN hm0 run_137 trivial
theorem sok_148:SummOK Tryz.prog 148 s_148:=sokN hm0 run_148 trivial
theorem sok_146:SummOK Tryz.prog 146 s_146:=sokN hm0 run_146 ⟨sok_148,trivial⟩
theorem sok_122:SummOK Tryz.prog 122 s_122:=sokN hm0 run_122 ⟨sok_119,sok_137,sok_146,trivial⟩
theorem sok_85:SummOK Tryz.prog 85 s_85:=sokN hm0 run_85 ⟨sok_122,trivial⟩
theorem sok_86:SummOK Tryz.prog 86 s_86:=sokN hm0 run_86 ⟨sok_122,trivial⟩
theorem sok_87:SummOK Tryz.prog 87 s_87:=sokN hm0 run_87 ⟨sok_122,trivial⟩
theorem sok_45:SummOK Tryz.prog 45 s_45:=sokN hm0 run_45 ⟨sok_83,sok_84,sok_85,sok_86,sok_87,trivial⟩
theorem sok_140:SummOK Tryz.prog 140 s_140:=sokS hm0 run_140 ⟨sok_147,trivial⟩
theorem sok_123:SummOK Tryz.prog 123 s_123:=sokN hm0 run_123 ⟨sok_45,sok_82,sok_109,sok_122,sok_135,sok_140,trivial⟩
theorem sok_88:SummOK Tryz.prog 88 s_88:=sokN hm0 run_88 ⟨sok_29,sok_82,sok_106,sok_123,trivial⟩
theorem sok_46:SummOK Tryz.prog 46 s_46:=sokN hm0 run_46 ⟨sok_88,trivial⟩
theorem sok_44:SummOK Tryz.prog 44 s_44:=sokN hm0 run_44 ⟨sok_46,sok_82,trivial⟩
theorem sok_89:SummOK Tryz.prog 89 s_89:=sokN hm0 run_89 trivial
theorem sok_47:SummOK Tryz.prog 47 s_47:=sokN hm0 run_47 ⟨sok_89,trivial⟩
theorem sok_51:SummOK Tryz.prog 51 s_51:=sokS hm0 run_51 ⟨sok_81,trivial⟩
theorem sok_124:SummOK Tryz.prog 124 s_124:=sokN hm0 run_124 ⟨sok_74,trivial⟩
theorem sok_92:SummOK Tryz.prog 92 s_92:=sokS hm0 run_92 ⟨sok_90,sok_91,sok_124,trivial⟩
theorem sok_93:SummOK Tryz.prog 93 s_93:=sokS hm0 run_93 ⟨sok_90,sok_91,sok_124,trivial⟩
theorem sok_10:SummOK Tryz.prog 10 s_10:=sokS hm0 run_10 ⟨sok_29,sok_37,sok_39,sok_40,sok_41,sok_42,sok_43,sok_44,sok_45,sok_46,sok_47,sok_51,sok_90,sok_91,sok_92,sok_93,trivial⟩
theorem sok_73:SummOK Tryz.prog 73 s_73:=sokN hm0 run_73 trivial
theorem sok_28:SummOK Tryz.prog 28 s_28:=sokN hm0 run_28 ⟨sok_73,trivial⟩
theorem sok_143:SummOK Tryz.prog 143 s_143:=sokN hm0 run_143 trivial
theorem sok_144:SummOK Tryz.prog 144 s_144:=sokN hm0 run_144 trivial
theorem sok_133:SummOK Tryz.prog 133 s_133:=sokN hm0 run_133 ⟨sok_143,sok_144,trivial⟩
theorem sok_117:SummOK Tryz.prog 117 s_117:=sokS hm0 run_117 ⟨sok_133,trivial⟩
theorem sok_79:SummOK Tryz.prog 79 s_79:=sokS hm0 run_79 ⟨sok_117,trivial⟩
theorem sok_34:SummOK Tryz.prog 34 s_34:=sokS hm0 run_34 ⟨sok_75,sok_79,trivial⟩
theorem sok_35:SummOK Tryz.prog 35 s_35:=sokS hm0 run_35 trivial
theorem sok_36:SummOK Tryz.prog 36 s_36:=sokN hm0 run_36 trivial
theorem sok_118:SummOK Tryz.prog 118 s_118:=sokN hm0 run_118 trivial
theorem sok_80:SummOK Tryz.prog 80 s_80:=sokN hm0 run_80 ⟨sok_118,trivial⟩
theorem sok_38:SummOK Tryz.prog 38 s_38:=sokN hm0 run_38 ⟨sok_80,trivial⟩
theorem sok_7:SummOK Tryz.prog 7 s_7:=sokN hm0 run_7 ⟨sok_10,sok_28,sok_34,sok_35,sok_36,sok_37,sok_38,trivial⟩
theorem sok_8:SummOK Tryz.prog 8 s_8:=sokN hm0 run_8 trivial
theorem sok_9:SummOK Tryz.prog 9 s_9:=sokN hm0 run_9 trivial
theorem sok_96:SummOK Tryz.prog 96 s_96:=sokN hm0 run_96 trivial
theorem sok_54:SummOK Tryz.prog 54 s_54:=sokN hm0 run_54 ⟨sok_96,trivial⟩
theorem sok_55:SummOK Tryz.prog 55 s_55:=sokN hm0 run_55 trivial
theorem sok_12:SummOK Tryz.prog 12 s_12:=sokN hm0 run_12 ⟨sok_54,sok_55,trivial⟩
theorem sok_13:SummOK Tryz.prog 13 s_13:=sokN hm0 run_13 trivial
theorem sok_30:SummOK Tryz.prog 30 s_30:=sokS hm0 run_30 trivial
theorem sok_95:SummOK Tryz.prog 95 s_95:=sokN hm0 run_95 trivial
theorem sok_97:SummOK Tryz.prog 97 s_97:=sokS hm0 run_97 trivial
theorem sok_131:SummOK Tryz.prog 131 s_131:=sokS hm0 run_131 trivial
theorem sok_141:SummOK Tryz.prog 141 s_141:=sokN hm0 run_141 trivial
theorem sok_142:SummOK Tryz.prog 142 s_142:=sokN hm0 run_142 trivial
theorem sok_132:SummOK Tryz.prog 132 s_132:=sokN hm0 run_132 ⟨sok_141,sok_142,trivial⟩
theorem sok_116:SummOK Tryz.prog 116 s_116:=sokN hm0 run_116 ⟨sok_131,sok_132,trivial⟩
theorem sok_98:SummOK Tryz.prog 98 s_98:=sokN hm0 run_98 ⟨sok_116,trivial⟩
theorem sok_99:SummOK Tryz.prog 99 s_99:=sokN hm0 run_99 ⟨sok_116,trivial⟩
theorem sok_100:SummOK Tryz.prog 100 s_100:=sokN hm0 run_100 ⟨sok_116,trivial⟩
theorem sok_57:SummOK Tryz.prog 57 s_57:=sokN hm0 run_57 ⟨sok_95,sok_97,sok_98,sok_99,sok_100,trivial⟩
theorem sok_107:SummOK Tryz.prog 107 s_107:=sokN hm0 run_107 trivial
theorem sok_113:SummOK Tryz.prog 113 s_113:=sokN hm0 run_113 trivial
theorem sok_114:SummOK Tryz.prog 114 s_114:=sokS hm0 run_114 trivial
theorem sok_77:SummOK Tryz.prog 77 s_77:=sokS hm0 run_77 ⟨sok_12,sok_30,sok_107,sok_113,sok_114,trivial⟩
theorem sok_78:SummOK Tryz.prog 78 s_78:=sokN hm0 run_78 ⟨sok_116,trivial⟩
theorem sok_32:SummOK Tryz.prog 32 s_32:=sokN hm0 run_32 ⟨sok_30,sok_57,sok_77,sok_78,trivial⟩
theorem sok_104:SummOK Tryz.prog 104 s_104:=sokN hm0 run_104 ⟨sok_30,sok_32,trivial⟩
theorem sok_63:SummOK Tryz.prog 63 s_63:=sokN hm0 run_63 ⟨sok_12,sok_30,sok_104,trivial⟩
theorem sok_18:SummOK Tryz.prog 18 s_18:=sokN hm0 run_18 ⟨sok_63,trivial⟩
theorem sok_53:SummOK Tryz.prog 53 s_53:=sokN hm0 run_53 ⟨sok_95,trivial⟩
theorem sok_24:SummOK Tryz.prog 24 s_24:=sokN hm0 run_24 ⟨sok_53,trivial⟩
theorem sok_56:SummOK Tryz.prog 56 s_56:=sokN hm0 run_56 ⟨sok_30,sok_63,trivial⟩
theorem sok_58:SummOK Tryz.prog 58 s_58:=sokN hm0 run_58 trivial
theorem sok_14:SummOK Tryz.prog 14 s_14:=sokN hm0 run_14 ⟨sok_18,sok_24,sok_56,sok_57,sok_58,trivial⟩
theorem sok_64:SummOK Tryz.prog 64 s_64:=sokN hm0 run_64 ⟨sok_29,sok_37,sok_39,sok_40,sok_41,sok_43,trivial⟩
theorem sok_105:SummOK Tryz.prog 105 s_105:=sokN hm0 run_105 ⟨sok_29,sok_120,sok_123,trivial⟩
theorem sok_65:SummOK Tryz.prog 65 s_65:=sokS hm0 run_65 ⟨sok_36,sok_44,sok_82,sok_93,sok_105,sok_106,trivial⟩
theorem sok_19:SummOK Tryz.prog 19 s_19:=sokS hm0 run_19 ⟨sok_42,sok_64,sok_65,trivial⟩
theorem sok_68:SummOK Tryz.prog 68 s_68:=sokS hm0 run_68 ⟨sok_41,sok_42,sok_64,sok_90,sok_91,sok_93,trivial⟩
theorem sok_23:SummOK Tryz.prog 23 s_23:=sokS hm0 run_23 ⟨sok_10,sok_19,sok_29,sok_35,sok_39,sok_40,sok_41,sok_68,trivial⟩
theorem sok_112:SummOK Tryz.prog 112 s_112:=sokS hm0 run_112 trivial
theorem sok_76:SummOK Tryz.prog 76 s_76:=sokS hm0 run_76 ⟨sok_112,trivial⟩
theorem sok_31:SummOK Tryz.prog 31 s_31:=sokS hm0 run_31 ⟨sok_76,trivial⟩
theorem sok_101:SummOK Tryz.prog 101 s_101:=sokN hm0 run_101 trivial
theorem sok_60:SummOK Tryz.prog 60 s_60:=sokS hm0 run_60 ⟨sok_13,sok_54,sok_101,trivial⟩
theorem sok_103:SummOK Tryz.prog 103 s_103:=sokS hm0 run_103 ⟨sok_13,sok_54,sok_101,trivial⟩
theorem sok_61:SummOK Tryz.prog 61 s_61:=sokS hm0 run_61 ⟨sok_103,trivial⟩
theorem sok_62:SummOK Tryz.prog 62 s_62:=sokN hm0 run_62 trivial
theorem sok_17:SummOK Tryz.prog 17 s_17:=sokS hm0 run_17 ⟨sok_18,sok_31,sok_60,sok_61,sok_62,trivial⟩
theorem sok_66:SummOK Tryz.prog 66 s_66:=sokS hm0 run_66 ⟨sok_12,sok_13,sok_30,sok_32,sok_56,sok_103,sok_107,trivial⟩
theorem sok_22:SummOK Tryz.prog 22 s_22:=sokS hm0 run_22 ⟨sok_66,trivial⟩
theorem sok_69:SummOK Tryz.prog 69 s_69:=sokS hm0 run_69 ⟨sok_61,sok_62,trivial⟩
theorem sok_70:SummOK Tryz.prog 70 s_70:=sokN hm0 run_70 trivial
theorem sok_71:SummOK Tryz.prog 71 s_71:=sokS hm0 run_71 ⟨sok_70,trivial⟩
theorem sok_26:SummOK Tryz.prog 26 s_26:=sokS hm0 run_26 ⟨sok_17,sok_18,sok_22,sok_69,sok_70,sok_71,trivial⟩
theorem sok_59:SummOK Tryz.prog 59 s_59:=sokN hm0 run_59 ⟨sok_80,trivial⟩
theorem call_5{R:Type}(n base:Nat):CallOK Tryz.prog base (rokOf Tryz.prog smB fns) (evFn (R:=R) sm_5 fns FU n):=callG hm0 (l:=[(7,s_7),(8,s_8),(9,s_9),(12,s_12),(13,s_13),(14,s_14),(23,s_23),(24,s_24),(26,s_26),(28,s_28),(38,s_38),(59,s_59)]) ⟨sok_7,sok_8,sok_9,sok_12,sok_13,sok_14,sok_23,sok_24,sok_26,sok_28,sok_38,sok_59,trivial⟩ n base
end Go.Ev
