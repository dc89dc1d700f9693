/- Helpers: functions of the program as Lean functions, and what they compute. No condition. -/
import Derived.Test.YtnmiibgmjfiknaaGreatG6P1
set_option maxRecDepth 10000
set_option linter.unusedVariables false
set_option linter.unusedSimpArgs false
open Go.IntKind (wrap i64 i32 i16 i8 u64 u32 u16 u8)
open List (getD length take drop replicate)
open Int (toNat)
open Go.Ev.Sp
namespace Go.Ev
open Go
set_option maxRecDepth 100000
set_option maxHeartbeats 4000000
set_option linter.unusedVariables false
noncomputable section
abbrev Zt127_0:Type:=List Int×List Int×Int×Unit
abbrev Zt127_1:Type:=Int×Int×Unit
abbrev Zy127_2:Ty:=(.pair (.int .i64) (.pair (.int .u32) .unit))
abbrev Zy127_3:Ty:=(.pair (.slice (.int .u32)) (.pair (.slice (.int .i64)) (.pair (.int .i64) .unit)))
abbrev A_127:List Ty:=[(.pair (.slice (.int .u32)) (.pair (.slice (.int .i64)) (.pair (.int .i64) .unit))),(.int .i64),(.pair (.int .i64) (.pair (.int .u32) .unit))]
abbrev R_127:List Ty:=[(.pair (.slice (.int .u32)) (.pair (.slice (.int .i64)) (.pair (.int .i64) .unit))),(.pair (.int .i64) (.pair (.int .u32) .unit)),(.int .i64)]
noncomputable def sm_127:Nat->Option Summ:=smL [(57,s_57),(58,s_58),(146,s_146)]
noncomputable def T_127_148_0_0:PS:=⟨30,[(1,.hv (.int .u32)),(2,.kc (.ptr 1 [])),(3,.kc (.ptr 12 [])),(5,.sb 9 [] 1 none none none),(11,.hv (.int .i64)),(12,.hv (.int .i64))],[.mem (.hv Zy127_3),.mem (.hv (.int .i64)),.mem (.hv Zy127_2),.mem (.pr (.kc (.nil 51 (.int .u32))) (.pr (.kc (.nil 3 (.int .i64))) (.hv (.pair (.int .i64) .unit)))),.mem (.hv Zy127_2),.mem (.hv Zy127_3),.mem (.hv Zy127_2),.mem (.pr (.kc (.nil 51 (.int .u32))) (.pr (.kc (.nil 3 (.int .i64))) (.hv (.pair (.int .i64) .unit)))),.mem (.hv Zy127_2),.vec 51 (.int .u32),.vec 3 (.int .i64),.mem (.pr (.kc (.whole 9)) (.pr (.kc (.whole 10)) (.hv (.pair (.int .i64) .unit)))),.mem (.pr (.kc (.whole 9)) (.pr (.kc (.whole 10)) (.hv (.pair (.int .i64) .unit))))],12⟩
inductive Sp.E_127_148_0_0 where
 |e0 (p5:Zt127_0) (p6:Int) (p7:Zt127_1) (p8:Int×Unit) (p9:Zt127_1) (p10:Zt127_0) (p11:Zt127_1) (p12:Int×Unit) (p13:Zt127_1) (p14 p15:List Int) (p16 p17:Int×Unit)
noncomputable def Sp.B_127_148_0_0{R:Type}(r:Option E_127_148_0_0)(k0:Zt127_0->Int->Zt127_1->(Int×Unit)->Zt127_1->Zt127_0->Zt127_1->(Int×Unit)->Zt127_1->List Int->List Int->(Int×Unit)->(Int×Unit)->Option R):Option R:=match r with
 |none=>none
 |some (.e0 p5 p6 p7 p8 p9 p10 p11 p12 p13 p14 p15 p16 p17)=>k0 p5 p6 p7 p8 p9 p10 p11 p12 p13 p14 p15 p16 p17
noncomputable def Y_127_148_0_0{R:Type}(k:Ex->St->Option R):E_127_148_0_0->Option R
 | .e0 p5 p6 p7 p8 p9 p10 p11 p12 p13 p14 p15 p16 p17=>k (Ex.exit 0) (sx 30 [(2,CV.ptr 1 []),(3,CV.ptr 12 [])] [Blk.mem (CV.pure (Ty.pair (Ty.slice (Ty.int u32)) (Ty.pair (Ty.slice (Ty.int i64)) (Ty.pair (Ty.int i64) Ty.unit))) p5),Blk.mem (CV.int i64 p6),Blk.mem (CV.pure (Ty.pair (Ty.int i64) (Ty.pair (Ty.int u32) Ty.unit)) p7),Blk.mem (CV.pair (CV.nil 51 (Ty.int u32)) (CV.pair (CV.nil 3 (Ty.int i64)) (CV.pure (Ty.pair (Ty.int i64) Ty.unit) p8))),Blk.mem (CV.pure (Ty.pair (Ty.int i64) (Ty.pair (Ty.int u32) Ty.unit)) p9),Blk.mem (CV.pure (Ty.pair (Ty.slice (Ty.int u32)) (Ty.pair (Ty.slice (Ty.int i64)) (Ty.pair (Ty.int i64) Ty.unit))) p10),Blk.mem (CV.pure (Ty.pair (Ty.int i64) (Ty.pair (Ty.int u32) Ty.unit)) p11),Blk.mem (CV.pair (CV.nil 51 (Ty.int u32)) (CV.pair (CV.nil 3 (Ty.int i64)) (CV.pure (Ty.pair (Ty.int i64) Ty.unit) p12))),Blk.mem (CV.pure (Ty.pair (Ty.int i64) (Ty.pair (Ty.int u32) Ty.unit)) p13),Blk.vec 51 (Ty.int u32) p14,Blk.vec 3 (Ty.int i64) p15,Blk.mem (CV.pair (CV.whole 9) (CV.pair (CV.whole 10) (CV.pure (Ty.pair (Ty.int i64) Ty.unit) p16))),Blk.mem (CV.pair (CV.whole 9) (CV.pair (CV.whole 10) (CV.pure (Ty.pair (Ty.int i64) Ty.unit) p17)))] 12)
noncomputable def Sp.S_127_148_0_0{R:Type}(K:Int->Nat->Nat->Int->Int->(List Int×List Int×Int×Unit)->Int->(Int×Int×Unit)->(Int×Unit)->(Int×Int×Unit)->(List Int×List Int×Int×Unit)->(Int×Int×Unit)->(Int×Unit)->(Int×Int×Unit)->List Int->List Int->(Int×Unit)->(Int×Unit)->Option R)(k:E_127_148_0_0->Option R)(p0:Int)(p1 p2:Nat)(p3 p4:Int)(p5:List Int×List Int×Int×Unit)(p6:Int)(p7:Int×Int×Unit)(p8:Int×Unit)(p9:Int×Int×Unit)(p10:List Int×List Int×Int×Unit)(p11:Int×Int×Unit)(p12:Int×Unit)(p13:Int×Int×Unit)(p14 p15:List Int)(p16 p17:Int×Unit):Option R:=
 bif decide (p4<p3)then gd (inB p4 p2) (gd (decide (p1+toNat p4<length p14)&&true) (gd (inB p4 p2) (gd (decide (p1+toNat p4<length p14)&&true&&true) (K p0 p1 p2 p3 (wrap i64 (p4+1)) p5 p6 p7 p8 p9 p10 p11 p12 p13 (List.set p14 (p1+toNat p4) (Sp.orI u32 (getD p14 (p1+toNat p4) 0) p0)) p15 p16 p17))))else k (E_127_148_0_0.e0 p5 p6 p7 p8 p9 p10 p11 p12 p13 p14 p15 p16 p17)
noncomputable def Sp.L_127_148_0_0:Nat->Int->Nat->Nat->Int->Int->(List Int×List Int×Int×Unit)->Int->(Int×Int×Unit)->(Int×Unit)->(Int×Int×Unit)->(List Int×List Int×Int×Unit)->(Int×Int×Unit)->(Int×Unit)->(Int×Int×Unit)->List Int->List Int->(Int×Unit)->(Int×Unit)->Option E_127_148_0_0
 |0,_,_,_,_,_,_,_,_,_,_,_,_,_,_,_,_,_,_=>none
 |m+1,p0,p1,p2,p3,p4,p5,p6,p7,p8,p9,p10,p11,p12,p13,p14,p15,p16,p17=>S_127_148_0_0 (L_127_148_0_0 m) some p0 p1 p2 p3 p4 p5 p6 p7 p8 p9 p10 p11 p12 p13 p14 p15 p16 p17
noncomputable def l_127_148_0_0(m:Nat)(a:T_127_148_0_0.E):Option E_127_148_0_0:=L_127_148_0_0 m a.1 a.2.1 a.2.2.1 a.2.2.2.1 a.2.2.2.2.1 a.2.2.2.2.2.1 a.2.2.2.2.2.2.1 a.2.2.2.2.2.2.2.1 a.2.2.2.2.2.2.2.2.1 a.2.2.2.2.2.2.2.2.2.1 a.2.2.2.2.2.2.2.2.2.2.1 a.2.2.2.2.2.2.2.2.2.2.2.1 a.2.2.2.2.2.2.2.2.2.2.2.2.1 a.2.2.2.2.2.2.2.2.2.2.2.2.2.1 a.2.2.2.2.2.2.2.2.2.2.2.2.2.2.1 a.2.2.2.2.2.2.2.2.2.2.2.2.2.2.2.1 a.2.2.2.2.2.2.2.2.2.2.2.2.2.2.2.2.1 a.2.2.2.2.2.2.2.2.2.2.2.2.2.2.2.2.2.1
noncomputable def O_127_148_0_0{R:Type}:Orc R:=orL T_127_148_0_0 (l_127_148_0_0 FU) Y_127_148_0_0
theorem OK_127_148_0_0{R:Type}:okF (R:=R) sm_127 1 (nf 148 0) O_127_148_0_0:=lp0 T_127_148_0_0 l_127_148_0_0 (fun R K k a=>S_127_148_0_0 (fun p0 p1 p2 p3 p4 p5 p6 p7 p8 p9 p10 p11 p12 p13 p14 p15 p16 p17=>K (p0,p1,p2,p3,p4,p5,p6,p7,p8,p9,p10,p11,p12,p13,p14,p15,p16,p17,())) k a.1 a.2.1 a.2.2.1 a.2.2.2.1 a.2.2.2.2.1 a.2.2.2.2.2.1 a.2.2.2.2.2.2.1 a.2.2.2.2.2.2.2.1 a.2.2.2.2.2.2.2.2.1 a.2.2.2.2.2.2.2.2.2.1 a.2.2.2.2.2.2.2.2.2.2.1 a.2.2.2.2.2.2.2.2.2.2.2.1 a.2.2.2.2.2.2.2.2.2.2.2.2.1 a.2.2.2.2.2.2.2.2.2.2.2.2.2.1 a.2.2.2.2.2.2.2.2.2.2.2.2.2.2.1 a.2.2.2.2.2.2.2.2.2.2.2.2.2.2.2.1 a.2.2.2.2.2.2.2.2.2.2.2.2.2.2.2.2.1 a.2.2.2.2.2.2.2.2.2.2.2.2.2.2.2.2.2.1) Y_127_148_0_0 (fun _ _ _=>by kernel_rfl) (fun _ _ _=>by
 unfold S_127_148_0_0
 repeat' first|apply gdN|apply condN|rfl) (ok0 _)
noncomputable def g_127_148{R:Type}:List CV->List Blk->(CV->List Blk->Option R)->Option R:=evFnL sm_127 FU (ovr noO (evFn sm_127 fns FU 1)) (mkT (fB fns 148) [O_127_148_0_0]) (fO fns 148)
theorem g_127_148_ok{R:Type}(args:List CV)(hp:List Blk)(k:CV->List Blk->Option R)(r:R)(h:g_127_148 args hp k=some r):evFn sm_127 fns FU 2 148 args hp k=some r:=runG noO_ok (os:=[O_127_148_0_0]) ⟨OK_127_148_0_0,trivial⟩ h
noncomputable def ov_127_147{R:Type}:Nat->Option (List CV->List Blk->(CV->List Blk->Option R)->Option R):=fun f'=>bif Nat.beq f' 148 then some g_127_148 else none
theorem ov_127_147_ok{R:Type}:OvrOK (R:=R) ov_127_147 (evFn sm_127 fns FU 3):=by
 intro f' g h args hp k r hg
 dsimp only[ov_127_147]at h
 by_cases h148:f'=148
 ·subst h148
  injection h with h
  subst h
  exact evFn_le 1 (g_127_148_ok _ _ _ _ hg)
 rw[nbeq_ne h148,cond_false]at h
 cases h
noncomputable def g_127_147{R:Type}:List CV->List Blk->(CV->List Blk->Option R)->Option R:=evFnL sm_127 FU (ovr ov_127_147 (evFn sm_127 fns FU 3)) (mkT (fB fns 147) []) (fO fns 147)
theorem g_127_147_ok{R:Type}(args:List CV)(hp:List Blk)(k:CV->List Blk->Option R)(r:R)(h:g_127_147 args hp k=some r):evFn sm_127 fns FU 4 147 args hp k=some r:=runG ov_127_147_ok (os:=[]) trivial h
noncomputable def ov_127_127{R:Type}:Nat->Option (List CV->List Blk->(CV->List Blk->Option R)->Option R):=fun f'=>bif Nat.beq f' 147 then some g_127_147 else bif Nat.beq f' 148 then some g_127_148 else none
theorem ov_127_127_ok{R:Type}:OvrOK (R:=R) ov_127_127 (evFn sm_127 fns FU 4):=by
 intro f' g h args hp k r hg
 dsimp only[ov_127_127]at h
 by_cases h147:f'=147
 ·subst h147
  injection h with h
  subst h
  exact evFn_le 0 (g_127_147_ok _ _ _ _ hg)
 rw[nbeq_ne h147,cond_false]at h
 by_cases h148:f'=148
 ·subst h148
  injection h with h
  subst h
  exact evFn_le 2 (g_127_148_ok _ _ _ _ hg)
 rw[nbeq_ne h148,cond_false]at h
 cases h
noncomputable def F_127(a0:((List Int)×((List Int)×(Int×Unit))))(a1:Int)(a2:(Int×(Int×Unit))):Option (((List Int)×((List Int)×(Int×Unit)))×(Int×(Int×Unit))×Int×Unit) :=
 gd (p_146 a0 a2 a1 (↑(length (a0.2.1)):Int)) (bif(v_146 a0 a2 a1 (↑(length (a0.2.1)):Int)).1 !=0 then some (([],[],0,PUnit.unit),(0,0,PUnit.unit),(v_146 a0 a2 a1 (↑(length (a0.2.1)):Int)).1,PUnit.unit)else gd (inB a1 (length (a0.2.1))) (bif getD (a0.2.1) (toNat a1) 0==a0.2.2.1 then some (([],[],0,PUnit.unit),(0,0,PUnit.unit),19,PUnit.unit)else gd (room (length (a0.1)) 4) (gd (room (length (a0.2.1)) 8) (bif a2.1==0 then some ((a0.1,a0.2.1,a0.2.2.1,PUnit.unit),a2,18,PUnit.unit)else bif a2.1==1 then gd (sl3 (wrap i64 (a1*64)) (wrap i64 (wrap i64 (a1+1)*64)) (↑(length (a0.1)):Int)) (B_127_148_0_0 (L_127_148_0_0 4611686018427387904 (a2.2.1) (toNat (wrap i64 (a1*64))) (toNat (wrap i64 (wrap i64 (a1+1)*64))-toNat (wrap i64 (a1*64))) (↑(toNat (wrap i64 (wrap i64 (a1+1)*64))-toNat (wrap i64 (a1*64))):Int) 0 a0 a1 a2 (0,PUnit.unit) (0,0,PUnit.unit) a0 (0,a2.2) (0,PUnit.unit) (0,0,PUnit.unit) (a0.1) (a0.2.1) (a0.2.2.1,PUnit.unit) (a0.2.2.1,PUnit.unit)) fun y26 y27 y28 y29 y30 y31 y32 y33 y34 y35 y36 y37 y38=>gd (inB y27 (length y36)) (gd (decide (toNat y27<length y36)&&true) (gd (inB y27 (length y36)) (gd (decide (toNat y27<length y36)&&true&&true) (some ((y35,List.set y36 (toNat y27) (wrap i64 (getD y36 (toNat y27) (0:Int)+(1:Int))),y37),y32,18,PUnit.unit))))))else gd (sl3 (wrap i64 (a1*64)) (wrap i64 (wrap i64 (a1+1)*64)) (↑(length (a0.1)):Int)) (B_127_148_0_0 (L_127_148_0_0 4611686018427387904 4294967295 (toNat (wrap i64 (a1*64))) (toNat (wrap i64 (wrap i64 (a1+1)*64))-toNat (wrap i64 (a1*64))) (↑(toNat (wrap i64 (wrap i64 (a1+1)*64))-toNat (wrap i64 (a1*64))):Int) 0 a0 a1 a2 (0,PUnit.unit) (0,0,PUnit.unit) a0 (wrap i64 (a2.1-1),a2.2) (0,PUnit.unit) (0,0,PUnit.unit) (a0.1) (a0.2.1) (a0.2.2.1,PUnit.unit) (a0.2.2.1,PUnit.unit)) fun y39 y40 y41 y42 y43 y44 y45 y46 y47 y48 y49 y50 y51=>gd (inB y40 (length y49)) (gd (decide (toNat y40<length y49)&&true) (gd (inB y40 (length y49)) (gd (decide (toNat y40<length y49)&&true&&true) (some ((y48,List.set y49 (toNat y40) (wrap i64 (getD y49 (toNat y40) (0:Int)+(1:Int))),y50),y45,0,PUnit.unit))))))))))
noncomputable def Sp.p_127(a0:((List Int)×((List Int)×(Int×Unit))))(a1:Int)(a2:(Int×(Int×Unit))):Bool:=(F_127 a0 a1 a2).isSome
noncomputable def Sp.v_127(a0:((List Int)×((List Int)×(Int×Unit))))(a1:Int)(a2:(Int×(Int×Unit))):((List Int)×((List Int)×(Int×Unit)))×(Int×(Int×Unit))×Int×Unit:=(F_127 a0 a1 a2).getD (dfH R_127)
noncomputable def s_127:Summ:=shS A_127 R_127 (fun x=>p_127 x.1 x.2.1 x.2.2.1) (fun x=>v_127 x.1 x.2.1 x.2.2.1)
theorem pv_127(a0:((List Int)×((List Int)×(Int×Unit))))(a1:Int)(a2:(Int×(Int×Unit))){y:((List Int)×((List Int)×(Int×Unit)))×(Int×(Int×Unit))×Int×Unit}(h:F_127 a0 a1 a2=some y):p_127 a0 a1 a2=true/\v_127 a0 a1 a2=y:=pvG h
theorem run_127(x:HDen A_127)(y:HDen R_127)(h:F_127 x.1 x.2.1 x.2.2.1=some y):rnF sm_127 5 127 A_127 R_127 x y:=runG ov_127_127_ok (os:=[]) trivial (Eq.trans (by kernel_rfl) h)
end
noncomputable section
abbrev A_128:List Ty:=[(.pair (.slice (.int .u32)) (.pair (.slice (.int .i64)) (.pair (.int .i64) .unit))),(.int .i64),(.int .u32),(.pair (.int .i64) (.pair (.int .u32) .unit))]
abbrev R_128:List Ty:=[(.pair (.slice (.int .u32)) (.pair (.slice (.int .i64)) (.pair (.int .i64) .unit))),(.pair (.int .i64) (.pair (.int .u32) .unit)),(.int .i64)]
noncomputable def sm_128:Nat->Option Summ:=smL [(57,s_57),(58,s_58),(146,s_146)]
noncomputable def F_128(a0:((List Int)×((List Int)×(Int×Unit))))(a1 a2:Int)(a3:(Int×(Int×Unit))):Option (((List Int)×((List Int)×(Int×Unit)))×(Int×(Int×Unit))×Int×Unit) :=
 gd (p_146 a0 a3 a1 (↑(length (a0.1)):Int)) (bif(v_146 a0 a3 a1 (↑(length (a0.1)):Int)).1 !=0 then some (([],[],0,PUnit.unit),(0,0,PUnit.unit),(v_146 a0 a3 a1 (↑(length (a0.1)):Int)).1,PUnit.unit)else gd (room (length (a0.1)) 4) (gd (room (length (a0.2.1)) 8) (bif a3.1==0 then some ((a0.1,a0.2.1,a0.2.2.1,PUnit.unit),a3,18,PUnit.unit)else bif a3.1==1 then gd (inB a1 (length (a0.1))) (gd (decide (toNat a1<length (a0.1))&&true) (gd (inB a1 (length (a0.1))) (gd (decide (toNat a1<length (a0.1))&&true&&true) (some ((List.set (a0.1) (toNat a1) (Sp.andnI u32 (getD (a0.1) (toNat a1) 0) (Sp.andnI u32 (a3.2.1) a2)),a0.2.1,a0.2.2.1,PUnit.unit),(0,a3.2),18,PUnit.unit)))))else gd (inB a1 (length (a0.1))) (gd (decide (toNat a1<length (a0.1))&&true) (gd (inB a1 (length (a0.1))) (gd (decide (toNat a1<length (a0.1))&&true&&true) (some ((List.set (a0.1) (toNat a1) (Sp.andnI u32 (getD (a0.1) (toNat a1) 0) (Sp.andnI u32 4294967295 a2)),a0.2.1,a0.2.2.1,PUnit.unit),(wrap i64 (a3.1-1),a3.2),0,PUnit.unit))))))))
noncomputable def Sp.p_128(a0:((List Int)×((List Int)×(Int×Unit))))(a1 a2:Int)(a3:(Int×(Int×Unit))):Bool:=(F_128 a0 a1 a2 a3).isSome
noncomputable def Sp.v_128(a0:((List Int)×((List Int)×(Int×Unit))))(a1 a2:Int)(a3:(Int×(Int×Unit))):((List Int)×((List Int)×(Int×Unit)))×(Int×(Int×Unit))×Int×Unit:=(F_128 a0 a1 a2 a3).getD (dfH R_128)
noncomputable def s_128:Summ:=shS A_128 R_128 (fun x=>p_128 x.1 x.2.1 x.2.2.1 x.2.2.2.1) (fun x=>v_128 x.1 x.2.1 x.2.2.1 x.2.2.2.1)
theorem pv_128(a0:((List Int)×((List Int)×(Int×Unit))))(a1 a2:Int)(a3:(Int×(Int×Unit))){y:((List Int)×((List Int)×(Int×Unit)))×(Int×(Int×Unit))×Int×Unit}(h:F_128 a0 a1 a2 a3=some y):p_128 a0 a1 a2 a3=true/\v_128 a0 a1 a2 a3=y:=pvG h
theorem run_128(x:HDen A_128)(y:HDen R_128)(h:F_128 x.1 x.2.1 x.2.2.1 x.2.2.2.1=some y):rnF sm_128 5 128 A_128 R_128 x y:=runG noO_ok (os:=[]) trivial (Eq.trans (by kernel_rfl) h)
end
noncomputable section
abbrev Zt94_0:Type:=(List Int×List Int×Int×Unit)×Int×Int×Unit
abbrev Zt94_1:Type:=Int×Int×Unit
abbrev Zy94_2:Ty:=(.pair (.pair (.slice (.int .u32)) (.pair (.slice (.int .i64)) (.pair (.int .i64) .unit))) (.pair (.int .i64) (.pair (.int .i64) .unit)))
abbrev Zy94_3:Ty:=(.pair (.int .i64) (.pair (.int .u32) .unit))
abbrev Zy94_4:Ty:=(.slice (.pair .bool (.pair (.int .i64) (.pair (.int .u32) .unit))))
abbrev Zt94_5:Type:=List (Bool×Int×Int×Unit)
abbrev A_94:List Ty:=[(.pair (.pair (.slice (.int .u32)) (.pair (.slice (.int .i64)) (.pair (.int .i64) .unit))) (.pair (.int .i64) (.pair (.int .i64) .unit))),(.slice (.pair .bool (.pair (.int .i64) (.pair (.int .u32) .unit)))),(.pair (.int .i64) (.pair (.int .u32) .unit))]
abbrev R_94:List Ty:=[(.pair (.pair (.slice (.int .u32)) (.pair (.slice (.int .i64)) (.pair (.int .i64) .unit))) (.pair (.int .i64) (.pair (.int .i64) .unit))),(.pair (.int .i64) (.pair (.int .u32) .unit)),(.int .i64)]
noncomputable def sm_94:Nat->Option Summ:=smL [(126,s_126),(127,s_127),(128,s_128)]
noncomputable def T_94_1:PS:=⟨61,[(3,.kc (.ptr 0 [])),(5,.kc (.ptr 1 [])),(6,.kc (.ptr 2 [])),(7,.kc (.ptr 5 [])),(11,.hv (.int .i64)),(16,.hv Zy94_4),(17,.hv (.int .i64)),(18,.hv (.int .i64))],[.mem (.hv Zy94_2),.mem (.hv Zy94_3),.mem (.pr (.pr (.kc (.whole 3)) (.pr (.kc (.whole 4)) (.hv (.pair (.int .i64) .unit)))) (.hv (.pair (.int .i64) (.pair (.int .i64) .unit)))),.vec 51 (.int .u32),.vec 3 (.int .i64),.mem (.hv Zy94_3)],0⟩
inductive Sp.E_94_1 where
 |e0 (p0:Int) (p4:Zt94_0) (p5:Zt94_1)
 |e1 (p0:Int)
 |e2 (p0:Int) (p1:Zt94_5) (p2 p3:Int) (p4:Zt94_0) (p5:Zt94_1) (p6:Int×Unit) (p7:Zt94_1) (p8 p9:List Int) (p10:Zt94_1)
noncomputable def Sp.B_94_1{R:Type}(r:Option E_94_1)(k0:Int->Zt94_0->Zt94_1->Option R)(k1:Int->Option R)(k2:Int->Zt94_5->Int->Int->Zt94_0->Zt94_1->(Int×Unit)->Zt94_1->List Int->List Int->Zt94_1->Option R):Option R:=match r with
 |none=>none
 |some (.e0 p0 p4 p5)=>k0 p0 p4 p5
 |some (.e1 p0)=>k1 p0
 |some (.e2 p0 p1 p2 p3 p4 p5 p6 p7 p8 p9 p10)=>k2 p0 p1 p2 p3 p4 p5 p6 p7 p8 p9 p10
theorem Bn_94_1{A R:Type}{r:Option E_94_1}{f:A->Option R}{k0:Int->Zt94_0->Zt94_1->Option A}{k1:Int->Option A}{k2:Int->Zt94_5->Int->Int->Zt94_0->Zt94_1->(Int×Unit)->Zt94_1->List Int->List Int->Zt94_1->Option A}{l0:Int->Zt94_0->Zt94_1->Option R}{l1:Int->Option R}{l2:Int->Zt94_5->Int->Int->Zt94_0->Zt94_1->(Int×Unit)->Zt94_1->List Int->List Int->Zt94_1->Option R}(h0:∀p0 p4 p5,(k0 p0 p4 p5).bind f=l0 p0 p4 p5)(h1:∀p0,(k1 p0).bind f=l1 p0)(h2:∀p0 p1 p2 p3 p4 p5 p6 p7 p8 p9 p10,(k2 p0 p1 p2 p3 p4 p5 p6 p7 p8 p9 p10).bind f=l2 p0 p1 p2 p3 p4 p5 p6 p7 p8 p9 p10):(B_94_1 r k0 k1 k2).bind f=B_94_1 r l0 l1 l2:=by
 cases r with
 |none=>rfl
 |some e=>cases e<;>first|apply h0|apply h1|apply h2
noncomputable def Y_94_1{R:Type}(k:Ex->St->Option R):E_94_1->Option R
 | .e0 p0 p4 p5=>k Ex.ret (sx 61 [(6,CV.ptr 0 []),(7,CV.ptr 1 []),(8,CV.int i64 p0)] [Blk.mem (CV.pure (Ty.pair (Ty.pair (Ty.slice (Ty.int u32)) (Ty.pair (Ty.slice (Ty.int i64)) (Ty.pair (Ty.int i64) Ty.unit))) (Ty.pair (Ty.int i64) (Ty.pair (Ty.int i64) Ty.unit))) p4),Blk.mem (CV.pure (Ty.pair (Ty.int i64) (Ty.pair (Ty.int u32) Ty.unit)) p5)])
 | .e1 p0=>k Ex.ret (sx 61 [(6,CV.ptr 0 []),(7,CV.ptr 3 []),(8,CV.int i64 p0)] [Blk.mem (CV.pair (CV.pair (CV.whole 1) (CV.pair (CV.whole 2) (CV.pure (Ty.pair (Ty.int i64) Ty.unit) ((0,PUnit.unit):(Int×Unit))))) (CV.pure (Ty.pair (Ty.int i64) (Ty.pair (Ty.int i64) Ty.unit)) ((0,0,PUnit.unit):(Int×(Int×Unit))))),Blk.vec 51 (Ty.int u32) [],Blk.vec 3 (Ty.int i64) [],Blk.mem (CV.pure (Ty.pair (Ty.int i64) (Ty.pair (Ty.int u32) Ty.unit)) ((0,0,PUnit.unit):(Int×(Int×Unit))))])
 | .e2 p0 p1 p2 p3 p4 p5 p6 p7 p8 p9 p10=>k Ex.normal (sx 61 [(3,CV.ptr 0 []),(5,CV.ptr 1 []),(6,CV.ptr 2 []),(7,CV.ptr 5 []),(11,CV.int i64 p0),(16,CV.pure (Ty.slice (Ty.pair Ty.bool (Ty.pair (Ty.int i64) (Ty.pair (Ty.int u32) Ty.unit)))) p1),(17,CV.int i64 p2),(18,CV.int i64 p3),(48,CV.int i64 p0),(49,CV.bool false),(53,CV.int i64 p0),(54,CV.bool false)] [Blk.mem (CV.pure (Ty.pair (Ty.pair (Ty.slice (Ty.int u32)) (Ty.pair (Ty.slice (Ty.int i64)) (Ty.pair (Ty.int i64) Ty.unit))) (Ty.pair (Ty.int i64) (Ty.pair (Ty.int i64) Ty.unit))) p4),Blk.mem (CV.pure (Ty.pair (Ty.int i64) (Ty.pair (Ty.int u32) Ty.unit)) p5),Blk.mem (CV.pair (CV.pair (CV.whole 3) (CV.pair (CV.whole 4) (CV.pure (Ty.pair (Ty.int i64) Ty.unit) p6))) (CV.pure (Ty.pair (Ty.int i64) (Ty.pair (Ty.int i64) Ty.unit)) p7)),Blk.vec 51 (Ty.int u32) p8,Blk.vec 3 (Ty.int i64) p9,Blk.mem (CV.pure (Ty.pair (Ty.int i64) (Ty.pair (Ty.int u32) Ty.unit)) p10)])
noncomputable def Sp.S_94_1{R:Type}(k:E_94_1->Option R)(p0:Int)(p1:List (Bool×Int×Int×Unit))(p2 p3:Int)(p4:(List Int×List Int×Int×Unit)×Int×Int×Unit)(p5:Int×Int×Unit)(p6:Int×Unit)(p7:Int×Int×Unit)(p8 p9:List Int)(p10:Int×Int×Unit):Option R:=
 bif p0==18 then k (E_94_1.e0 p0 p4 p5)else bif p0 !=0 then k (E_94_1.e1 p0)else k (E_94_1.e2 p0 p1 p2 p3 p4 p5 p6 p7 p8 p9 p10)
noncomputable def Sp.J_94_1(p0:Int)(p1:List (Bool×Int×Int×Unit))(p2 p3:Int)(p4:(List Int×List Int×Int×Unit)×Int×Int×Unit)(p5:Int×Int×Unit)(p6:Int×Unit)(p7:Int×Int×Unit)(p8 p9:List Int)(p10:Int×Int×Unit):Option E_94_1:=S_94_1 some p0 p1 p2 p3 p4 p5 p6 p7 p8 p9 p10
noncomputable def O_94_1{R:Type}:Orc R:=orL T_94_1 (fun a=>J_94_1 a.1 a.2.1 a.2.2.1 a.2.2.2.1 a.2.2.2.2.1 a.2.2.2.2.2.1 a.2.2.2.2.2.2.1 a.2.2.2.2.2.2.2.1 a.2.2.2.2.2.2.2.2.1 a.2.2.2.2.2.2.2.2.2.1 a.2.2.2.2.2.2.2.2.2.2.1) Y_94_1
theorem OK_94_1{R:Type}:okF (R:=R) sm_94 0 (ni (nf 94 0) 0) O_94_1:=jp noO_ok (os:=[]) trivial T_94_1 (fun R k a=>S_94_1 k a.1 a.2.1 a.2.2.1 a.2.2.2.1 a.2.2.2.2.1 a.2.2.2.2.2.1 a.2.2.2.2.2.2.1 a.2.2.2.2.2.2.2.1 a.2.2.2.2.2.2.2.2.1 a.2.2.2.2.2.2.2.2.2.1 a.2.2.2.2.2.2.2.2.2.2.1) Y_94_1 (fun k a=>by kernel_rfl) (fun Y a=>by
 unfold S_94_1
 repeat' first|apply gdN|apply condN|rfl) (ok0 _)
noncomputable def T_94_0:PS:=⟨61,[(3,.kc (.ptr 0 [])),(5,.kc (.ptr 1 [])),(6,.kc (.ptr 2 [])),(7,.kc (.ptr 5 [])),(16,.hv Zy94_4),(17,.hv (.int .i64)),(18,.hv (.int .i64))],[.mem (.hv Zy94_2),.mem (.hv Zy94_3),.mem (.pr (.pr (.kc (.whole 3)) (.pr (.kc (.whole 4)) (.hv (.pair (.int .i64) .unit)))) (.hv (.pair (.int .i64) (.pair (.int .i64) .unit)))),.vec 51 (.int .u32),.vec 3 (.int .i64),.mem (.hv Zy94_3)],0⟩
inductive Sp.E_94_0 where
 |e0 (y30:Int) (y31:Zt94_0) (y32:Zt94_1)
 |e1 (y33:Int)
 |e2 (p3:Zt94_0) (p4:Zt94_1) (p5:Int×Unit) (p6:Zt94_1) (p7 p8:List Int) (p9:Zt94_1)
noncomputable def Sp.B_94_0{R:Type}(r:Option E_94_0)(k0:Int->Zt94_0->Zt94_1->Option R)(k1:Int->Option R)(k2:Zt94_0->Zt94_1->(Int×Unit)->Zt94_1->List Int->List Int->Zt94_1->Option R):Option R:=match r with
 |none=>none
 |some (.e0 y30 y31 y32)=>k0 y30 y31 y32
 |some (.e1 y33)=>k1 y33
 |some (.e2 p3 p4 p5 p6 p7 p8 p9)=>k2 p3 p4 p5 p6 p7 p8 p9
noncomputable def Y_94_0{R:Type}(k:Ex->St->Option R):E_94_0->Option R
 | .e0 y30 y31 y32=>k Ex.ret (sx 61 [(6,CV.ptr 0 []),(7,CV.ptr 1 []),(8,CV.int i64 y30)] [Blk.mem (CV.pure (Ty.pair (Ty.pair (Ty.slice (Ty.int u32)) (Ty.pair (Ty.slice (Ty.int i64)) (Ty.pair (Ty.int i64) Ty.unit))) (Ty.pair (Ty.int i64) (Ty.pair (Ty.int i64) Ty.unit))) y31),Blk.mem (CV.pure (Ty.pair (Ty.int i64) (Ty.pair (Ty.int u32) Ty.unit)) y32)])
 | .e1 y33=>k Ex.ret (sx 61 [(6,CV.ptr 0 []),(7,CV.ptr 3 []),(8,CV.int i64 y33)] [Blk.mem (CV.pair (CV.pair (CV.whole 1) (CV.pair (CV.whole 2) (CV.pure (Ty.pair (Ty.int i64) Ty.unit) ((0,PUnit.unit):(Int×Unit))))) (CV.pure (Ty.pair (Ty.int i64) (Ty.pair (Ty.int i64) Ty.unit)) ((0,0,PUnit.unit):(Int×(Int×Unit))))),Blk.vec 51 (Ty.int u32) [],Blk.vec 3 (Ty.int i64) [],Blk.mem (CV.pure (Ty.pair (Ty.int i64) (Ty.pair (Ty.int u32) Ty.unit)) ((0,0,PUnit.unit):(Int×(Int×Unit))))])
 | .e2 p3 p4 p5 p6 p7 p8 p9=>k (Ex.exit 0) (sx 61 [(3,CV.ptr 0 []),(5,CV.ptr 1 []),(6,CV.ptr 2 []),(7,CV.ptr 5 [])] [Blk.mem (CV.pure (Ty.pair (Ty.pair (Ty.slice (Ty.int u32)) (Ty.pair (Ty.slice (Ty.int i64)) (Ty.pair (Ty.int i64) Ty.unit))) (Ty.pair (Ty.int i64) (Ty.pair (Ty.int i64) Ty.unit))) p3),Blk.mem (CV.pure (Ty.pair (Ty.int i64) (Ty.pair (Ty.int u32) Ty.unit)) p4),Blk.mem (CV.pair (CV.pair (CV.whole 3) (CV.pair (CV.whole 4) (CV.pure (Ty.pair (Ty.int i64) Ty.unit) p5))) (CV.pure (Ty.pair (Ty.int i64) (Ty.pair (Ty.int i64) Ty.unit)) p6)),Blk.vec 51 (Ty.int u32) p7,Blk.vec 3 (Ty.int i64) p8,Blk.mem (CV.pure (Ty.pair (Ty.int i64) (Ty.pair (Ty.int u32) Ty.unit)) p9)])
noncomputable def Sp.S_94_0{R:Type}(K:(List (Bool×Int×Int×Unit))->Int->Int->((List Int×List Int×Int×Unit)×Int×Int×Unit)->(Int×Int×Unit)->(Int×Unit)->(Int×Int×Unit)->List Int->List Int->(Int×Int×Unit)->Option R)(k:E_94_0->Option R)(p0:List (Bool×Int×Int×Unit))(p1 p2:Int)(p3:(List Int×List Int×Int×Unit)×Int×Int×Unit)(p4:Int×Int×Unit)(p5:Int×Unit)(p6:Int×Int×Unit)(p7 p8:List Int)(p9:Int×Int×Unit):Option R:=
 bif decide (p2<p1)then gd (inB p2 (length p0)) (bif(getD p0 (toNat p2) Zd3).1 then gd (p_127 (p3.1) ((getD p0 (toNat p2) Zd3).2.1) p4) (B_94_1 (J_94_1 ((v_127 (p3.1) ((getD p0 (toNat p2) Zd3).2.1) p4).2.2.1) p0 p1 p2 ((v_127 (p3.1) ((getD p0 (toNat p2) Zd3).2.1) p4).1,p3.2) ((v_127 (p3.1) ((getD p0 (toNat p2) Zd3).2.1) p4).2.1) p5 p6 p7 p8 p9) (fun y30 y31 y32=>k (E_94_0.e0 y30 y31 y32)) (fun y33=>k (E_94_0.e1 y33)) fun y34 y35 y36 y37 y38 y39 y40 y41 y42 y43 y44=>K y35 y36 (wrap i64 (y37+1)) y38 y39 y40 y41 y42 y43 y44)else gd (p_128 (p3.1) ((getD p0 (toNat p2) Zd3).2.1) ((getD p0 (toNat p2) Zd3).2.2.1) p4) (B_94_1 (J_94_1 ((v_128 (p3.1) ((getD p0 (toNat p2) Zd3).2.1) ((getD p0 (toNat p2) Zd3).2.2.1) p4).2.2.1) p0 p1 p2 ((v_128 (p3.1) ((getD p0 (toNat p2) Zd3).2.1) ((getD p0 (toNat p2) Zd3).2.2.1) p4).1,p3.2) ((v_128 (p3.1) ((getD p0 (toNat p2) Zd3).2.1) ((getD p0 (toNat p2) Zd3).2.2.1) p4).2.1) p5 p6 p7 p8 p9) (fun y45 y46 y47=>k (E_94_0.e0 y45 y46 y47)) (fun y48=>k (E_94_0.e1 y48)) fun y49 y50 y51 y52 y53 y54 y55 y56 y57 y58 y59=>K y50 y51 (wrap i64 (y52+1)) y53 y54 y55 y56 y57 y58 y59))else k (E_94_0.e2 p3 p4 p5 p6 p7 p8 p9)
noncomputable def Sp.L_94_0:Nat->(List (Bool×Int×Int×Unit))->Int->Int->((List Int×List Int×Int×Unit)×Int×Int×Unit)->(Int×Int×Unit)->(Int×Unit)->(Int×Int×Unit)->List Int->List Int->(Int×Int×Unit)->Option E_94_0
 |0,_,_,_,_,_,_,_,_,_,_=>none
 |m+1,p0,p1,p2,p3,p4,p5,p6,p7,p8,p9=>S_94_0 (L_94_0 m) some p0 p1 p2 p3 p4 p5 p6 p7 p8 p9
noncomputable def l_94_0(m:Nat)(a:T_94_0.E):Option E_94_0:=L_94_0 m a.1 a.2.1 a.2.2.1 a.2.2.2.1 a.2.2.2.2.1 a.2.2.2.2.2.1 a.2.2.2.2.2.2.1 a.2.2.2.2.2.2.2.1 a.2.2.2.2.2.2.2.2.1 a.2.2.2.2.2.2.2.2.2.1
noncomputable def O_94_0{R:Type}:Orc R:=orL T_94_0 (l_94_0 FU) Y_94_0
theorem OK_94_0{R:Type}:okF (R:=R) sm_94 0 (nf 94 0) O_94_0:=lp noO_ok (os:=[O_94_1]) ⟨OK_94_1,trivial⟩ T_94_0 l_94_0 (fun R K k a=>S_94_0 (fun p0 p1 p2 p3 p4 p5 p6 p7 p8 p9=>K (p0,p1,p2,p3,p4,p5,p6,p7,p8,p9,())) k a.1 a.2.1 a.2.2.1 a.2.2.2.1 a.2.2.2.2.1 a.2.2.2.2.2.1 a.2.2.2.2.2.2.1 a.2.2.2.2.2.2.2.1 a.2.2.2.2.2.2.2.2.1 a.2.2.2.2.2.2.2.2.2.1) Y_94_0 (fun _=>rfl) (fun _ _=>rfl) (fun k K a=>by kernel_rfl) (fun Y K a=>by
 unfold S_94_0
 repeat' first|apply gdN|apply condN|(apply Bn_94_1<;>intros)|rfl) (ok0 _)
noncomputable def F_94(a0:(((List Int)×((List Int)×(Int×Unit)))×(Int×(Int×Unit))))(a1:(List (Bool×(Int×(Int×Unit)))))(a2:(Int×(Int×Unit))):Option ((((List Int)×((List Int)×(Int×Unit)))×(Int×(Int×Unit)))×(Int×(Int×Unit))×Int×Unit) :=
 gd (p_126 (a0.1)) (B_94_0 (L_94_0 4611686018427387904 a1 (↑(length a1):Int) 0 ((v_126 (a0.1)).1,a0.2) a2 (0,PUnit.unit) (0,0,PUnit.unit) [] [] (0,0,PUnit.unit)) (fun y11 y12 y13=>some (y12,y13,y11,PUnit.unit)) (fun y14=>some ((([],[],0,PUnit.unit),0,0,PUnit.unit),(0,0,PUnit.unit),y14,PUnit.unit)) fun y15 y16 y17 y18 y19 y20 y21=>some (y15,y16,0,PUnit.unit))
noncomputable def Sp.p_94(a0:(((List Int)×((List Int)×(Int×Unit)))×(Int×(Int×Unit))))(a1:(List (Bool×(Int×(Int×Unit)))))(a2:(Int×(Int×Unit))):Bool:=(F_94 a0 a1 a2).isSome
noncomputable def Sp.v_94(a0:(((List Int)×((List Int)×(Int×Unit)))×(Int×(Int×Unit))))(a1:(List (Bool×(Int×(Int×Unit)))))(a2:(Int×(Int×Unit))):(((List Int)×((List Int)×(Int×Unit)))×(Int×(Int×Unit)))×(Int×(Int×Unit))×Int×Unit:=(F_94 a0 a1 a2).getD (dfH R_94)
noncomputable def s_94:Summ:=shS A_94 R_94 (fun x=>p_94 x.1 x.2.1 x.2.2.1) (fun x=>v_94 x.1 x.2.1 x.2.2.1)
theorem pv_94(a0:(((List Int)×((List Int)×(Int×Unit)))×(Int×(Int×Unit))))(a1:(List (Bool×(Int×(Int×Unit)))))(a2:(Int×(Int×Unit))){y:(((List Int)×((List Int)×(Int×Unit)))×(Int×(Int×Unit)))×(Int×(Int×Unit))×Int×Unit}(h:F_94 a0 a1 a2=some y):p_94 a0 a1 a2=true/\v_94 a0 a1 a2=y:=pvG h
theorem run_94(x:HDen A_94)(y:HDen R_94)(h:F_94 x.1 x.2.1 x.2.2.1=some y):rnF sm_94 1 94 A_94 R_94 x y:=runG noO_ok (os:=[O_94_0]) ⟨OK_94_0,trivial⟩ (Eq.trans (by kernel_rfl) h)
end
noncomputable section
abbrev A_95:List Ty:=[(.int .i64),(.slice (.int .u32))]
abbrev R_95:List Ty:=[(.slice (.pair .bool (.pair (.int .i64) (.pair (.int .u32) .unit))))]
noncomputable def sm_95:Nat->Option Summ:=smL []
noncomputable def T_95_0:PS:=⟨25,[(0,.hv (.int .i64)),(5,.kc (.whole 0)),(8,.hv (.slice (.int .u32))),(9,.hv (.int .i64)),(10,.hv (.int .i64))],[.vec 162 (.pair .bool (.pair (.int .i64) (.pair (.int .u32) .unit)))],0⟩
inductive Sp.E_95_0 where
 |e0 (p4:List (Bool×Int×Int×Unit))
noncomputable def Sp.B_95_0{R:Type}(r:Option E_95_0)(k0:(List (Bool×Int×Int×Unit))->Option R):Option R:=match r with
 |none=>none
 |some (.e0 p4)=>k0 p4
noncomputable def Y_95_0{R:Type}(k:Ex->St->Option R):E_95_0->Option R
 | .e0 p4=>k (Ex.exit 0) (sx 25 [(5,CV.whole 0)] [Blk.vec 162 (Ty.pair Ty.bool (Ty.pair (Ty.int i64) (Ty.pair (Ty.int u32) Ty.unit))) p4])
noncomputable def Sp.S_95_0{R:Type}(K:Int->List Int->Int->Int->(List (Bool×Int×Int×Unit))->Option R)(k:E_95_0->Option R)(p0:Int)(p1:List Int)(p2 p3:Int)(p4:List (Bool×Int×Int×Unit)):Option R:=
 bif decide (p3<p2)then gd (inB p3 (length p1)) (gd (room (length p4+1) 24) (K p0 p1 p2 (wrap i64 (p3+1)) (p4++[(false,wrap i64 (p0+p3),getD p1 (toNat p3) 0,PUnit.unit)])))else k (E_95_0.e0 p4)
noncomputable def Sp.L_95_0:Nat->Int->List Int->Int->Int->(List (Bool×Int×Int×Unit))->Option E_95_0
 |0,_,_,_,_,_=>none
 |m+1,p0,p1,p2,p3,p4=>S_95_0 (L_95_0 m) some p0 p1 p2 p3 p4
noncomputable def l_95_0(m:Nat)(a:T_95_0.E):Option E_95_0:=L_95_0 m a.1 a.2.1 a.2.2.1 a.2.2.2.1 a.2.2.2.2.1
noncomputable def O_95_0{R:Type}:Orc R:=orL T_95_0 (l_95_0 FU) Y_95_0
theorem OK_95_0{R:Type}:okF (R:=R) sm_95 0 (nf 95 0) O_95_0:=lp0 T_95_0 l_95_0 (fun R K k a=>S_95_0 (fun p0 p1 p2 p3 p4=>K (p0,p1,p2,p3,p4,())) k a.1 a.2.1 a.2.2.1 a.2.2.2.1 a.2.2.2.2.1) Y_95_0 (fun _ _ _=>by kernel_rfl) (fun _ _ _=>by
 unfold S_95_0
 repeat' first|apply gdN|apply condN|rfl) (ok0 _)
noncomputable def F_95(a0:Int)(a1:(List Int)):Option ((List (Bool×(Int×(Int×Unit))))×Unit) :=
 B_95_0 (L_95_0 4611686018427387904 a0 a1 (↑(length a1):Int) 0 []) fun y1=>some (y1,PUnit.unit)
noncomputable def Sp.p_95(a0:Int)(a1:(List Int)):Bool:=(F_95 a0 a1).isSome
noncomputable def Sp.v_95(a0:Int)(a1:(List Int)):(List (Bool×(Int×(Int×Unit))))×Unit:=(F_95 a0 a1).getD (dfH R_95)
noncomputable def s_95:Summ:=shS A_95 R_95 (fun x=>p_95 x.1 x.2.1) (fun x=>v_95 x.1 x.2.1)
theorem pv_95(a0:Int)(a1:(List Int)){y:(List (Bool×(Int×(Int×Unit))))×Unit}(h:F_95 a0 a1=some y):p_95 a0 a1=true/\v_95 a0 a1=y:=pvG h
theorem run_95(x:HDen A_95)(y:HDen R_95)(h:F_95 x.1 x.2.1=some y):rnF sm_95 1 95 A_95 R_95 x y:=runG noO_ok (os:=[O_95_0]) ⟨OK_95_0,trivial⟩ (Eq.trans (by kernel_rfl) h)
end
noncomputable section
abbrev A_130:List Ty:=[(.pair (.pair (.slice (.int .u32)) (.pair (.slice (.int .i64)) (.pair (.int .i64) .unit))) (.pair (.int .i64) (.pair (.int .i64) .unit))),(.int .i64),(.int .i64)]
abbrev R_130:List Ty:=[(.slice (.pair .bool (.pair (.int .i64) (.pair (.int .u32) .unit)))),.bool]
noncomputable def sm_130:Nat->Option Summ:=smL []
noncomputable def T_130_0:PS:=⟨32,[(2,.hv (.int .i64)),(3,.kc (.ptr 0 [])),(8,.kc (.whole 1)),(9,.hv (.int .i64))],[.mem (.hv (.pair (.pair (.slice (.int .u32)) (.pair (.slice (.int .i64)) (.pair (.int .i64) .unit))) (.pair (.int .i64) (.pair (.int .i64) .unit)))),.vec 162 (.pair .bool (.pair (.int .i64) (.pair (.int .u32) .unit)))],0⟩
inductive Sp.E_130_0 where
 |e0
 |e1 (p3:List (Bool×Int×Int×Unit))
noncomputable def Sp.B_130_0{R:Type}(r:Option E_130_0)(k0:Option R)(k1:(List (Bool×Int×Int×Unit))->Option R):Option R:=match r with
 |none=>none
 |some (.e0)=>k0
 |some (.e1 p3)=>k1 p3
noncomputable def Y_130_0{R:Type}(k:Ex->St->Option R):E_130_0->Option R
 | .e0=>k Ex.ret (sx 32 [(6,CV.whole 0),(7,CV.bool false)] [Blk.vec 162 (Ty.pair Ty.bool (Ty.pair (Ty.int i64) (Ty.pair (Ty.int u32) Ty.unit))) []])
 | .e1 p3=>k (Ex.exit 0) (sx 32 [(8,CV.whole 0)] [Blk.vec 162 (Ty.pair Ty.bool (Ty.pair (Ty.int i64) (Ty.pair (Ty.int u32) Ty.unit))) p3])
noncomputable def Sp.S_130_0{R:Type}(K:Int->Int->((List Int×List Int×Int×Unit)×Int×Int×Unit)->(List (Bool×Int×Int×Unit))->Option R)(k:E_130_0->Option R)(p0 p1:Int)(p2:(List Int×List Int×Int×Unit)×Int×Int×Unit)(p3:List (Bool×Int×Int×Unit)):Option R:=
 bif decide (p1<p0)then gd (inB p1 (length (p2.1.2.1))) (bif decide (getD (p2.1.2.1) (toNat p1) 0>=p2.1.2.2.1)then k (E_130_0.e0)else gd (room (length p3+1) 24) (K p0 (wrap i64 (p1+1)) p2 (p3++[(true,p1,0,PUnit.unit)])))else k (E_130_0.e1 p3)
noncomputable def Sp.L_130_0:Nat->Int->Int->((List Int×List Int×Int×Unit)×Int×Int×Unit)->(List (Bool×Int×Int×Unit))->Option E_130_0
 |0,_,_,_,_=>none
 |m+1,p0,p1,p2,p3=>S_130_0 (L_130_0 m) some p0 p1 p2 p3
noncomputable def l_130_0(m:Nat)(a:T_130_0.E):Option E_130_0:=L_130_0 m a.1 a.2.1 a.2.2.1 a.2.2.2.1
noncomputable def O_130_0{R:Type}:Orc R:=orL T_130_0 (l_130_0 FU) Y_130_0
theorem OK_130_0{R:Type}:okF (R:=R) sm_130 0 (nf 130 0) O_130_0:=lp0 T_130_0 l_130_0 (fun R K k a=>S_130_0 (fun p0 p1 p2 p3=>K (p0,p1,p2,p3,())) k a.1 a.2.1 a.2.2.1 a.2.2.2.1) Y_130_0 (fun _ _ _=>by kernel_rfl) (fun _ _ _=>by
 unfold S_130_0
 repeat' first|apply gdN|apply condN|rfl) (ok0 _)
noncomputable def F_130(a0:(((List Int)×((List Int)×(Int×Unit)))×(Int×(Int×Unit))))(a1 a2:Int):Option ((List (Bool×(Int×(Int×Unit))))×Bool×Unit) :=
 B_130_0 (L_130_0 4611686018427387904 a2 a1 a0 []) (some ([],false,PUnit.unit)) fun y1=>some (y1,true,PUnit.unit)
noncomputable def Sp.p_130(a0:(((List Int)×((List Int)×(Int×Unit)))×(Int×(Int×Unit))))(a1 a2:Int):Bool:=(F_130 a0 a1 a2).isSome
noncomputable def Sp.v_130(a0:(((List Int)×((List Int)×(Int×Unit)))×(Int×(Int×Unit))))(a1 a2:Int):(List (Bool×(Int×(Int×Unit))))×Bool×Unit:=(F_130 a0 a1 a2).getD (dfH R_130)
noncomputable def s_130:Summ:=ownS A_130 162 [] (.slice (.pair .bool (.pair (.int .i64) (.pair (.int .u32) .unit)))) [.bool] (fun x=>p_130 x.1 x.2.1 x.2.2.1) (fun x=>v_130 x.1 x.2.1 x.2.2.1)
theorem pv_130(a0:(((List Int)×((List Int)×(Int×Unit)))×(Int×(Int×Unit))))(a1 a2:Int){y:(List (Bool×(Int×(Int×Unit))))×Bool×Unit}(h:F_130 a0 a1 a2=some y):p_130 a0 a1 a2=true/\v_130 a0 a1 a2=y:=pvG h
theorem run_130(x:HDen A_130)(y:HDen R_130)(h:F_130 x.1 x.2.1 x.2.2.1=some y):evFn sm_130 fns FU 1 130 (ofH A_130 x) [] (ownK 162 [] (.slice (.pair .bool (.pair (.int .i64) (.pair (.int .u32) .unit)))) [.bool])=some y:=runG noO_ok (os:=[O_130_0]) ⟨OK_130_0,trivial⟩ (Eq.trans (by kernel_rfl) h)
end
noncomputable section
abbrev Zt97_0:Type:=(List Int×List Int×Int×Unit)×Int×Int×Unit
abbrev A_97:List Ty:=[(.pair (.pair (.slice (.int .u32)) (.pair (.slice (.int .i64)) (.pair (.int .i64) .unit))) (.pair (.int .i64) (.pair (.int .i64) .unit))),(.slice (.pair (.int .i64) (.pair (.slice (.int .u32)) .unit)))]
abbrev R_97:List Ty:=[(.slice (.pair .bool (.pair (.int .i64) (.pair (.int .u32) .unit)))),(.int .i64)]
noncomputable def sm_97:Nat->Option Summ:=smL [(69,s_69),(93,s_93),(95,s_95),(96,s_96),(109,s_109),(124,s_124),(129,s_129),(130,s_130)]
noncomputable def T_97_0:PS:=⟨88,[(2,.kc (.ptr 0 [])),(6,.hv (.int .i64)),(8,.hv (.int .i64)),(9,.kc (.whole 1)),(23,.hv (.slice (.pair (.int .i64) (.pair (.slice (.int .u32)) .unit)))),(24,.hv (.int .i64)),(25,.hv (.int .i64))],[.mem (.hv (.pair (.pair (.slice (.int .u32)) (.pair (.slice (.int .i64)) (.pair (.int .i64) .unit))) (.pair (.int .i64) (.pair (.int .i64) .unit)))),.vec 51 (.int .u32)],0⟩
inductive Sp.E_97_0 where
 |e0 (p0 p1:Int) (p5:Zt97_0) (p6:List Int)
noncomputable def Sp.B_97_0{R:Type}(r:Option E_97_0)(k0:Int->Int->Zt97_0->List Int->Option R):Option R:=match r with
 |none=>none
 |some (.e0 p0 p1 p5 p6)=>k0 p0 p1 p5 p6
noncomputable def Y_97_0{R:Type}(k:Ex->St->Option R):E_97_0->Option R
 | .e0 p0 p1 p5 p6=>k (Ex.exit 0) (sx 88 [(2,CV.ptr 0 []),(6,CV.int i64 p0),(8,CV.int i64 p1),(9,CV.whole 1)] [Blk.mem (CV.pure (Ty.pair (Ty.pair (Ty.slice (Ty.int u32)) (Ty.pair (Ty.slice (Ty.int i64)) (Ty.pair (Ty.int i64) Ty.unit))) (Ty.pair (Ty.int i64) (Ty.pair (Ty.int i64) Ty.unit))) p5),Blk.vec 51 (Ty.int u32) p6])
noncomputable def Sp.S_97_0{R:Type}(K:Int->Int->(List (Int×List Int×Unit))->Int->Int->((List Int×List Int×Int×Unit)×Int×Int×Unit)->List Int->Option R)(k:E_97_0->Option R)(p0 p1:Int)(p2:List (Int×List Int×Unit))(p3 p4:Int)(p5:(List Int×List Int×Int×Unit)×Int×Int×Unit)(p6:List Int):Option R:=
 bif decide (p4<p3)then gd (inB p4 (length p2)) (gd (p_93 ((getD p2 (toNat p4) Zd2).1) ((getD p2 (toNat p4) Zd2).2.1)) (gd (room (length p6+length ((v_93 ((getD p2 (toNat p4) Zd2).1) ((getD p2 (toNat p4) Zd2).2.1)).1)) 4) (K p0 p1 p2 p3 (wrap i64 (p4+1)) p5 (p6++(v_93 ((getD p2 (toNat p4) Zd2).1) ((getD p2 (toNat p4) Zd2).2.1)).1))))else k (E_97_0.e0 p0 p1 p5 p6)
noncomputable def Sp.L_97_0:Nat->Int->Int->(List (Int×List Int×Unit))->Int->Int->((List Int×List Int×Int×Unit)×Int×Int×Unit)->List Int->Option E_97_0
 |0,_,_,_,_,_,_,_=>none
 |m+1,p0,p1,p2,p3,p4,p5,p6=>S_97_0 (L_97_0 m) some p0 p1 p2 p3 p4 p5 p6
noncomputable def l_97_0(m:Nat)(a:T_97_0.E):Option E_97_0:=L_97_0 m a.1 a.2.1 a.2.2.1 a.2.2.2.1 a.2.2.2.2.1 a.2.2.2.2.2.1 a.2.2.2.2.2.2.1
noncomputable def O_97_0{R:Type}:Orc R:=orL T_97_0 (l_97_0 FU) Y_97_0
theorem OK_97_0{R:Type}:okF (R:=R) sm_97 0 (nf 97 0) O_97_0:=lp0 T_97_0 l_97_0 (fun R K k a=>S_97_0 (fun p0 p1 p2 p3 p4 p5 p6=>K (p0,p1,p2,p3,p4,p5,p6,())) k a.1 a.2.1 a.2.2.1 a.2.2.2.1 a.2.2.2.2.1 a.2.2.2.2.2.1 a.2.2.2.2.2.2.1) Y_97_0 (fun _ _ _=>by kernel_rfl) (fun _ _ _=>by
 unfold S_97_0
 repeat' first|apply gdN|apply condN|rfl) (ok0 _)
noncomputable def F_97(a0:(((List Int)×((List Int)×(Int×Unit)))×(Int×(Int×Unit))))(a1:(List (Int×((List Int)×Unit)))):Option ((List (Bool×(Int×(Int×Unit))))×Int×Unit) :=
 gd (p_69 a0) (B_97_0 (L_97_0 4611686018427387904 ((v_69 a0).1) (wrap i64 (1-(v_69 a0).1)) a1 (↑(length a1):Int) 0 a0 []) fun y4 y5 y6 y7=>gd (p_129 y6) (bif decide (wrap i64 (1+(↑(length y7):Int))>(v_129 y6).1)then some ([],5,PUnit.unit)else gd (p_130 y6 (wrap i64 (y6.2.1+wrap i64 (Int.tdiv (wrap i64 (y5*y6.2.2.1)) 2))) (wrap i64 (wrap i64 (y6.2.1+wrap i64 (Int.tdiv (wrap i64 (y5*y6.2.2.1)) 2))+wrap i64 (Int.tdiv (y6.2.2.1) 2)))) (gd (p_109 y6 y4) (bif !(v_130 y6 (wrap i64 (y6.2.1+wrap i64 (Int.tdiv (wrap i64 (y5*y6.2.2.1)) 2))) (wrap i64 (wrap i64 (y6.2.1+wrap i64 (Int.tdiv (wrap i64 (y5*y6.2.2.1)) 2))+wrap i64 (Int.tdiv (y6.2.2.1) 2)))).2.1 then some ([],19,PUnit.unit)else bif decide (wrap i64 ((v_109 y6 y4).1+1)>65535)then some ([],19,PUnit.unit)else gd (p_96 y6 y5 1) (gd (p_95 ((v_96 y6 y5 1).1) y7) (gd (room (length ((v_130 y6 (wrap i64 (y6.2.1+wrap i64 (Int.tdiv (wrap i64 (y5*y6.2.2.1)) 2))) (wrap i64 (wrap i64 (y6.2.1+wrap i64 (Int.tdiv (wrap i64 (y5*y6.2.2.1)) 2))+wrap i64 (Int.tdiv (y6.2.2.1) 2)))).1)+length ((v_95 ((v_96 y6 y5 1).1) y7).1)) 24) (gd (p_96 y6 y5 0) (gd (p_124 (wrap i64 ((v_109 y6 y4).1+1))) (gd (room (length ((v_130 y6 (wrap i64 (y6.2.1+wrap i64 (Int.tdiv (wrap i64 (y5*y6.2.2.1)) 2))) (wrap i64 (wrap i64 (y6.2.1+wrap i64 (Int.tdiv (wrap i64 (y5*y6.2.2.1)) 2))+wrap i64 (Int.tdiv (y6.2.2.1) 2)))).1++(v_95 ((v_96 y6 y5 1).1) y7).1)+1) 24) (some ((v_130 y6 (wrap i64 (y6.2.1+wrap i64 (Int.tdiv (wrap i64 (y5*y6.2.2.1)) 2))) (wrap i64 (wrap i64 (y6.2.1+wrap i64 (Int.tdiv (wrap i64 (y5*y6.2.2.1)) 2))+wrap i64 (Int.tdiv (y6.2.2.1) 2)))).1++(v_95 ((v_96 y6 y5 1).1) y7).1++[(false,(v_96 y6 y5 0).1,(v_124 (wrap i64 ((v_109 y6 y4).1+1))).1,PUnit.unit)],0,PUnit.unit)))))))))))
noncomputable def Sp.p_97(a0:(((List Int)×((List Int)×(Int×Unit)))×(Int×(Int×Unit))))(a1:(List (Int×((List Int)×Unit)))):Bool:=(F_97 a0 a1).isSome
noncomputable def Sp.v_97(a0:(((List Int)×((List Int)×(Int×Unit)))×(Int×(Int×Unit))))(a1:(List (Int×((List Int)×Unit)))):(List (Bool×(Int×(Int×Unit))))×Int×Unit:=(F_97 a0 a1).getD (dfH R_97)
noncomputable def s_97:Summ:=shS A_97 R_97 (fun x=>p_97 x.1 x.2.1) (fun x=>v_97 x.1 x.2.1)
theorem pv_97(a0:(((List Int)×((List Int)×(Int×Unit)))×(Int×(Int×Unit))))(a1:(List (Int×((List Int)×Unit)))){y:(List (Bool×(Int×(Int×Unit))))×Int×Unit}(h:F_97 a0 a1=some y):p_97 a0 a1=true/\v_97 a0 a1=y:=pvG h
theorem run_97(x:HDen A_97)(y:HDen R_97)(h:F_97 x.1 x.2.1=some y):rnF sm_97 1 97 A_97 R_97 x y:=runG noO_ok (os:=[O_97_0]) ⟨OK_97_0,trivial⟩ (Eq.trans (by kernel_rfl) h)
end
noncomputable section
abbrev A_61:List Ty:=[(.pair (.pair (.slice (.int .u32)) (.pair (.slice (.int .i64)) (.pair (.int .i64) .unit))) (.pair (.int .i64) (.pair (.int .i64) .unit))),(.int .i64),(.slice (.int .u32)),(.pair (.int .i64) (.pair (.int .u32) .unit))]
abbrev R_61:List Ty:=[(.pair (.pair (.slice (.int .u32)) (.pair (.slice (.int .i64)) (.pair (.int .i64) .unit))) (.pair (.int .i64) (.pair (.int .i64) .unit))),(.pair (.int .i64) (.pair (.int .u32) .unit)),(.int .i64)]
noncomputable def sm_61:Nat->Option Summ:=smL [(38,s_38),(69,s_69),(70,s_70),(92,s_92),(93,s_93),(94,s_94),(95,s_95),(96,s_96),(97,s_97),(98,s_98)]
noncomputable def F_61(a0:(((List Int)×((List Int)×(Int×Unit)))×(Int×(Int×Unit))))(a1:Int)(a2:(List Int))(a3:(Int×(Int×Unit))):Option ((((List Int)×((List Int)×(Int×Unit)))×(Int×(Int×Unit)))×(Int×(Int×Unit))×Int×Unit) :=
 gd (p_38 a0) (bif !(v_38 a0).1 then some ((([],[],0,PUnit.unit),0,0,PUnit.unit),(0,0,PUnit.unit),1,PUnit.unit)else gd (p_92 a3) (bif !(v_92 a3).1 then some ((([],[],0,PUnit.unit),0,0,PUnit.unit),(0,0,PUnit.unit),1,PUnit.unit)else bif decide (a1<0)then some ((([],[],0,PUnit.unit),0,0,PUnit.unit),(0,0,PUnit.unit),2,PUnit.unit)else bif decide (a1>254)then some ((([],[],0,PUnit.unit),0,0,PUnit.unit),(0,0,PUnit.unit),2,PUnit.unit)else bif decide ((↑(length a2):Int)>24)then some ((([],[],0,PUnit.unit),0,0,PUnit.unit),(0,0,PUnit.unit),2,PUnit.unit)else gd (p_69 a0) (gd (p_70 a0 ((v_69 a0).1)) (gd (p_93 a1 a2) (bif decide ((↑(length ((v_93 a1 a2).1)):Int)<=(v_70 a0 ((v_69 a0).1)).1.2.2.1)then gd (p_96 a0 ((v_69 a0).1) ((v_70 a0 ((v_69 a0).1)).1.2.1)) (gd (p_95 ((v_96 a0 ((v_69 a0).1) ((v_70 a0 ((v_69 a0).1)).1.2.1)).1) ((v_93 a1 a2).1)) (gd (p_94 a0 ((v_95 ((v_96 a0 ((v_69 a0).1) ((v_70 a0 ((v_69 a0).1)).1.2.1)).1) ((v_93 a1 a2).1)).1) a3) (some ((v_94 a0 ((v_95 ((v_96 a0 ((v_69 a0).1) ((v_70 a0 ((v_69 a0).1)).1.2.1)).1) ((v_93 a1 a2).1)).1) a3).1,(v_94 a0 ((v_95 ((v_96 a0 ((v_69 a0).1) ((v_70 a0 ((v_69 a0).1)).1.2.1)).1) ((v_93 a1 a2).1)).1) a3).2.1,(v_94 a0 ((v_95 ((v_96 a0 ((v_69 a0).1) ((v_70 a0 ((v_69 a0).1)).1.2.1)).1) ((v_93 a1 a2).1)).1) a3).2.2.1,PUnit.unit))))else gd (p_98 ((v_70 a0 ((v_69 a0).1)).1.1) a1 a2) (gd (p_97 a0 ((v_98 ((v_70 a0 ((v_69 a0).1)).1.1) a1 a2).1)) (bif(v_97 a0 ((v_98 ((v_70 a0 ((v_69 a0).1)).1.1) a1 a2).1)).2.1 !=0 then some ((([],[],0,PUnit.unit),0,0,PUnit.unit),(0,0,PUnit.unit),(v_97 a0 ((v_98 ((v_70 a0 ((v_69 a0).1)).1.1) a1 a2).1)).2.1,PUnit.unit)else gd (p_94 a0 ((v_97 a0 ((v_98 ((v_70 a0 ((v_69 a0).1)).1.1) a1 a2).1)).1) a3) (some ((v_94 a0 ((v_97 a0 ((v_98 ((v_70 a0 ((v_69 a0).1)).1.1) a1 a2).1)).1) a3).1,(v_94 a0 ((v_97 a0 ((v_98 ((v_70 a0 ((v_69 a0).1)).1.1) a1 a2).1)).1) a3).2.1,(v_94 a0 ((v_97 a0 ((v_98 ((v_70 a0 ((v_69 a0).1)).1.1) a1 a2).1)).1) a3).2.2.1,PUnit.unit)))))))))
noncomputable def Sp.p_61(a0:(((List Int)×((List Int)×(Int×Unit)))×(Int×(Int×Unit))))(a1:Int)(a2:(List Int))(a3:(Int×(Int×Unit))):Bool:=(F_61 a0 a1 a2 a3).isSome
noncomputable def Sp.v_61(a0:(((List Int)×((List Int)×(Int×Unit)))×(Int×(Int×Unit))))(a1:Int)(a2:(List Int))(a3:(Int×(Int×Unit))):(((List Int)×((List Int)×(Int×Unit)))×(Int×(Int×Unit)))×(Int×(Int×Unit))×Int×Unit:=(F_61 a0 a1 a2 a3).getD (dfH R_61)
noncomputable def s_61:Summ:=shS A_61 R_61 (fun x=>p_61 x.1 x.2.1 x.2.2.1 x.2.2.2.1) (fun x=>v_61 x.1 x.2.1 x.2.2.1 x.2.2.2.1)
theorem pv_61(a0:(((List Int)×((List Int)×(Int×Unit)))×(Int×(Int×Unit))))(a1:Int)(a2:(List Int))(a3:(Int×(Int×Unit))){y:(((List Int)×((List Int)×(Int×Unit)))×(Int×(Int×Unit)))×(Int×(Int×Unit))×Int×Unit}(h:F_61 a0 a1 a2 a3=some y):p_61 a0 a1 a2 a3=true/\v_61 a0 a1 a2 a3=y:=pvG h
theorem run_61(x:HDen A_61)(y:HDen R_61)(h:F_61 x.1 x.2.1 x.2.2.1 x.2.2.2.1=some y):rnF sm_61 1 61 A_61 R_61 x y:=runG noO_ok (os:=[]) trivial (Eq.trans (by kernel_rfl) h)
end
noncomputable section
abbrev Zt21_0:Type:=List (Int×Int×Int×Int×Int×Int×Bool×Int×Unit)×List (Int×Int×Int×Int×Int×List Int×Int×Unit)×Int×Bool×Unit
abbrev Zy21_1:Ty:=(.pair (.slice (.pair (.int .i64) (.pair (.int .i64) (.pair (.int .i64) (.pair (.int .i64) (.pair (.int .i64) (.pair (.int .i64) (.pair .bool (.pair (.int .i64) .unit))))))))) (.pair (.slice (.pair (.int .i64) (.pair (.int .i64) (.pair (.int .i64) (.pair (.int .i64) (.pair (.int .i64) (.pair (.slice (.int .i64)) (.pair (.int .i64) .unit)))))))) (.pair (.int .i64) (.pair .bool .unit))))
abbrev Zt21_2:Type:=Int×Int×Unit
abbrev Zt21_3:Type:=(List Int×List Int×Int×Unit)×Int×Int×Unit
abbrev Zt21_4:Type:=List (Int×Int×Int×Int×Int×List Int×Int×Unit)
abbrev Zt21_5:Type:=(((List Int)×((List Int)×(Int×Unit)))×(Int×(Int×Unit)))
abbrev Zy21_6:Ty:=(.slice (.pair (.int .i64) (.pair (.int .i64) (.pair (.int .i64) (.pair (.int .i64) (.pair (.int .i64) (.pair (.slice (.int .i64)) (.pair (.int .i64) .unit))))))))
abbrev Zy21_7:Ty:=(.pair (.int .i64) (.pair (.int .u32) .unit))
abbrev Zy21_8:Ty:=(.pair (.pair (.slice (.int .u32)) (.pair (.slice (.int .i64)) (.pair (.int .i64) .unit))) (.pair (.int .i64) (.pair (.int .i64) .unit)))
abbrev Zy21_9:Ty:=(.pair (.int .i64) (.pair (.int .i64) .unit))
abbrev Zt21_10:Type:=(Int×(Int×Unit))
abbrev A_21:List Ty:=[(.pair (.pair (.slice (.int .u32)) (.pair (.slice (.int .i64)) (.pair (.int .i64) .unit))) (.pair (.int .i64) (.pair (.int .i64) .unit))),(.pair (.slice (.pair (.int .i64) (.pair (.int .i64) (.pair (.int .i64) (.pair (.int .i64) (.pair (.int .i64) (.pair (.int .i64) (.pair .bool (.pair (.int .i64) .unit))))))))) (.pair (.slice (.pair (.int .i64) (.pair (.int .i64) (.pair (.int .i64) (.pair (.int .i64) (.pair (.int .i64) (.pair (.slice (.int .i64)) (.pair (.int .i64) .unit)))))))) (.pair (.int .i64) (.pair .bool .unit)))),(.pair (.int .i64) (.pair (.int .u32) .unit))]
abbrev R_21:List Ty:=[(.pair (.pair (.slice (.int .u32)) (.pair (.slice (.int .i64)) (.pair (.int .i64) .unit))) (.pair (.int .i64) (.pair (.int .i64) .unit))),(.pair (.int .i64) (.pair (.int .u32) .unit)),(.int .i64)]
noncomputable def sm_21:Nat->Option Summ:=smL [(34,s_34),(38,s_38),(43,s_43),(44,s_44),(57,s_57),(58,s_58),(60,s_60),(61,s_61)]
noncomputable def T_21_91_1_0:PS:=⟨46,[(0,.yl 9 21 (.kc (.pair .junk (.pair .junk (.pair .junk (.pair (.ptr 0 []) (.pair .junk (.pair (.ptr 2 []) (.pair (.ptr 3 []) (.pair (.ptr 4 []) (.pair (.ptr 5 []) (.pair .junk (.pair .junk (.pair .junk (.pair .junk (.pair .junk (.pair .junk (.pair .junk (.pair .junk (.pair .junk (.pair .junk (.pair .junk (.pair .junk (.pair .junk (.pair .junk (.pair .junk (.pair .junk (.pair .junk (.pair .junk (.pair .junk (.pair .junk (.pair .junk (.pair .junk (.pair .junk (.pair .junk (.pair .junk (.pair .junk (.pair .junk (.pair .junk (.pair .junk (.pair .junk (.pair .junk (.pair .junk (.pair .junk (.pair .junk (.pair .junk (.pair .junk (.pair .junk (.pair .junk (.pair .junk (.pair .junk (.pair .junk (.pair .junk (.pair .junk (.pair .junk (.pair .junk (.pair .junk (.pair .junk (.pair .junk (.pair .junk (.pair .junk (.pair .junk (.pair .junk (.pair .junk (.pair .junk (.pair .junk (.pair .junk (.pair .junk (.pair .junk (.pair .junk (.pure .unit PUnit.unit))))))))))))))))))))))))))))))))))))))))))))))))))))))))))))))))))))))),(1,.kc (.ptr 8 [])),(3,.hv (.int .i64)),(5,.kc (.whole 10)),(16,.hv Zy21_6),(17,.hv (.int .i64)),(18,.hv (.int .i64))],[.mem (.pr (.pr (.kc (.whole 6)) (.pr (.kc (.whole 7)) (.hv (.pair (.int .i64) .unit)))) (.hv Zy21_9)),.mem (.hv Zy21_1),.mem (.hv Zy21_7),.mem (.pr (.pr (.kc (.nil 51 (.int .u32))) (.pr (.kc (.nil 3 (.int .i64))) (.hv (.pair (.int .i64) .unit)))) (.hv Zy21_9)),.mem (.hv Zy21_7),.mem (.hv (.int .i64)),.vec 51 (.int .u32),.vec 3 (.int .i64),.mem (.hv Zy21_1),.gh 0,.vec 51 (.int .u32)],10⟩
inductive Sp.E_21_91_1_0 where
 |e0 (p0:Int) (p1:Zt21_4) (p2 p3:Int) (p4:Int×Unit) (p5:Zt21_2) (p6:Zt21_0) (p7:Zt21_2) (p8:Int×Unit) (p9 p10:Zt21_2) (p11:Int) (p12 p13:List Int) (p14:Zt21_0) (p15:List Int)
 |e1 (p0:Int) (p4:Int×Unit) (p5:Zt21_2) (p6:Zt21_0) (p7:Zt21_2) (p12 p13:List Int) (p14:Zt21_0) (p15:List Int)
 |e2 (p0:Int) (p1:Zt21_4) (p2 p3:Int) (p4:Int×Unit) (p5:Zt21_2) (p6:Zt21_0) (p7:Zt21_2) (p8:Int×Unit) (p9 p10:Zt21_2) (p11:Int) (p12 p13:List Int) (p14:Zt21_0) (p15:List Int)
noncomputable def Sp.B_21_91_1_0{R:Type}(r:Option E_21_91_1_0)(k0:Int->Zt21_4->Int->Int->(Int×Unit)->Zt21_2->Zt21_0->Zt21_2->(Int×Unit)->Zt21_2->Zt21_2->Int->List Int->List Int->Zt21_0->List Int->Option R)(k1:Int->(Int×Unit)->Zt21_2->Zt21_0->Zt21_2->List Int->List Int->Zt21_0->List Int->Option R)(k2:Int->Zt21_4->Int->Int->(Int×Unit)->Zt21_2->Zt21_0->Zt21_2->(Int×Unit)->Zt21_2->Zt21_2->Int->List Int->List Int->Zt21_0->List Int->Option R):Option R:=match r with
 |none=>none
 |some (.e0 p0 p1 p2 p3 p4 p5 p6 p7 p8 p9 p10 p11 p12 p13 p14 p15)=>k0 p0 p1 p2 p3 p4 p5 p6 p7 p8 p9 p10 p11 p12 p13 p14 p15
 |some (.e1 p0 p4 p5 p6 p7 p12 p13 p14 p15)=>k1 p0 p4 p5 p6 p7 p12 p13 p14 p15
 |some (.e2 p0 p1 p2 p3 p4 p5 p6 p7 p8 p9 p10 p11 p12 p13 p14 p15)=>k2 p0 p1 p2 p3 p4 p5 p6 p7 p8 p9 p10 p11 p12 p13 p14 p15
theorem Bn_21_91_1_0{A R:Type}{r:Option E_21_91_1_0}{f:A->Option R}{k0:Int->Zt21_4->Int->Int->(Int×Unit)->Zt21_2->Zt21_0->Zt21_2->(Int×Unit)->Zt21_2->Zt21_2->Int->List Int->List Int->Zt21_0->List Int->Option A}{k1:Int->(Int×Unit)->Zt21_2->Zt21_0->Zt21_2->List Int->List Int->Zt21_0->List Int->Option A}{k2:Int->Zt21_4->Int->Int->(Int×Unit)->Zt21_2->Zt21_0->Zt21_2->(Int×Unit)->Zt21_2->Zt21_2->Int->List Int->List Int->Zt21_0->List Int->Option A}{l0:Int->Zt21_4->Int->Int->(Int×Unit)->Zt21_2->Zt21_0->Zt21_2->(Int×Unit)->Zt21_2->Zt21_2->Int->List Int->List Int->Zt21_0->List Int->Option R}{l1:Int->(Int×Unit)->Zt21_2->Zt21_0->Zt21_2->List Int->List Int->Zt21_0->List Int->Option R}{l2:Int->Zt21_4->Int->Int->(Int×Unit)->Zt21_2->Zt21_0->Zt21_2->(Int×Unit)->Zt21_2->Zt21_2->Int->List Int->List Int->Zt21_0->List Int->Option R}(h0:∀p0 p1 p2 p3 p4 p5 p6 p7 p8 p9 p10 p11 p12 p13 p14 p15,(k0 p0 p1 p2 p3 p4 p5 p6 p7 p8 p9 p10 p11 p12 p13 p14 p15).bind f=l0 p0 p1 p2 p3 p4 p5 p6 p7 p8 p9 p10 p11 p12 p13 p14 p15)(h1:∀p0 p4 p5 p6 p7 p12 p13 p14 p15,(k1 p0 p4 p5 p6 p7 p12 p13 p14 p15).bind f=l1 p0 p4 p5 p6 p7 p12 p13 p14 p15)(h2:∀p0 p1 p2 p3 p4 p5 p6 p7 p8 p9 p10 p11 p12 p13 p14 p15,(k2 p0 p1 p2 p3 p4 p5 p6 p7 p8 p9 p10 p11 p12 p13 p14 p15).bind f=l2 p0 p1 p2 p3 p4 p5 p6 p7 p8 p9 p10 p11 p12 p13 p14 p15):(B_21_91_1_0 r k0 k1 k2).bind f=B_21_91_1_0 r l0 l1 l2:=by
 cases r with
 |none=>rfl
 |some e=>cases e<;>first|apply h0|apply h1|apply h2
noncomputable def Y_21_91_1_0{R:Type}(k:Ex->St->Option R):E_21_91_1_0->Option R
 | .e0 p0 p1 p2 p3 p4 p5 p6 p7 p8 p9 p10 p11 p12 p13 p14 p15=>k Ex.normal (sx 46 [(0,CV.yld 9 21 (CV.pair CV.junk (CV.pair CV.junk (CV.pair CV.junk (CV.pair (CV.ptr 0 []) (CV.pair CV.junk (CV.pair (CV.ptr 2 []) (CV.pair (CV.ptr 3 []) (CV.pair (CV.ptr 4 []) (CV.pair (CV.ptr 5 []) (CV.pair CV.junk (CV.pair CV.junk (CV.pair CV.junk (CV.pair CV.junk (CV.pair CV.junk (CV.pair CV.junk (CV.pair CV.junk (CV.pair CV.junk (CV.pair CV.junk (CV.pair CV.junk (CV.pair CV.junk (CV.pair CV.junk (CV.pair CV.junk (CV.pair CV.junk (CV.pair CV.junk (CV.pair CV.junk (CV.pair CV.junk (CV.pair CV.junk (CV.pair CV.junk (CV.pair CV.junk (CV.pair CV.junk (CV.pair CV.junk (CV.pair CV.junk (CV.pair CV.junk (CV.pair CV.junk (CV.pair CV.junk (CV.pair CV.junk (CV.pair CV.junk (CV.pair CV.junk (CV.pair CV.junk (CV.pair CV.junk (CV.pair CV.junk (CV.pair CV.junk (CV.pair CV.junk (CV.pair CV.junk (CV.pair CV.junk (CV.pair CV.junk (CV.pair CV.junk (CV.pair CV.junk (CV.pair CV.junk (CV.pair CV.junk (CV.pair CV.junk (CV.pair CV.junk (CV.pair CV.junk (CV.pair CV.junk (CV.pair CV.junk (CV.pair CV.junk (CV.pair CV.junk (CV.pair CV.junk (CV.pair CV.junk (CV.pair CV.junk (CV.pair CV.junk (CV.pair CV.junk (CV.pair CV.junk (CV.pair CV.junk (CV.pair CV.junk (CV.pair CV.junk (CV.pair CV.junk (CV.pair CV.junk (CV.pure Ty.unit PUnit.unit)))))))))))))))))))))))))))))))))))))))))))))))))))))))))))))))))))))),(1,CV.ptr 8 []),(3,CV.int i64 p0),(5,CV.whole 10),(16,CV.pure (Ty.slice (Ty.pair (Ty.int i64) (Ty.pair (Ty.int i64) (Ty.pair (Ty.int i64) (Ty.pair (Ty.int i64) (Ty.pair (Ty.int i64) (Ty.pair (Ty.slice (Ty.int i64)) (Ty.pair (Ty.int i64) Ty.unit)))))))) p1),(17,CV.int i64 p2),(18,CV.int i64 p3),(40,CV.yld 9 21 (CV.pair CV.junk (CV.pair CV.junk (CV.pair CV.junk (CV.pair (CV.ptr 0 []) (CV.pair CV.junk (CV.pair (CV.ptr 2 []) (CV.pair (CV.ptr 3 []) (CV.pair (CV.ptr 4 []) (CV.pair (CV.ptr 5 []) (CV.pair CV.junk (CV.pair CV.junk (CV.pair CV.junk (CV.pair CV.junk (CV.pair CV.junk (CV.pair CV.junk (CV.pair CV.junk (CV.pair CV.junk (CV.pair CV.junk (CV.pair CV.junk (CV.pair CV.junk (CV.pair CV.junk (CV.pair CV.junk (CV.pair CV.junk (CV.pair CV.junk (CV.pair CV.junk (CV.pair CV.junk (CV.pair CV.junk (CV.pair CV.junk (CV.pair CV.junk (CV.pair CV.junk (CV.pair CV.junk (CV.pair CV.junk (CV.pair CV.junk (CV.pair CV.junk (CV.pair CV.junk (CV.pair CV.junk (CV.pair CV.junk (CV.pair CV.junk (CV.pair CV.junk (CV.pair CV.junk (CV.pair CV.junk (CV.pair CV.junk (CV.pair CV.junk (CV.pair CV.junk (CV.pair CV.junk (CV.pair CV.junk (CV.pair CV.junk (CV.pair CV.junk (CV.pair CV.junk (CV.pair CV.junk (CV.pair CV.junk (CV.pair CV.junk (CV.pair CV.junk (CV.pair CV.junk (CV.pair CV.junk (CV.pair CV.junk (CV.pair CV.junk (CV.pair CV.junk (CV.pair CV.junk (CV.pair CV.junk (CV.pair CV.junk (CV.pair CV.junk (CV.pair CV.junk (CV.pair CV.junk (CV.pair CV.junk (CV.pair CV.junk (CV.pair CV.junk (CV.pair CV.junk (CV.pure Ty.unit PUnit.unit)))))))))))))))))))))))))))))))))))))))))))))))))))))))))))))))))))))),(41,CV.int i64 p0),(42,CV.whole 10),(43,CV.bool true),(44,CV.bool false)] [Blk.mem (CV.pair (CV.pair (CV.whole 6) (CV.pair (CV.whole 7) (CV.pure (Ty.pair (Ty.int i64) Ty.unit) p4))) (CV.pure (Ty.pair (Ty.int i64) (Ty.pair (Ty.int i64) Ty.unit)) p5)),Blk.mem (CV.pure (Ty.pair (Ty.slice (Ty.pair (Ty.int i64) (Ty.pair (Ty.int i64) (Ty.pair (Ty.int i64) (Ty.pair (Ty.int i64) (Ty.pair (Ty.int i64) (Ty.pair (Ty.int i64) (Ty.pair Ty.bool (Ty.pair (Ty.int i64) Ty.unit))))))))) (Ty.pair (Ty.slice (Ty.pair (Ty.int i64) (Ty.pair (Ty.int i64) (Ty.pair (Ty.int i64) (Ty.pair (Ty.int i64) (Ty.pair (Ty.int i64) (Ty.pair (Ty.slice (Ty.int i64)) (Ty.pair (Ty.int i64) Ty.unit)))))))) (Ty.pair (Ty.int i64) (Ty.pair Ty.bool Ty.unit)))) p6),Blk.mem (CV.pure (Ty.pair (Ty.int i64) (Ty.pair (Ty.int u32) Ty.unit)) p7),Blk.mem (CV.pair (CV.pair (CV.nil 51 (Ty.int u32)) (CV.pair (CV.nil 3 (Ty.int i64)) (CV.pure (Ty.pair (Ty.int i64) Ty.unit) p8))) (CV.pure (Ty.pair (Ty.int i64) (Ty.pair (Ty.int i64) Ty.unit)) p9)),Blk.mem (CV.pure (Ty.pair (Ty.int i64) (Ty.pair (Ty.int u32) Ty.unit)) p10),Blk.mem (CV.int i64 p11),Blk.vec 51 (Ty.int u32) p12,Blk.vec 3 (Ty.int i64) p13,Blk.mem (CV.pure (Ty.pair (Ty.slice (Ty.pair (Ty.int i64) (Ty.pair (Ty.int i64) (Ty.pair (Ty.int i64) (Ty.pair (Ty.int i64) (Ty.pair (Ty.int i64) (Ty.pair (Ty.int i64) (Ty.pair Ty.bool (Ty.pair (Ty.int i64) Ty.unit))))))))) (Ty.pair (Ty.slice (Ty.pair (Ty.int i64) (Ty.pair (Ty.int i64) (Ty.pair (Ty.int i64) (Ty.pair (Ty.int i64) (Ty.pair (Ty.int i64) (Ty.pair (Ty.slice (Ty.int i64)) (Ty.pair (Ty.int i64) Ty.unit)))))))) (Ty.pair (Ty.int i64) (Ty.pair Ty.bool Ty.unit)))) p14),Blk.ghost 0,Blk.vec 51 (Ty.int u32) p15] 10)
 | .e1 p0 p4 p5 p6 p7 p12 p13 p14 p15=>k Ex.ret (sx 46 [] [Blk.mem (CV.pure (Ty.pair (Ty.pair (Ty.slice (Ty.int u32)) (Ty.pair (Ty.slice (Ty.int i64)) (Ty.pair (Ty.int i64) Ty.unit))) (Ty.pair (Ty.int i64) (Ty.pair (Ty.int i64) Ty.unit))) (((v_61 ((p12,p13,p4),p5) p0 p15 p7).1):Zt21_5)),Blk.mem (CV.pure (Ty.pair (Ty.slice (Ty.pair (Ty.int i64) (Ty.pair (Ty.int i64) (Ty.pair (Ty.int i64) (Ty.pair (Ty.int i64) (Ty.pair (Ty.int i64) (Ty.pair (Ty.int i64) (Ty.pair Ty.bool (Ty.pair (Ty.int i64) Ty.unit))))))))) (Ty.pair (Ty.slice (Ty.pair (Ty.int i64) (Ty.pair (Ty.int i64) (Ty.pair (Ty.int i64) (Ty.pair (Ty.int i64) (Ty.pair (Ty.int i64) (Ty.pair (Ty.slice (Ty.int i64)) (Ty.pair (Ty.int i64) Ty.unit)))))))) (Ty.pair (Ty.int i64) (Ty.pair Ty.bool Ty.unit)))) p6),Blk.mem (CV.pure (Ty.pair (Ty.int i64) (Ty.pair (Ty.int u32) Ty.unit)) (((v_61 ((p12,p13,p4),p5) p0 p15 p7).2.1):Zt21_10)),Blk.mem (CV.pure (Ty.pair (Ty.pair (Ty.slice (Ty.int u32)) (Ty.pair (Ty.slice (Ty.int i64)) (Ty.pair (Ty.int i64) Ty.unit))) (Ty.pair (Ty.int i64) (Ty.pair (Ty.int i64) Ty.unit))) (((v_61 ((p12,p13,p4),p5) p0 p15 p7).1):Zt21_5)),Blk.mem (CV.pure (Ty.pair (Ty.int i64) (Ty.pair (Ty.int u32) Ty.unit)) (((v_61 ((p12,p13,p4),p5) p0 p15 p7).2.1):Zt21_10)),Blk.mem (CV.int i64 ((v_61 ((p12,p13,p4),p5) p0 p15 p7).2.2.1)),Blk.fvec 51 (Ty.int u32) p12,Blk.fvec 3 (Ty.int i64) p13,Blk.mem (CV.pure (Ty.pair (Ty.slice (Ty.pair (Ty.int i64) (Ty.pair (Ty.int i64) (Ty.pair (Ty.int i64) (Ty.pair (Ty.int i64) (Ty.pair (Ty.int i64) (Ty.pair (Ty.int i64) (Ty.pair Ty.bool (Ty.pair (Ty.int i64) Ty.unit))))))))) (Ty.pair (Ty.slice (Ty.pair (Ty.int i64) (Ty.pair (Ty.int i64) (Ty.pair (Ty.int i64) (Ty.pair (Ty.int i64) (Ty.pair (Ty.int i64) (Ty.pair (Ty.slice (Ty.int i64)) (Ty.pair (Ty.int i64) Ty.unit)))))))) (Ty.pair (Ty.int i64) (Ty.pair Ty.bool Ty.unit)))) p14),Blk.ghost 2] 10)
 | .e2 p0 p1 p2 p3 p4 p5 p6 p7 p8 p9 p10 p11 p12 p13 p14 p15=>k Ex.normal (sx 46 [(0,CV.yld 9 21 (CV.pair CV.junk (CV.pair CV.junk (CV.pair CV.junk (CV.pair (CV.ptr 0 []) (CV.pair CV.junk (CV.pair (CV.ptr 2 []) (CV.pair (CV.ptr 3 []) (CV.pair (CV.ptr 4 []) (CV.pair (CV.ptr 5 []) (CV.pair CV.junk (CV.pair CV.junk (CV.pair CV.junk (CV.pair CV.junk (CV.pair CV.junk (CV.pair CV.junk (CV.pair CV.junk (CV.pair CV.junk (CV.pair CV.junk (CV.pair CV.junk (CV.pair CV.junk (CV.pair CV.junk (CV.pair CV.junk (CV.pair CV.junk (CV.pair CV.junk (CV.pair CV.junk (CV.pair CV.junk (CV.pair CV.junk (CV.pair CV.junk (CV.pair CV.junk (CV.pair CV.junk (CV.pair CV.junk (CV.pair CV.junk (CV.pair CV.junk (CV.pair CV.junk (CV.pair CV.junk (CV.pair CV.junk (CV.pair CV.junk (CV.pair CV.junk (CV.pair CV.junk (CV.pair CV.junk (CV.pair CV.junk (CV.pair CV.junk (CV.pair CV.junk (CV.pair CV.junk (CV.pair CV.junk (CV.pair CV.junk (CV.pair CV.junk (CV.pair CV.junk (CV.pair CV.junk (CV.pair CV.junk (CV.pair CV.junk (CV.pair CV.junk (CV.pair CV.junk (CV.pair CV.junk (CV.pair CV.junk (CV.pair CV.junk (CV.pair CV.junk (CV.pair CV.junk (CV.pair CV.junk (CV.pair CV.junk (CV.pair CV.junk (CV.pair CV.junk (CV.pair CV.junk (CV.pair CV.junk (CV.pair CV.junk (CV.pair CV.junk (CV.pair CV.junk (CV.pair CV.junk (CV.pure Ty.unit PUnit.unit)))))))))))))))))))))))))))))))))))))))))))))))))))))))))))))))))))))),(1,CV.ptr 8 []),(3,CV.int i64 p0),(5,CV.whole 10),(16,CV.pure (Ty.slice (Ty.pair (Ty.int i64) (Ty.pair (Ty.int i64) (Ty.pair (Ty.int i64) (Ty.pair (Ty.int i64) (Ty.pair (Ty.int i64) (Ty.pair (Ty.slice (Ty.int i64)) (Ty.pair (Ty.int i64) Ty.unit)))))))) p1),(17,CV.int i64 p2),(18,CV.int i64 p3),(40,CV.yld 9 21 (CV.pair CV.junk (CV.pair CV.junk (CV.pair CV.junk (CV.pair (CV.ptr 0 []) (CV.pair CV.junk (CV.pair (CV.ptr 2 []) (CV.pair (CV.ptr 3 []) (CV.pair (CV.ptr 4 []) (CV.pair (CV.ptr 5 []) (CV.pair CV.junk (CV.pair CV.junk (CV.pair CV.junk (CV.pair CV.junk (CV.pair CV.junk (CV.pair CV.junk (CV.pair CV.junk (CV.pair CV.junk (CV.pair CV.junk (CV.pair CV.junk (CV.pair CV.junk (CV.pair CV.junk (CV.pair CV.junk (CV.pair CV.junk (CV.pair CV.junk (CV.pair CV.junk (CV.pair CV.junk (CV.pair CV.junk (CV.pair CV.junk (CV.pair CV.junk (CV.pair CV.junk (CV.pair CV.junk (CV.pair CV.junk (CV.pair CV.junk (CV.pair CV.junk (CV.pair CV.junk (CV.pair CV.junk (CV.pair CV.junk (CV.pair CV.junk (CV.pair CV.junk (CV.pair CV.junk (CV.pair CV.junk (CV.pair CV.junk (CV.pair CV.junk (CV.pair CV.junk (CV.pair CV.junk (CV.pair CV.junk (CV.pair CV.junk (CV.pair CV.junk (CV.pair CV.junk (CV.pair CV.junk (CV.pair CV.junk (CV.pair CV.junk (CV.pair CV.junk (CV.pair CV.junk (CV.pair CV.junk (CV.pair CV.junk (CV.pair CV.junk (CV.pair CV.junk (CV.pair CV.junk (CV.pair CV.junk (CV.pair CV.junk (CV.pair CV.junk (CV.pair CV.junk (CV.pair CV.junk (CV.pair CV.junk (CV.pair CV.junk (CV.pair CV.junk (CV.pair CV.junk (CV.pure Ty.unit PUnit.unit)))))))))))))))))))))))))))))))))))))))))))))))))))))))))))))))))))))),(41,CV.int i64 p0),(42,CV.whole 10),(43,CV.bool true),(44,CV.bool false)] [Blk.mem (CV.pure (Ty.pair (Ty.pair (Ty.slice (Ty.int u32)) (Ty.pair (Ty.slice (Ty.int i64)) (Ty.pair (Ty.int i64) Ty.unit))) (Ty.pair (Ty.int i64) (Ty.pair (Ty.int i64) Ty.unit))) (((v_61 ((p12,p13,p4),p5) p0 p15 p7).1):Zt21_5)),Blk.mem (CV.pure (Ty.pair (Ty.slice (Ty.pair (Ty.int i64) (Ty.pair (Ty.int i64) (Ty.pair (Ty.int i64) (Ty.pair (Ty.int i64) (Ty.pair (Ty.int i64) (Ty.pair (Ty.int i64) (Ty.pair Ty.bool (Ty.pair (Ty.int i64) Ty.unit))))))))) (Ty.pair (Ty.slice (Ty.pair (Ty.int i64) (Ty.pair (Ty.int i64) (Ty.pair (Ty.int i64) (Ty.pair (Ty.int i64) (Ty.pair (Ty.int i64) (Ty.pair (Ty.slice (Ty.int i64)) (Ty.pair (Ty.int i64) Ty.unit)))))))) (Ty.pair (Ty.int i64) (Ty.pair Ty.bool Ty.unit)))) p6),Blk.mem (CV.pure (Ty.pair (Ty.int i64) (Ty.pair (Ty.int u32) Ty.unit)) (((v_61 ((p12,p13,p4),p5) p0 p15 p7).2.1):Zt21_10)),Blk.mem (CV.pair (CV.pair (CV.nil 51 (Ty.int u32)) (CV.pair (CV.nil 3 (Ty.int i64)) (CV.pure (Ty.pair (Ty.int i64) Ty.unit) p8))) (CV.pure (Ty.pair (Ty.int i64) (Ty.pair (Ty.int i64) Ty.unit)) p9)),Blk.mem (CV.pure (Ty.pair (Ty.int i64) (Ty.pair (Ty.int u32) Ty.unit)) p10),Blk.mem (CV.int i64 p11),Blk.fvec 51 (Ty.int u32) p12,Blk.fvec 3 (Ty.int i64) p13,Blk.mem (CV.pure (Ty.pair (Ty.slice (Ty.pair (Ty.int i64) (Ty.pair (Ty.int i64) (Ty.pair (Ty.int i64) (Ty.pair (Ty.int i64) (Ty.pair (Ty.int i64) (Ty.pair (Ty.int i64) (Ty.pair Ty.bool (Ty.pair (Ty.int i64) Ty.unit))))))))) (Ty.pair (Ty.slice (Ty.pair (Ty.int i64) (Ty.pair (Ty.int i64) (Ty.pair (Ty.int i64) (Ty.pair (Ty.int i64) (Ty.pair (Ty.int i64) (Ty.pair (Ty.slice (Ty.int i64)) (Ty.pair (Ty.int i64) Ty.unit)))))))) (Ty.pair (Ty.int i64) (Ty.pair Ty.bool Ty.unit)))) p14),Blk.ghost 0,Blk.fvec 51 (Ty.int u32) p15] 10)
noncomputable def Sp.S_21_91_1_0{R:Type}(k:E_21_91_1_0->Option R)(p0:Int)(p1:List (Int×Int×Int×Int×Int×List Int×Int×Unit))(p2 p3:Int)(p4:Int×Unit)(p5:Int×Int×Unit)(p6:List (Int×Int×Int×Int×Int×Int×Bool×Int×Unit)×List (Int×Int×Int×Int×Int×List Int×Int×Unit)×Int×Bool×Unit)(p7:Int×Int×Unit)(p8:Int×Unit)(p9 p10:Int×Int×Unit)(p11:Int)(p12 p13:List Int)(p14:List (Int×Int×Int×Int×Int×Int×Bool×Int×Unit)×List (Int×Int×Int×Int×Int×List Int×Int×Unit)×Int×Bool×Unit)(p15:List Int):Option R:=
 gd (p_60 ((p12,p13,p4),p5) p0 p15) (bif(v_60 ((p12,p13,p4),p5) p0 p15).1 then k (E_21_91_1_0.e0 p0 p1 p2 p3 p4 p5 p6 p7 p8 p9 p10 p11 p12 p13 p14 p15)else gd (p_61 ((p12,p13,p4),p5) p0 p15 p7) (bif(v_61 ((p12,p13,p4),p5) p0 p15 p7).2.2.1 !=0 then k (E_21_91_1_0.e1 p0 p4 p5 p6 p7 p12 p13 p14 p15)else k (E_21_91_1_0.e2 p0 p1 p2 p3 p4 p5 p6 p7 p8 p9 p10 p11 p12 p13 p14 p15)))
noncomputable def Sp.J_21_91_1_0(p0:Int)(p1:List (Int×Int×Int×Int×Int×List Int×Int×Unit))(p2 p3:Int)(p4:Int×Unit)(p5:Int×Int×Unit)(p6:List (Int×Int×Int×Int×Int×Int×Bool×Int×Unit)×List (Int×Int×Int×Int×Int×List Int×Int×Unit)×Int×Bool×Unit)(p7:Int×Int×Unit)(p8:Int×Unit)(p9 p10:Int×Int×Unit)(p11:Int)(p12 p13:List Int)(p14:List (Int×Int×Int×Int×Int×Int×Bool×Int×Unit)×List (Int×Int×Int×Int×Int×List Int×Int×Unit)×Int×Bool×Unit)(p15:List Int):Option E_21_91_1_0:=S_21_91_1_0 some p0 p1 p2 p3 p4 p5 p6 p7 p8 p9 p10 p11 p12 p13 p14 p15
noncomputable def O_21_91_1_0{R:Type}:Orc R:=orL T_21_91_1_0 (fun a=>J_21_91_1_0 a.1 a.2.1 a.2.2.1 a.2.2.2.1 a.2.2.2.2.1 a.2.2.2.2.2.1 a.2.2.2.2.2.2.1 a.2.2.2.2.2.2.2.1 a.2.2.2.2.2.2.2.2.1 a.2.2.2.2.2.2.2.2.2.1 a.2.2.2.2.2.2.2.2.2.2.1 a.2.2.2.2.2.2.2.2.2.2.2.1 a.2.2.2.2.2.2.2.2.2.2.2.2.1 a.2.2.2.2.2.2.2.2.2.2.2.2.2.1 a.2.2.2.2.2.2.2.2.2.2.2.2.2.2.1 a.2.2.2.2.2.2.2.2.2.2.2.2.2.2.2.1) Y_21_91_1_0
theorem OK_21_91_1_0{R:Type}:okF (R:=R) sm_21 3 (ni (nf 91 0) 0) O_21_91_1_0:=jp noO_ok (os:=[]) trivial T_21_91_1_0 (fun R k a=>S_21_91_1_0 k a.1 a.2.1 a.2.2.1 a.2.2.2.1 a.2.2.2.2.1 a.2.2.2.2.2.1 a.2.2.2.2.2.2.1 a.2.2.2.2.2.2.2.1 a.2.2.2.2.2.2.2.2.1 a.2.2.2.2.2.2.2.2.2.1 a.2.2.2.2.2.2.2.2.2.2.1 a.2.2.2.2.2.2.2.2.2.2.2.1 a.2.2.2.2.2.2.2.2.2.2.2.2.1 a.2.2.2.2.2.2.2.2.2.2.2.2.2.1 a.2.2.2.2.2.2.2.2.2.2.2.2.2.2.1 a.2.2.2.2.2.2.2.2.2.2.2.2.2.2.2.1) Y_21_91_1_0 (fun k a=>by kernel_rfl) (fun Y a=>by
 unfold S_21_91_1_0
 repeat' first|apply gdN|apply condN|rfl) (ok0 _)
noncomputable def T_21_91_1_1:PS:=⟨46,[(0,.yl 9 21 (.kc (.pair .junk (.pair .junk (.pair .junk (.pair (.ptr 0 []) (.pair .junk (.pair (.ptr 2 []) (.pair (.ptr 3 []) (.pair (.ptr 4 []) (.pair (.ptr 5 []) (.pair .junk (.pair .junk (.pair .junk (.pair .junk (.pair .junk (.pair .junk (.pair .junk (.pair .junk (.pair .junk (.pair .junk (.pair .junk (.pair .junk (.pair .junk (.pair .junk (.pair .junk (.pair .junk (.pair .junk (.pair .junk (.pair .junk (.pair .junk (.pair .junk (.pair .junk (.pair .junk (.pair .junk (.pair .junk (.pair .junk (.pair .junk (.pair .junk (.pair .junk (.pair .junk (.pair .junk (.pair .junk (.pair .junk (.pair .junk (.pair .junk (.pair .junk (.pair .junk (.pair .junk (.pair .junk (.pair .junk (.pair .junk (.pair .junk (.pair .junk (.pair .junk (.pair .junk (.pair .junk (.pair .junk (.pair .junk (.pair .junk (.pair .junk (.pair .junk (.pair .junk (.pair .junk (.pair .junk (.pair .junk (.pair .junk (.pair .junk (.pair .junk (.pair .junk (.pure .unit PUnit.unit))))))))))))))))))))))))))))))))))))))))))))))))))))))))))))))))))))))),(1,.kc (.ptr 8 [])),(3,.hv (.int .i64)),(5,.kc (.whole 10)),(16,.hv Zy21_6),(17,.hv (.int .i64)),(18,.hv (.int .i64))],[.mem (.hv Zy21_8),.mem (.hv Zy21_1),.mem (.hv Zy21_7),.mem (.pr (.pr (.kc (.nil 51 (.int .u32))) (.pr (.kc (.nil 3 (.int .i64))) (.hv (.pair (.int .i64) .unit)))) (.hv Zy21_9)),.mem (.hv Zy21_7),.mem (.hv (.int .i64)),.fvec 51 (.int .u32),.fvec 3 (.int .i64),.mem (.hv Zy21_1),.gh 0,.vec 51 (.int .u32)],10⟩
inductive Sp.E_21_91_1_1 where
 |e0 (p0:Int) (p1:Zt21_4) (p2 p3:Int) (p4:Zt21_3) (p5:Zt21_0) (p6:Zt21_2) (p7:Int×Unit) (p8 p9:Zt21_2) (p10:Int) (p11 p12:List Int) (p13:Zt21_0) (p14:List Int)
 |e1 (p0:Int) (p4:Zt21_3) (p5:Zt21_0) (p6:Zt21_2) (p11 p12:List Int) (p13:Zt21_0) (p14:List Int)
 |e2 (p0:Int) (p1:Zt21_4) (p2 p3:Int) (p4:Zt21_3) (p5:Zt21_0) (p6:Zt21_2) (p7:Int×Unit) (p8 p9:Zt21_2) (p10:Int) (p11 p12:List Int) (p13:Zt21_0) (p14:List Int)
noncomputable def Sp.B_21_91_1_1{R:Type}(r:Option E_21_91_1_1)(k0:Int->Zt21_4->Int->Int->Zt21_3->Zt21_0->Zt21_2->(Int×Unit)->Zt21_2->Zt21_2->Int->List Int->List Int->Zt21_0->List Int->Option R)(k1:Int->Zt21_3->Zt21_0->Zt21_2->List Int->List Int->Zt21_0->List Int->Option R)(k2:Int->Zt21_4->Int->Int->Zt21_3->Zt21_0->Zt21_2->(Int×Unit)->Zt21_2->Zt21_2->Int->List Int->List Int->Zt21_0->List Int->Option R):Option R:=match r with
 |none=>none
 |some (.e0 p0 p1 p2 p3 p4 p5 p6 p7 p8 p9 p10 p11 p12 p13 p14)=>k0 p0 p1 p2 p3 p4 p5 p6 p7 p8 p9 p10 p11 p12 p13 p14
 |some (.e1 p0 p4 p5 p6 p11 p12 p13 p14)=>k1 p0 p4 p5 p6 p11 p12 p13 p14
 |some (.e2 p0 p1 p2 p3 p4 p5 p6 p7 p8 p9 p10 p11 p12 p13 p14)=>k2 p0 p1 p2 p3 p4 p5 p6 p7 p8 p9 p10 p11 p12 p13 p14
theorem Bn_21_91_1_1{A R:Type}{r:Option E_21_91_1_1}{f:A->Option R}{k0:Int->Zt21_4->Int->Int->Zt21_3->Zt21_0->Zt21_2->(Int×Unit)->Zt21_2->Zt21_2->Int->List Int->List Int->Zt21_0->List Int->Option A}{k1:Int->Zt21_3->Zt21_0->Zt21_2->List Int->List Int->Zt21_0->List Int->Option A}{k2:Int->Zt21_4->Int->Int->Zt21_3->Zt21_0->Zt21_2->(Int×Unit)->Zt21_2->Zt21_2->Int->List Int->List Int->Zt21_0->List Int->Option A}{l0:Int->Zt21_4->Int->Int->Zt21_3->Zt21_0->Zt21_2->(Int×Unit)->Zt21_2->Zt21_2->Int->List Int->List Int->Zt21_0->List Int->Option R}{l1:Int->Zt21_3->Zt21_0->Zt21_2->List Int->List Int->Zt21_0->List Int->Option R}{l2:Int->Zt21_4->Int->Int->Zt21_3->Zt21_0->Zt21_2->(Int×Unit)->Zt21_2->Zt21_2->Int->List Int->List Int->Zt21_0->List Int->Option R}(h0:∀p0 p1 p2 p3 p4 p5 p6 p7 p8 p9 p10 p11 p12 p13 p14,(k0 p0 p1 p2 p3 p4 p5 p6 p7 p8 p9 p10 p11 p12 p13 p14).bind f=l0 p0 p1 p2 p3 p4 p5 p6 p7 p8 p9 p10 p11 p12 p13 p14)(h1:∀p0 p4 p5 p6 p11 p12 p13 p14,(k1 p0 p4 p5 p6 p11 p12 p13 p14).bind f=l1 p0 p4 p5 p6 p11 p12 p13 p14)(h2:∀p0 p1 p2 p3 p4 p5 p6 p7 p8 p9 p10 p11 p12 p13 p14,(k2 p0 p1 p2 p3 p4 p5 p6 p7 p8 p9 p10 p11 p12 p13 p14).bind f=l2 p0 p1 p2 p3 p4 p5 p6 p7 p8 p9 p10 p11 p12 p13 p14):(B_21_91_1_1 r k0 k1 k2).bind f=B_21_91_1_1 r l0 l1 l2:=by
 cases r with
 |none=>rfl
 |some e=>cases e<;>first|apply h0|apply h1|apply h2
noncomputable def Y_21_91_1_1{R:Type}(k:Ex->St->Option R):E_21_91_1_1->Option R
 | .e0 p0 p1 p2 p3 p4 p5 p6 p7 p8 p9 p10 p11 p12 p13 p14=>k Ex.normal (sx 46 [(0,CV.yld 9 21 (CV.pair CV.junk (CV.pair CV.junk (CV.pair CV.junk (CV.pair (CV.ptr 0 []) (CV.pair CV.junk (CV.pair (CV.ptr 2 []) (CV.pair (CV.ptr 3 []) (CV.pair (CV.ptr 4 []) (CV.pair (CV.ptr 5 []) (CV.pair CV.junk (CV.pair CV.junk (CV.pair CV.junk (CV.pair CV.junk (CV.pair CV.junk (CV.pair CV.junk (CV.pair CV.junk (CV.pair CV.junk (CV.pair CV.junk (CV.pair CV.junk (CV.pair CV.junk (CV.pair CV.junk (CV.pair CV.junk (CV.pair CV.junk (CV.pair CV.junk (CV.pair CV.junk (CV.pair CV.junk (CV.pair CV.junk (CV.pair CV.junk (CV.pair CV.junk (CV.pair CV.junk (CV.pair CV.junk (CV.pair CV.junk (CV.pair CV.junk (CV.pair CV.junk (CV.pair CV.junk (CV.pair CV.junk (CV.pair CV.junk (CV.pair CV.junk (CV.pair CV.junk (CV.pair CV.junk (CV.pair CV.junk (CV.pair CV.junk (CV.pair CV.junk (CV.pair CV.junk (CV.pair CV.junk (CV.pair CV.junk (CV.pair CV.junk (CV.pair CV.junk (CV.pair CV.junk (CV.pair CV.junk (CV.pair CV.junk (CV.pair CV.junk (CV.pair CV.junk (CV.pair CV.junk (CV.pair CV.junk (CV.pair CV.junk (CV.pair CV.junk (CV.pair CV.junk (CV.pair CV.junk (CV.pair CV.junk (CV.pair CV.junk (CV.pair CV.junk (CV.pair CV.junk (CV.pair CV.junk (CV.pair CV.junk (CV.pair CV.junk (CV.pair CV.junk (CV.pair CV.junk (CV.pure Ty.unit PUnit.unit)))))))))))))))))))))))))))))))))))))))))))))))))))))))))))))))))))))),(1,CV.ptr 8 []),(3,CV.int i64 p0),(5,CV.whole 10),(16,CV.pure (Ty.slice (Ty.pair (Ty.int i64) (Ty.pair (Ty.int i64) (Ty.pair (Ty.int i64) (Ty.pair (Ty.int i64) (Ty.pair (Ty.int i64) (Ty.pair (Ty.slice (Ty.int i64)) (Ty.pair (Ty.int i64) Ty.unit)))))))) p1),(17,CV.int i64 p2),(18,CV.int i64 p3),(40,CV.yld 9 21 (CV.pair CV.junk (CV.pair CV.junk (CV.pair CV.junk (CV.pair (CV.ptr 0 []) (CV.pair CV.junk (CV.pair (CV.ptr 2 []) (CV.pair (CV.ptr 3 []) (CV.pair (CV.ptr 4 []) (CV.pair (CV.ptr 5 []) (CV.pair CV.junk (CV.pair CV.junk (CV.pair CV.junk (CV.pair CV.junk (CV.pair CV.junk (CV.pair CV.junk (CV.pair CV.junk (CV.pair CV.junk (CV.pair CV.junk (CV.pair CV.junk (CV.pair CV.junk (CV.pair CV.junk (CV.pair CV.junk (CV.pair CV.junk (CV.pair CV.junk (CV.pair CV.junk (CV.pair CV.junk (CV.pair CV.junk (CV.pair CV.junk (CV.pair CV.junk (CV.pair CV.junk (CV.pair CV.junk (CV.pair CV.junk (CV.pair CV.junk (CV.pair CV.junk (CV.pair CV.junk (CV.pair CV.junk (CV.pair CV.junk (CV.pair CV.junk (CV.pair CV.junk (CV.pair CV.junk (CV.pair CV.junk (CV.pair CV.junk (CV.pair CV.junk (CV.pair CV.junk (CV.pair CV.junk (CV.pair CV.junk (CV.pair CV.junk (CV.pair CV.junk (CV.pair CV.junk (CV.pair CV.junk (CV.pair CV.junk (CV.pair CV.junk (CV.pair CV.junk (CV.pair CV.junk (CV.pair CV.junk (CV.pair CV.junk (CV.pair CV.junk (CV.pair CV.junk (CV.pair CV.junk (CV.pair CV.junk (CV.pair CV.junk (CV.pair CV.junk (CV.pair CV.junk (CV.pair CV.junk (CV.pair CV.junk (CV.pair CV.junk (CV.pair CV.junk (CV.pair CV.junk (CV.pure Ty.unit PUnit.unit)))))))))))))))))))))))))))))))))))))))))))))))))))))))))))))))))))))),(41,CV.int i64 p0),(42,CV.whole 10),(43,CV.bool true),(44,CV.bool false)] [Blk.mem (CV.pure (Ty.pair (Ty.pair (Ty.slice (Ty.int u32)) (Ty.pair (Ty.slice (Ty.int i64)) (Ty.pair (Ty.int i64) Ty.unit))) (Ty.pair (Ty.int i64) (Ty.pair (Ty.int i64) Ty.unit))) p4),Blk.mem (CV.pure (Ty.pair (Ty.slice (Ty.pair (Ty.int i64) (Ty.pair (Ty.int i64) (Ty.pair (Ty.int i64) (Ty.pair (Ty.int i64) (Ty.pair (Ty.int i64) (Ty.pair (Ty.int i64) (Ty.pair Ty.bool (Ty.pair (Ty.int i64) Ty.unit))))))))) (Ty.pair (Ty.slice (Ty.pair (Ty.int i64) (Ty.pair (Ty.int i64) (Ty.pair (Ty.int i64) (Ty.pair (Ty.int i64) (Ty.pair (Ty.int i64) (Ty.pair (Ty.slice (Ty.int i64)) (Ty.pair (Ty.int i64) Ty.unit)))))))) (Ty.pair (Ty.int i64) (Ty.pair Ty.bool Ty.unit)))) p5),Blk.mem (CV.pure (Ty.pair (Ty.int i64) (Ty.pair (Ty.int u32) Ty.unit)) p6),Blk.mem (CV.pair (CV.pair (CV.nil 51 (Ty.int u32)) (CV.pair (CV.nil 3 (Ty.int i64)) (CV.pure (Ty.pair (Ty.int i64) Ty.unit) p7))) (CV.pure (Ty.pair (Ty.int i64) (Ty.pair (Ty.int i64) Ty.unit)) p8)),Blk.mem (CV.pure (Ty.pair (Ty.int i64) (Ty.pair (Ty.int u32) Ty.unit)) p9),Blk.mem (CV.int i64 p10),Blk.fvec 51 (Ty.int u32) p11,Blk.fvec 3 (Ty.int i64) p12,Blk.mem (CV.pure (Ty.pair (Ty.slice (Ty.pair (Ty.int i64) (Ty.pair (Ty.int i64) (Ty.pair (Ty.int i64) (Ty.pair (Ty.int i64) (Ty.pair (Ty.int i64) (Ty.pair (Ty.int i64) (Ty.pair Ty.bool (Ty.pair (Ty.int i64) Ty.unit))))))))) (Ty.pair (Ty.slice (Ty.pair (Ty.int i64) (Ty.pair (Ty.int i64) (Ty.pair (Ty.int i64) (Ty.pair (Ty.int i64) (Ty.pair (Ty.int i64) (Ty.pair (Ty.slice (Ty.int i64)) (Ty.pair (Ty.int i64) Ty.unit)))))))) (Ty.pair (Ty.int i64) (Ty.pair Ty.bool Ty.unit)))) p13),Blk.ghost 0,Blk.vec 51 (Ty.int u32) p14] 10)
 | .e1 p0 p4 p5 p6 p11 p12 p13 p14=>k Ex.ret (sx 46 [] [Blk.mem (CV.pure (Ty.pair (Ty.pair (Ty.slice (Ty.int u32)) (Ty.pair (Ty.slice (Ty.int i64)) (Ty.pair (Ty.int i64) Ty.unit))) (Ty.pair (Ty.int i64) (Ty.pair (Ty.int i64) Ty.unit))) (((v_61 p4 p0 p14 p6).1):Zt21_5)),Blk.mem (CV.pure (Ty.pair (Ty.slice (Ty.pair (Ty.int i64) (Ty.pair (Ty.int i64) (Ty.pair (Ty.int i64) (Ty.pair (Ty.int i64) (Ty.pair (Ty.int i64) (Ty.pair (Ty.int i64) (Ty.pair Ty.bool (Ty.pair (Ty.int i64) Ty.unit))))))))) (Ty.pair (Ty.slice (Ty.pair (Ty.int i64) (Ty.pair (Ty.int i64) (Ty.pair (Ty.int i64) (Ty.pair (Ty.int i64) (Ty.pair (Ty.int i64) (Ty.pair (Ty.slice (Ty.int i64)) (Ty.pair (Ty.int i64) Ty.unit)))))))) (Ty.pair (Ty.int i64) (Ty.pair Ty.bool Ty.unit)))) p5),Blk.mem (CV.pure (Ty.pair (Ty.int i64) (Ty.pair (Ty.int u32) Ty.unit)) (((v_61 p4 p0 p14 p6).2.1):Zt21_10)),Blk.mem (CV.pure (Ty.pair (Ty.pair (Ty.slice (Ty.int u32)) (Ty.pair (Ty.slice (Ty.int i64)) (Ty.pair (Ty.int i64) Ty.unit))) (Ty.pair (Ty.int i64) (Ty.pair (Ty.int i64) Ty.unit))) (((v_61 p4 p0 p14 p6).1):Zt21_5)),Blk.mem (CV.pure (Ty.pair (Ty.int i64) (Ty.pair (Ty.int u32) Ty.unit)) (((v_61 p4 p0 p14 p6).2.1):Zt21_10)),Blk.mem (CV.int i64 ((v_61 p4 p0 p14 p6).2.2.1)),Blk.fvec 51 (Ty.int u32) p11,Blk.fvec 3 (Ty.int i64) p12,Blk.mem (CV.pure (Ty.pair (Ty.slice (Ty.pair (Ty.int i64) (Ty.pair (Ty.int i64) (Ty.pair (Ty.int i64) (Ty.pair (Ty.int i64) (Ty.pair (Ty.int i64) (Ty.pair (Ty.int i64) (Ty.pair Ty.bool (Ty.pair (Ty.int i64) Ty.unit))))))))) (Ty.pair (Ty.slice (Ty.pair (Ty.int i64) (Ty.pair (Ty.int i64) (Ty.pair (Ty.int i64) (Ty.pair (Ty.int i64) (Ty.pair (Ty.int i64) (Ty.pair (Ty.slice (Ty.int i64)) (Ty.pair (Ty.int i64) Ty.unit)))))))) (Ty.pair (Ty.int i64) (Ty.pair Ty.bool Ty.unit)))) p13),Blk.ghost 2] 10)
 | .e2 p0 p1 p2 p3 p4 p5 p6 p7 p8 p9 p10 p11 p12 p13 p14=>k Ex.normal (sx 46 [(0,CV.yld 9 21 (CV.pair CV.junk (CV.pair CV.junk (CV.pair CV.junk (CV.pair (CV.ptr 0 []) (CV.pair CV.junk (CV.pair (CV.ptr 2 []) (CV.pair (CV.ptr 3 []) (CV.pair (CV.ptr 4 []) (CV.pair (CV.ptr 5 []) (CV.pair CV.junk (CV.pair CV.junk (CV.pair CV.junk (CV.pair CV.junk (CV.pair CV.junk (CV.pair CV.junk (CV.pair CV.junk (CV.pair CV.junk (CV.pair CV.junk (CV.pair CV.junk (CV.pair CV.junk (CV.pair CV.junk (CV.pair CV.junk (CV.pair CV.junk (CV.pair CV.junk (CV.pair CV.junk (CV.pair CV.junk (CV.pair CV.junk (CV.pair CV.junk (CV.pair CV.junk (CV.pair CV.junk (CV.pair CV.junk (CV.pair CV.junk (CV.pair CV.junk (CV.pair CV.junk (CV.pair CV.junk (CV.pair CV.junk (CV.pair CV.junk (CV.pair CV.junk (CV.pair CV.junk (CV.pair CV.junk (CV.pair CV.junk (CV.pair CV.junk (CV.pair CV.junk (CV.pair CV.junk (CV.pair CV.junk (CV.pair CV.junk (CV.pair CV.junk (CV.pair CV.junk (CV.pair CV.junk (CV.pair CV.junk (CV.pair CV.junk (CV.pair CV.junk (CV.pair CV.junk (CV.pair CV.junk (CV.pair CV.junk (CV.pair CV.junk (CV.pair CV.junk (CV.pair CV.junk (CV.pair CV.junk (CV.pair CV.junk (CV.pair CV.junk (CV.pair CV.junk (CV.pair CV.junk (CV.pair CV.junk (CV.pair CV.junk (CV.pair CV.junk (CV.pair CV.junk (CV.pair CV.junk (CV.pure Ty.unit PUnit.unit)))))))))))))))))))))))))))))))))))))))))))))))))))))))))))))))))))))),(1,CV.ptr 8 []),(3,CV.int i64 p0),(5,CV.whole 10),(16,CV.pure (Ty.slice (Ty.pair (Ty.int i64) (Ty.pair (Ty.int i64) (Ty.pair (Ty.int i64) (Ty.pair (Ty.int i64) (Ty.pair (Ty.int i64) (Ty.pair (Ty.slice (Ty.int i64)) (Ty.pair (Ty.int i64) Ty.unit)))))))) p1),(17,CV.int i64 p2),(18,CV.int i64 p3),(40,CV.yld 9 21 (CV.pair CV.junk (CV.pair CV.junk (CV.pair CV.junk (CV.pair (CV.ptr 0 []) (CV.pair CV.junk (CV.pair (CV.ptr 2 []) (CV.pair (CV.ptr 3 []) (CV.pair (CV.ptr 4 []) (CV.pair (CV.ptr 5 []) (CV.pair CV.junk (CV.pair CV.junk (CV.pair CV.junk (CV.pair CV.junk (CV.pair CV.junk (CV.pair CV.junk (CV.pair CV.junk (CV.pair CV.junk (CV.pair CV.junk (CV.pair CV.junk (CV.pair CV.junk (CV.pair CV.junk (CV.pair CV.junk (CV.pair CV.junk (CV.pair CV.junk (CV.pair CV.junk (CV.pair CV.junk (CV.pair CV.junk (CV.pair CV.junk (CV.pair CV.junk (CV.pair CV.junk (CV.pair CV.junk (CV.pair CV.junk (CV.pair CV.junk (CV.pair CV.junk (CV.pair CV.junk (CV.pair CV.junk (CV.pair CV.junk (CV.pair CV.junk (CV.pair CV.junk (CV.pair CV.junk (CV.pair CV.junk (CV.pair CV.junk (CV.pair CV.junk (CV.pair CV.junk (CV.pair CV.junk (CV.pair CV.junk (CV.pair CV.junk (CV.pair CV.junk (CV.pair CV.junk (CV.pair CV.junk (CV.pair CV.junk (CV.pair CV.junk (CV.pair CV.junk (CV.pair CV.junk (CV.pair CV.junk (CV.pair CV.junk (CV.pair CV.junk (CV.pair CV.junk (CV.pair CV.junk (CV.pair CV.junk (CV.pair CV.junk (CV.pair CV.junk (CV.pair CV.junk (CV.pair CV.junk (CV.pair CV.junk (CV.pair CV.junk (CV.pair CV.junk (CV.pair CV.junk (CV.pure Ty.unit PUnit.unit)))))))))))))))))))))))))))))))))))))))))))))))))))))))))))))))))))))),(41,CV.int i64 p0),(42,CV.whole 10),(43,CV.bool true),(44,CV.bool false)] [Blk.mem (CV.pure (Ty.pair (Ty.pair (Ty.slice (Ty.int u32)) (Ty.pair (Ty.slice (Ty.int i64)) (Ty.pair (Ty.int i64) Ty.unit))) (Ty.pair (Ty.int i64) (Ty.pair (Ty.int i64) Ty.unit))) (((v_61 p4 p0 p14 p6).1):Zt21_5)),Blk.mem (CV.pure (Ty.pair (Ty.slice (Ty.pair (Ty.int i64) (Ty.pair (Ty.int i64) (Ty.pair (Ty.int i64) (Ty.pair (Ty.int i64) (Ty.pair (Ty.int i64) (Ty.pair (Ty.int i64) (Ty.pair Ty.bool (Ty.pair (Ty.int i64) Ty.unit))))))))) (Ty.pair (Ty.slice (Ty.pair (Ty.int i64) (Ty.pair (Ty.int i64) (Ty.pair (Ty.int i64) (Ty.pair (Ty.int i64) (Ty.pair (Ty.int i64) (Ty.pair (Ty.slice (Ty.int i64)) (Ty.pair (Ty.int i64) Ty.unit)))))))) (Ty.pair (Ty.int i64) (Ty.pair Ty.bool Ty.unit)))) p5),Blk.mem (CV.pure (Ty.pair (Ty.int i64) (Ty.pair (Ty.int u32) Ty.unit)) (((v_61 p4 p0 p14 p6).2.1):Zt21_10)),Blk.mem (CV.pair (CV.pair (CV.nil 51 (Ty.int u32)) (CV.pair (CV.nil 3 (Ty.int i64)) (CV.pure (Ty.pair (Ty.int i64) Ty.unit) p7))) (CV.pure (Ty.pair (Ty.int i64) (Ty.pair (Ty.int i64) Ty.unit)) p8)),Blk.mem (CV.pure (Ty.pair (Ty.int i64) (Ty.pair (Ty.int u32) Ty.unit)) p9),Blk.mem (CV.int i64 p10),Blk.fvec 51 (Ty.int u32) p11,Blk.fvec 3 (Ty.int i64) p12,Blk.mem (CV.pure (Ty.pair (Ty.slice (Ty.pair (Ty.int i64) (Ty.pair (Ty.int i64) (Ty.pair (Ty.int i64) (Ty.pair (Ty.int i64) (Ty.pair (Ty.int i64) (Ty.pair (Ty.int i64) (Ty.pair Ty.bool (Ty.pair (Ty.int i64) Ty.unit))))))))) (Ty.pair (Ty.slice (Ty.pair (Ty.int i64) (Ty.pair (Ty.int i64) (Ty.pair (Ty.int i64) (Ty.pair (Ty.int i64) (Ty.pair (Ty.int i64) (Ty.pair (Ty.slice (Ty.int i64)) (Ty.pair (Ty.int i64) Ty.unit)))))))) (Ty.pair (Ty.int i64) (Ty.pair Ty.bool Ty.unit)))) p13),Blk.ghost 0,Blk.fvec 51 (Ty.int u32) p14] 10)
noncomputable def Sp.S_21_91_1_1{R:Type}(k:E_21_91_1_1->Option R)(p0:Int)(p1:List (Int×Int×Int×Int×Int×List Int×Int×Unit))(p2 p3:Int)(p4:(List Int×List Int×Int×Unit)×Int×Int×Unit)(p5:List (Int×Int×Int×Int×Int×Int×Bool×Int×Unit)×List (Int×Int×Int×Int×Int×List Int×Int×Unit)×Int×Bool×Unit)(p6:Int×Int×Unit)(p7:Int×Unit)(p8 p9:Int×Int×Unit)(p10:Int)(p11 p12:List Int)(p13:List (Int×Int×Int×Int×Int×Int×Bool×Int×Unit)×List (Int×Int×Int×Int×Int×List Int×Int×Unit)×Int×Bool×Unit)(p14:List Int):Option R:=
 gd (p_60 p4 p0 p14) (bif(v_60 p4 p0 p14).1 then k (E_21_91_1_1.e0 p0 p1 p2 p3 p4 p5 p6 p7 p8 p9 p10 p11 p12 p13 p14)else gd (p_61 p4 p0 p14 p6) (bif(v_61 p4 p0 p14 p6).2.2.1 !=0 then k (E_21_91_1_1.e1 p0 p4 p5 p6 p11 p12 p13 p14)else k (E_21_91_1_1.e2 p0 p1 p2 p3 p4 p5 p6 p7 p8 p9 p10 p11 p12 p13 p14)))
noncomputable def Sp.J_21_91_1_1(p0:Int)(p1:List (Int×Int×Int×Int×Int×List Int×Int×Unit))(p2 p3:Int)(p4:(List Int×List Int×Int×Unit)×Int×Int×Unit)(p5:List (Int×Int×Int×Int×Int×Int×Bool×Int×Unit)×List (Int×Int×Int×Int×Int×List Int×Int×Unit)×Int×Bool×Unit)(p6:Int×Int×Unit)(p7:Int×Unit)(p8 p9:Int×Int×Unit)(p10:Int)(p11 p12:List Int)(p13:List (Int×Int×Int×Int×Int×Int×Bool×Int×Unit)×List (Int×Int×Int×Int×Int×List Int×Int×Unit)×Int×Bool×Unit)(p14:List Int):Option E_21_91_1_1:=S_21_91_1_1 some p0 p1 p2 p3 p4 p5 p6 p7 p8 p9 p10 p11 p12 p13 p14
noncomputable def O_21_91_1_1{R:Type}:Orc R:=orL T_21_91_1_1 (fun a=>J_21_91_1_1 a.1 a.2.1 a.2.2.1 a.2.2.2.1 a.2.2.2.2.1 a.2.2.2.2.2.1 a.2.2.2.2.2.2.1 a.2.2.2.2.2.2.2.1 a.2.2.2.2.2.2.2.2.1 a.2.2.2.2.2.2.2.2.2.1 a.2.2.2.2.2.2.2.2.2.2.1 a.2.2.2.2.2.2.2.2.2.2.2.1 a.2.2.2.2.2.2.2.2.2.2.2.2.1 a.2.2.2.2.2.2.2.2.2.2.2.2.2.1 a.2.2.2.2.2.2.2.2.2.2.2.2.2.2.1) Y_21_91_1_1 O_21_91_1_0
theorem OK_21_91_1_1{R:Type}:okF (R:=R) sm_21 3 (ni (nf 91 0) 0) O_21_91_1_1:=jp noO_ok (os:=[]) trivial T_21_91_1_1 (fun R k a=>S_21_91_1_1 k a.1 a.2.1 a.2.2.1 a.2.2.2.1 a.2.2.2.2.1 a.2.2.2.2.2.1 a.2.2.2.2.2.2.1 a.2.2.2.2.2.2.2.1 a.2.2.2.2.2.2.2.2.1 a.2.2.2.2.2.2.2.2.2.1 a.2.2.2.2.2.2.2.2.2.2.1 a.2.2.2.2.2.2.2.2.2.2.2.1 a.2.2.2.2.2.2.2.2.2.2.2.2.1 a.2.2.2.2.2.2.2.2.2.2.2.2.2.1 a.2.2.2.2.2.2.2.2.2.2.2.2.2.2.1) Y_21_91_1_1 (fun k a=>by kernel_rfl) (fun Y a=>by
 unfold S_21_91_1_1
 repeat' first|apply gdN|apply condN|rfl) OK_21_91_1_0
noncomputable def T_21_91_0_1:PS:=⟨46,[(0,.yl 9 21 (.kc (.pair .junk (.pair .junk (.pair .junk (.pair (.ptr 0 []) (.pair .junk (.pair (.ptr 2 []) (.pair (.ptr 3 []) (.pair (.ptr 4 []) (.pair (.ptr 5 []) (.pair .junk (.pair .junk (.pair .junk (.pair .junk (.pair .junk (.pair .junk (.pair .junk (.pair .junk (.pair .junk (.pair .junk (.pair .junk (.pair .junk (.pair .junk (.pair .junk (.pair .junk (.pair .junk (.pair .junk (.pair .junk (.pair .junk (.pair .junk (.pair .junk (.pair .junk (.pair .junk (.pair .junk (.pair .junk (.pair .junk (.pair .junk (.pair .junk (.pair .junk (.pair .junk (.pair .junk (.pair .junk (.pair .junk (.pair .junk (.pair .junk (.pair .junk (.pair .junk (.pair .junk (.pair .junk (.pair .junk (.pair .junk (.pair .junk (.pair .junk (.pair .junk (.pair .junk (.pair .junk (.pair .junk (.pair .junk (.pair .junk (.pair .junk (.pair .junk (.pair .junk (.pair .junk (.pair .junk (.pair .junk (.pair .junk (.pair .junk (.pair .junk (.pair .junk (.pure .unit PUnit.unit))))))))))))))))))))))))))))))))))))))))))))))))))))))))))))))))))))))),(1,.kc (.ptr 8 [])),(16,.hv Zy21_6),(17,.hv (.int .i64)),(18,.hv (.int .i64))],[.mem (.hv Zy21_8),.mem (.hv Zy21_1),.mem (.hv Zy21_7),.mem (.pr (.pr (.kc (.nil 51 (.int .u32))) (.pr (.kc (.nil 3 (.int .i64))) (.hv (.pair (.int .i64) .unit)))) (.hv Zy21_9)),.mem (.hv Zy21_7),.mem (.hv (.int .i64)),.fvec 51 (.int .u32),.fvec 3 (.int .i64),.mem (.hv Zy21_1),.gh 0],10⟩
inductive Sp.E_21_91_0_1 where
 |e0 (y91:Int) (y92:Zt21_3) (y93:Zt21_0) (y94:Zt21_2) (y95 y96:List Int) (y97:Zt21_0) (y98:List Int)
 |e1 (p3:Zt21_3) (p4:Zt21_0) (p5:Zt21_2) (p6:Int×Unit) (p7 p8:Zt21_2) (p9:Int) (p10 p11:List Int) (p12:Zt21_0)
noncomputable def Sp.B_21_91_0_1{R:Type}(r:Option E_21_91_0_1)(k0:Int->Zt21_3->Zt21_0->Zt21_2->List Int->List Int->Zt21_0->List Int->Option R)(k1:Zt21_3->Zt21_0->Zt21_2->(Int×Unit)->Zt21_2->Zt21_2->Int->List Int->List Int->Zt21_0->Option R):Option R:=match r with
 |none=>none
 |some (.e0 y91 y92 y93 y94 y95 y96 y97 y98)=>k0 y91 y92 y93 y94 y95 y96 y97 y98
 |some (.e1 p3 p4 p5 p6 p7 p8 p9 p10 p11 p12)=>k1 p3 p4 p5 p6 p7 p8 p9 p10 p11 p12
noncomputable def Y_21_91_0_1{R:Type}(k:Ex->St->Option R):E_21_91_0_1->Option R
 | .e0 y91 y92 y93 y94 y95 y96 y97 y98=>k Ex.ret (sx 46 [] [Blk.mem (CV.pure (Ty.pair (Ty.pair (Ty.slice (Ty.int u32)) (Ty.pair (Ty.slice (Ty.int i64)) (Ty.pair (Ty.int i64) Ty.unit))) (Ty.pair (Ty.int i64) (Ty.pair (Ty.int i64) Ty.unit))) (((v_61 y92 y91 y98 y94).1):Zt21_5)),Blk.mem (CV.pure (Ty.pair (Ty.slice (Ty.pair (Ty.int i64) (Ty.pair (Ty.int i64) (Ty.pair (Ty.int i64) (Ty.pair (Ty.int i64) (Ty.pair (Ty.int i64) (Ty.pair (Ty.int i64) (Ty.pair Ty.bool (Ty.pair (Ty.int i64) Ty.unit))))))))) (Ty.pair (Ty.slice (Ty.pair (Ty.int i64) (Ty.pair (Ty.int i64) (Ty.pair (Ty.int i64) (Ty.pair (Ty.int i64) (Ty.pair (Ty.int i64) (Ty.pair (Ty.slice (Ty.int i64)) (Ty.pair (Ty.int i64) Ty.unit)))))))) (Ty.pair (Ty.int i64) (Ty.pair Ty.bool Ty.unit)))) y93),Blk.mem (CV.pure (Ty.pair (Ty.int i64) (Ty.pair (Ty.int u32) Ty.unit)) (((v_61 y92 y91 y98 y94).2.1):Zt21_10)),Blk.mem (CV.pure (Ty.pair (Ty.pair (Ty.slice (Ty.int u32)) (Ty.pair (Ty.slice (Ty.int i64)) (Ty.pair (Ty.int i64) Ty.unit))) (Ty.pair (Ty.int i64) (Ty.pair (Ty.int i64) Ty.unit))) (((v_61 y92 y91 y98 y94).1):Zt21_5)),Blk.mem (CV.pure (Ty.pair (Ty.int i64) (Ty.pair (Ty.int u32) Ty.unit)) (((v_61 y92 y91 y98 y94).2.1):Zt21_10)),Blk.mem (CV.int i64 ((v_61 y92 y91 y98 y94).2.2.1)),Blk.fvec 51 (Ty.int u32) y95,Blk.fvec 3 (Ty.int i64) y96,Blk.mem (CV.pure (Ty.pair (Ty.slice (Ty.pair (Ty.int i64) (Ty.pair (Ty.int i64) (Ty.pair (Ty.int i64) (Ty.pair (Ty.int i64) (Ty.pair (Ty.int i64) (Ty.pair (Ty.int i64) (Ty.pair Ty.bool (Ty.pair (Ty.int i64) Ty.unit))))))))) (Ty.pair (Ty.slice (Ty.pair (Ty.int i64) (Ty.pair (Ty.int i64) (Ty.pair (Ty.int i64) (Ty.pair (Ty.int i64) (Ty.pair (Ty.int i64) (Ty.pair (Ty.slice (Ty.int i64)) (Ty.pair (Ty.int i64) Ty.unit)))))))) (Ty.pair (Ty.int i64) (Ty.pair Ty.bool Ty.unit)))) y97),Blk.ghost 2] 10)
 | .e1 p3 p4 p5 p6 p7 p8 p9 p10 p11 p12=>k (Ex.exit 0) (sx 46 [] [Blk.mem (CV.pure (Ty.pair (Ty.pair (Ty.slice (Ty.int u32)) (Ty.pair (Ty.slice (Ty.int i64)) (Ty.pair (Ty.int i64) Ty.unit))) (Ty.pair (Ty.int i64) (Ty.pair (Ty.int i64) Ty.unit))) p3),Blk.mem (CV.pure (Ty.pair (Ty.slice (Ty.pair (Ty.int i64) (Ty.pair (Ty.int i64) (Ty.pair (Ty.int i64) (Ty.pair (Ty.int i64) (Ty.pair (Ty.int i64) (Ty.pair (Ty.int i64) (Ty.pair Ty.bool (Ty.pair (Ty.int i64) Ty.unit))))))))) (Ty.pair (Ty.slice (Ty.pair (Ty.int i64) (Ty.pair (Ty.int i64) (Ty.pair (Ty.int i64) (Ty.pair (Ty.int i64) (Ty.pair (Ty.int i64) (Ty.pair (Ty.slice (Ty.int i64)) (Ty.pair (Ty.int i64) Ty.unit)))))))) (Ty.pair (Ty.int i64) (Ty.pair Ty.bool Ty.unit)))) p4),Blk.mem (CV.pure (Ty.pair (Ty.int i64) (Ty.pair (Ty.int u32) Ty.unit)) p5),Blk.mem (CV.pair (CV.pair (CV.nil 51 (Ty.int u32)) (CV.pair (CV.nil 3 (Ty.int i64)) (CV.pure (Ty.pair (Ty.int i64) Ty.unit) p6))) (CV.pure (Ty.pair (Ty.int i64) (Ty.pair (Ty.int i64) Ty.unit)) p7)),Blk.mem (CV.pure (Ty.pair (Ty.int i64) (Ty.pair (Ty.int u32) Ty.unit)) p8),Blk.mem (CV.int i64 p9),Blk.fvec 51 (Ty.int u32) p10,Blk.fvec 3 (Ty.int i64) p11,Blk.mem (CV.pure (Ty.pair (Ty.slice (Ty.pair (Ty.int i64) (Ty.pair (Ty.int i64) (Ty.pair (Ty.int i64) (Ty.pair (Ty.int i64) (Ty.pair (Ty.int i64) (Ty.pair (Ty.int i64) (Ty.pair Ty.bool (Ty.pair (Ty.int i64) Ty.unit))))))))) (Ty.pair (Ty.slice (Ty.pair (Ty.int i64) (Ty.pair (Ty.int i64) (Ty.pair (Ty.int i64) (Ty.pair (Ty.int i64) (Ty.pair (Ty.int i64) (Ty.pair (Ty.slice (Ty.int i64)) (Ty.pair (Ty.int i64) Ty.unit)))))))) (Ty.pair (Ty.int i64) (Ty.pair Ty.bool Ty.unit)))) p12),Blk.ghost 0] 10)
noncomputable def Sp.S_21_91_0_1{R:Type}(K:(List (Int×Int×Int×Int×Int×List Int×Int×Unit))->Int->Int->((List Int×List Int×Int×Unit)×Int×Int×Unit)->(List (Int×Int×Int×Int×Int×Int×Bool×Int×Unit)×List (Int×Int×Int×Int×Int×List Int×Int×Unit)×Int×Bool×Unit)->(Int×Int×Unit)->(Int×Unit)->(Int×Int×Unit)->(Int×Int×Unit)->Int->List Int->List Int->(List (Int×Int×Int×Int×Int×Int×Bool×Int×Unit)×List (Int×Int×Int×Int×Int×List Int×Int×Unit)×Int×Bool×Unit)->Option R)(k:E_21_91_0_1->Option R)(p0:List (Int×Int×Int×Int×Int×List Int×Int×Unit))(p1 p2:Int)(p3:(List Int×List Int×Int×Unit)×Int×Int×Unit)(p4:List (Int×Int×Int×Int×Int×Int×Bool×Int×Unit)×List (Int×Int×Int×Int×Int×List Int×Int×Unit)×Int×Bool×Unit)(p5:Int×Int×Unit)(p6:Int×Unit)(p7 p8:Int×Int×Unit)(p9:Int)(p10 p11:List Int)(p12:List (Int×Int×Int×Int×Int×Int×Bool×Int×Unit)×List (Int×Int×Int×Int×Int×List Int×Int×Unit)×Int×Bool×Unit):Option R:=
 bif decide (p2<p1)then gd (inB p2 (length p0)) (gd (p_43 (getD p0 (toNat p2) Zd0)) (bif(v_43 (getD p0 (toNat p2) Zd0)).1 then gd (p_34 (getD p0 (toNat p2) Zd0)) (gd (inB p2 (length (p12.1))) (gd (room (1+length ((v_34 (getD p0 (toNat p2) Zd0)).1)) 4) (B_21_91_1_1 (J_21_91_1_1 p2 p0 p1 p2 p3 p4 p5 p6 p7 p8 p9 p10 p11 p12 ([wrap u32 ((getD (p12.1) (toNat p2) Zd1).1)]++(v_34 (getD p0 (toNat p2) Zd0)).1)) (fun y76 y77 y78 y79 y80 y81 y82 y83 y84 y85 y86 y87 y88 y89 y90=>K y77 y78 (wrap i64 (y79+1)) y80 y81 y82 y83 y84 y85 y86 y87 y88 y89) (fun y91 y92 y93 y94 y95 y96 y97 y98=>k (E_21_91_0_1.e0 y91 y92 y93 y94 y95 y96 y97 y98)) fun y99 y100 y101 y102 y103 y104 y105 y106 y107 y108 y109 y110 y111 y112 y113=>K y100 y101 (wrap i64 (y102+1)) ((v_61 y103 y99 y113 y105).1) y104 ((v_61 y103 y99 y113 y105).2.1) y106 y107 y108 y109 y110 y111 y112)))else B_21_91_1_1 (J_21_91_1_1 p2 p0 p1 p2 p3 p4 p5 p6 p7 p8 p9 p10 p11 p12 []) (fun y114 y115 y116 y117 y118 y119 y120 y121 y122 y123 y124 y125 y126 y127 y128=>K y115 y116 (wrap i64 (y117+1)) y118 y119 y120 y121 y122 y123 y124 y125 y126 y127) (fun y129 y130 y131 y132 y133 y134 y135 y136=>k (E_21_91_0_1.e0 y129 y130 y131 y132 y133 y134 y135 y136)) fun y137 y138 y139 y140 y141 y142 y143 y144 y145 y146 y147 y148 y149 y150 y151=>K y138 y139 (wrap i64 (y140+1)) ((v_61 y141 y137 y151 y143).1) y142 ((v_61 y141 y137 y151 y143).2.1) y144 y145 y146 y147 y148 y149 y150))else k (E_21_91_0_1.e1 p3 p4 p5 p6 p7 p8 p9 p10 p11 p12)
noncomputable def Sp.L_21_91_0_1:Nat->(List (Int×Int×Int×Int×Int×List Int×Int×Unit))->Int->Int->((List Int×List Int×Int×Unit)×Int×Int×Unit)->(List (Int×Int×Int×Int×Int×Int×Bool×Int×Unit)×List (Int×Int×Int×Int×Int×List Int×Int×Unit)×Int×Bool×Unit)->(Int×Int×Unit)->(Int×Unit)->(Int×Int×Unit)->(Int×Int×Unit)->Int->List Int->List Int->(List (Int×Int×Int×Int×Int×Int×Bool×Int×Unit)×List (Int×Int×Int×Int×Int×List Int×Int×Unit)×Int×Bool×Unit)->Option E_21_91_0_1
 |0,_,_,_,_,_,_,_,_,_,_,_,_,_=>none
 |m+1,p0,p1,p2,p3,p4,p5,p6,p7,p8,p9,p10,p11,p12=>S_21_91_0_1 (L_21_91_0_1 m) some p0 p1 p2 p3 p4 p5 p6 p7 p8 p9 p10 p11 p12
noncomputable def l_21_91_0_1(m:Nat)(a:T_21_91_0_1.E):Option E_21_91_0_1:=L_21_91_0_1 m a.1 a.2.1 a.2.2.1 a.2.2.2.1 a.2.2.2.2.1 a.2.2.2.2.2.1 a.2.2.2.2.2.2.1 a.2.2.2.2.2.2.2.1 a.2.2.2.2.2.2.2.2.1 a.2.2.2.2.2.2.2.2.2.1 a.2.2.2.2.2.2.2.2.2.2.1 a.2.2.2.2.2.2.2.2.2.2.2.1 a.2.2.2.2.2.2.2.2.2.2.2.2.1
noncomputable def O_21_91_0_1{R:Type}:Orc R:=orL T_21_91_0_1 (l_21_91_0_1 FU) Y_21_91_0_1
theorem loop_21_91_0_1{R:Type}(k:Ex->St->Option R):∀m a,evLoopN (evCodeL sm_21 FU (ovr noO (evFn sm_21 fns FU 3)) (mkT (inner (nf 91 0)) [O_21_91_1_1]) (inner (nf 91 0))) (St.norm (lv (nf 91 0))) m (T_21_91_0_1.inst a) k=(l_21_91_0_1 m a).bind (Y_21_91_0_1 k):=lpN l_21_91_0_1 (fun R K k a=>S_21_91_0_1 (fun p0 p1 p2 p3 p4 p5 p6 p7 p8 p9 p10 p11 p12=>K (p0,p1,p2,p3,p4,p5,p6,p7,p8,p9,p10,p11,p12,())) k a.1 a.2.1 a.2.2.1 a.2.2.2.1 a.2.2.2.2.1 a.2.2.2.2.2.1 a.2.2.2.2.2.2.1 a.2.2.2.2.2.2.2.1 a.2.2.2.2.2.2.2.2.1 a.2.2.2.2.2.2.2.2.2.1 a.2.2.2.2.2.2.2.2.2.2.1 a.2.2.2.2.2.2.2.2.2.2.2.1 a.2.2.2.2.2.2.2.2.2.2.2.2.1) (fun _=>rfl) (fun _ _=>rfl) (fun K a=>by kernel_rfl) (fun K a=>by
 unfold S_21_91_0_1
 repeat' first|apply gdN|apply condN|(apply Bn_21_91_1_1<;>intros)|rfl)
theorem OK_21_91_0_1{R:Type}:okF (R:=R) sm_21 3 (nf 91 0) O_21_91_0_1:=lp noO_ok (os:=[O_21_91_1_1]) ⟨OK_21_91_1_1,trivial⟩ T_21_91_0_1 l_21_91_0_1 (fun R K k a=>S_21_91_0_1 (fun p0 p1 p2 p3 p4 p5 p6 p7 p8 p9 p10 p11 p12=>K (p0,p1,p2,p3,p4,p5,p6,p7,p8,p9,p10,p11,p12,())) k a.1 a.2.1 a.2.2.1 a.2.2.2.1 a.2.2.2.2.1 a.2.2.2.2.2.1 a.2.2.2.2.2.2.1 a.2.2.2.2.2.2.2.1 a.2.2.2.2.2.2.2.2.1 a.2.2.2.2.2.2.2.2.2.1 a.2.2.2.2.2.2.2.2.2.2.1 a.2.2.2.2.2.2.2.2.2.2.2.1 a.2.2.2.2.2.2.2.2.2.2.2.2.1) Y_21_91_0_1 (fun _=>rfl) (fun _ _=>rfl) (fun k K a=>by kernel_rfl) (fun Y K a=>by
 unfold S_21_91_0_1
 repeat' first|apply gdN|apply condN|(apply Bn_21_91_1_1<;>intros)|rfl) (ok0 _)
noncomputable def T_21_91_0_0:PS:=⟨46,[(0,.yl 9 21 (.kc (.pair .junk (.pair .junk (.pair .junk (.pair (.ptr 0 []) (.pair .junk (.pair (.ptr 2 []) (.pair (.ptr 3 []) (.pair (.ptr 4 []) (.pair (.ptr 5 []) (.pair .junk (.pair .junk (.pair .junk (.pair .junk (.pair .junk (.pair .junk (.pair .junk (.pair .junk (.pair .junk (.pair .junk (.pair .junk (.pair .junk (.pair .junk (.pair .junk (.pair .junk (.pair .junk (.pair .junk (.pair .junk (.pair .junk (.pair .junk (.pair .junk (.pair .junk (.pair .junk (.pair .junk (.pair .junk (.pair .junk (.pair .junk (.pair .junk (.pair .junk (.pair .junk (.pair .junk (.pair .junk (.pair .junk (.pair .junk (.pair .junk (.pair .junk (.pair .junk (.pair .junk (.pair .junk (.pair .junk (.pair .junk (.pair .junk (.pair .junk (.pair .junk (.pair .junk (.pair .junk (.pair .junk (.pair .junk (.pair .junk (.pair .junk (.pair .junk (.pair .junk (.pair .junk (.pair .junk (.pair .junk (.pair .junk (.pair .junk (.pair .junk (.pair .junk (.pure .unit PUnit.unit))))))))))))))))))))))))))))))))))))))))))))))))))))))))))))))))))))))),(1,.kc (.ptr 8 [])),(16,.hv Zy21_6),(17,.hv (.int .i64)),(18,.hv (.int .i64))],[.mem (.pr (.pr (.kc (.whole 6)) (.pr (.kc (.whole 7)) (.hv (.pair (.int .i64) .unit)))) (.hv Zy21_9)),.mem (.hv Zy21_1),.mem (.hv Zy21_7),.mem (.pr (.pr (.kc (.nil 51 (.int .u32))) (.pr (.kc (.nil 3 (.int .i64))) (.hv (.pair (.int .i64) .unit)))) (.hv Zy21_9)),.mem (.hv Zy21_7),.mem (.hv (.int .i64)),.vec 51 (.int .u32),.vec 3 (.int .i64),.mem (.hv Zy21_1),.gh 0],10⟩
inductive Sp.E_21_91_0_0 where
 |e0 (y98:Int) (y99:Int×Unit) (y100:Zt21_2) (y101:Zt21_0) (y102:Zt21_2) (y103 y104:List Int) (y105:Zt21_0) (y106:List Int)
 |e1 (p3:Int×Unit) (p4:Zt21_2) (p5:Zt21_0) (p6:Zt21_2) (p7:Int×Unit) (p8 p9:Zt21_2) (p10:Int) (p11 p12:List Int) (p13:Zt21_0)
 |e2 (y91:Int) (y92:Zt21_3) (y93:Zt21_0) (y94:Zt21_2) (y95 y96:List Int) (y97:Zt21_0) (y98:List Int)
 |e3 (p3:Zt21_3) (p4:Zt21_0) (p5:Zt21_2) (p6:Int×Unit) (p7 p8:Zt21_2) (p9:Int) (p10 p11:List Int) (p12:Zt21_0)
noncomputable def Sp.B_21_91_0_0{R:Type}(r:Option E_21_91_0_0)(k0:Int->(Int×Unit)->Zt21_2->Zt21_0->Zt21_2->List Int->List Int->Zt21_0->List Int->Option R)(k1:(Int×Unit)->Zt21_2->Zt21_0->Zt21_2->(Int×Unit)->Zt21_2->Zt21_2->Int->List Int->List Int->Zt21_0->Option R)(k2:Int->Zt21_3->Zt21_0->Zt21_2->List Int->List Int->Zt21_0->List Int->Option R)(k3:Zt21_3->Zt21_0->Zt21_2->(Int×Unit)->Zt21_2->Zt21_2->Int->List Int->List Int->Zt21_0->Option R):Option R:=match r with
 |none=>none
 |some (.e0 y98 y99 y100 y101 y102 y103 y104 y105 y106)=>k0 y98 y99 y100 y101 y102 y103 y104 y105 y106
 |some (.e1 p3 p4 p5 p6 p7 p8 p9 p10 p11 p12 p13)=>k1 p3 p4 p5 p6 p7 p8 p9 p10 p11 p12 p13
 |some (.e2 y91 y92 y93 y94 y95 y96 y97 y98)=>k2 y91 y92 y93 y94 y95 y96 y97 y98
 |some (.e3 p3 p4 p5 p6 p7 p8 p9 p10 p11 p12)=>k3 p3 p4 p5 p6 p7 p8 p9 p10 p11 p12
noncomputable def Y_21_91_0_0{R:Type}(k:Ex->St->Option R):E_21_91_0_0->Option R
 | .e0 y98 y99 y100 y101 y102 y103 y104 y105 y106=>k Ex.ret (sx 46 [] [Blk.mem (CV.pure (Ty.pair (Ty.pair (Ty.slice (Ty.int u32)) (Ty.pair (Ty.slice (Ty.int i64)) (Ty.pair (Ty.int i64) Ty.unit))) (Ty.pair (Ty.int i64) (Ty.pair (Ty.int i64) Ty.unit))) (((v_61 ((y103,y104,y99),y100) y98 y106 y102).1):Zt21_5)),Blk.mem (CV.pure (Ty.pair (Ty.slice (Ty.pair (Ty.int i64) (Ty.pair (Ty.int i64) (Ty.pair (Ty.int i64) (Ty.pair (Ty.int i64) (Ty.pair (Ty.int i64) (Ty.pair (Ty.int i64) (Ty.pair Ty.bool (Ty.pair (Ty.int i64) Ty.unit))))))))) (Ty.pair (Ty.slice (Ty.pair (Ty.int i64) (Ty.pair (Ty.int i64) (Ty.pair (Ty.int i64) (Ty.pair (Ty.int i64) (Ty.pair (Ty.int i64) (Ty.pair (Ty.slice (Ty.int i64)) (Ty.pair (Ty.int i64) Ty.unit)))))))) (Ty.pair (Ty.int i64) (Ty.pair Ty.bool Ty.unit)))) y101),Blk.mem (CV.pure (Ty.pair (Ty.int i64) (Ty.pair (Ty.int u32) Ty.unit)) (((v_61 ((y103,y104,y99),y100) y98 y106 y102).2.1):Zt21_10)),Blk.mem (CV.pure (Ty.pair (Ty.pair (Ty.slice (Ty.int u32)) (Ty.pair (Ty.slice (Ty.int i64)) (Ty.pair (Ty.int i64) Ty.unit))) (Ty.pair (Ty.int i64) (Ty.pair (Ty.int i64) Ty.unit))) (((v_61 ((y103,y104,y99),y100) y98 y106 y102).1):Zt21_5)),Blk.mem (CV.pure (Ty.pair (Ty.int i64) (Ty.pair (Ty.int u32) Ty.unit)) (((v_61 ((y103,y104,y99),y100) y98 y106 y102).2.1):Zt21_10)),Blk.mem (CV.int i64 ((v_61 ((y103,y104,y99),y100) y98 y106 y102).2.2.1)),Blk.fvec 51 (Ty.int u32) y103,Blk.fvec 3 (Ty.int i64) y104,Blk.mem (CV.pure (Ty.pair (Ty.slice (Ty.pair (Ty.int i64) (Ty.pair (Ty.int i64) (Ty.pair (Ty.int i64) (Ty.pair (Ty.int i64) (Ty.pair (Ty.int i64) (Ty.pair (Ty.int i64) (Ty.pair Ty.bool (Ty.pair (Ty.int i64) Ty.unit))))))))) (Ty.pair (Ty.slice (Ty.pair (Ty.int i64) (Ty.pair (Ty.int i64) (Ty.pair (Ty.int i64) (Ty.pair (Ty.int i64) (Ty.pair (Ty.int i64) (Ty.pair (Ty.slice (Ty.int i64)) (Ty.pair (Ty.int i64) Ty.unit)))))))) (Ty.pair (Ty.int i64) (Ty.pair Ty.bool Ty.unit)))) y105),Blk.ghost 2] 10)
 | .e1 p3 p4 p5 p6 p7 p8 p9 p10 p11 p12 p13=>k (Ex.exit 0) (sx 46 [] [Blk.mem (CV.pair (CV.pair (CV.whole 6) (CV.pair (CV.whole 7) (CV.pure (Ty.pair (Ty.int i64) Ty.unit) p3))) (CV.pure (Ty.pair (Ty.int i64) (Ty.pair (Ty.int i64) Ty.unit)) p4)),Blk.mem (CV.pure (Ty.pair (Ty.slice (Ty.pair (Ty.int i64) (Ty.pair (Ty.int i64) (Ty.pair (Ty.int i64) (Ty.pair (Ty.int i64) (Ty.pair (Ty.int i64) (Ty.pair (Ty.int i64) (Ty.pair Ty.bool (Ty.pair (Ty.int i64) Ty.unit))))))))) (Ty.pair (Ty.slice (Ty.pair (Ty.int i64) (Ty.pair (Ty.int i64) (Ty.pair (Ty.int i64) (Ty.pair (Ty.int i64) (Ty.pair (Ty.int i64) (Ty.pair (Ty.slice (Ty.int i64)) (Ty.pair (Ty.int i64) Ty.unit)))))))) (Ty.pair (Ty.int i64) (Ty.pair Ty.bool Ty.unit)))) p5),Blk.mem (CV.pure (Ty.pair (Ty.int i64) (Ty.pair (Ty.int u32) Ty.unit)) p6),Blk.mem (CV.pair (CV.pair (CV.nil 51 (Ty.int u32)) (CV.pair (CV.nil 3 (Ty.int i64)) (CV.pure (Ty.pair (Ty.int i64) Ty.unit) p7))) (CV.pure (Ty.pair (Ty.int i64) (Ty.pair (Ty.int i64) Ty.unit)) p8)),Blk.mem (CV.pure (Ty.pair (Ty.int i64) (Ty.pair (Ty.int u32) Ty.unit)) p9),Blk.mem (CV.int i64 p10),Blk.vec 51 (Ty.int u32) p11,Blk.vec 3 (Ty.int i64) p12,Blk.mem (CV.pure (Ty.pair (Ty.slice (Ty.pair (Ty.int i64) (Ty.pair (Ty.int i64) (Ty.pair (Ty.int i64) (Ty.pair (Ty.int i64) (Ty.pair (Ty.int i64) (Ty.pair (Ty.int i64) (Ty.pair Ty.bool (Ty.pair (Ty.int i64) Ty.unit))))))))) (Ty.pair (Ty.slice (Ty.pair (Ty.int i64) (Ty.pair (Ty.int i64) (Ty.pair (Ty.int i64) (Ty.pair (Ty.int i64) (Ty.pair (Ty.int i64) (Ty.pair (Ty.slice (Ty.int i64)) (Ty.pair (Ty.int i64) Ty.unit)))))))) (Ty.pair (Ty.int i64) (Ty.pair Ty.bool Ty.unit)))) p13),Blk.ghost 0] 10)
 | .e2 y91 y92 y93 y94 y95 y96 y97 y98=>k Ex.ret (sx 46 [] [Blk.mem (CV.pure (Ty.pair (Ty.pair (Ty.slice (Ty.int u32)) (Ty.pair (Ty.slice (Ty.int i64)) (Ty.pair (Ty.int i64) Ty.unit))) (Ty.pair (Ty.int i64) (Ty.pair (Ty.int i64) Ty.unit))) (((v_61 y92 y91 y98 y94).1):Zt21_5)),Blk.mem (CV.pure (Ty.pair (Ty.slice (Ty.pair (Ty.int i64) (Ty.pair (Ty.int i64) (Ty.pair (Ty.int i64) (Ty.pair (Ty.int i64) (Ty.pair (Ty.int i64) (Ty.pair (Ty.int i64) (Ty.pair Ty.bool (Ty.pair (Ty.int i64) Ty.unit))))))))) (Ty.pair (Ty.slice (Ty.pair (Ty.int i64) (Ty.pair (Ty.int i64) (Ty.pair (Ty.int i64) (Ty.pair (Ty.int i64) (Ty.pair (Ty.int i64) (Ty.pair (Ty.slice (Ty.int i64)) (Ty.pair (Ty.int i64) Ty.unit)))))))) (Ty.pair (Ty.int i64) (Ty.pair Ty.bool Ty.unit)))) y93),Blk.mem (CV.pure (Ty.pair (Ty.int i64) (Ty.pair (Ty.int u32) Ty.unit)) (((v_61 y92 y91 y98 y94).2.1):Zt21_10)),Blk.mem (CV.pure (Ty.pair (Ty.pair (Ty.slice (Ty.int u32)) (Ty.pair (Ty.slice (Ty.int i64)) (Ty.pair (Ty.int i64) Ty.unit))) (Ty.pair (Ty.int i64) (Ty.pair (Ty.int i64) Ty.unit))) (((v_61 y92 y91 y98 y94).1):Zt21_5)),Blk.mem (CV.pure (Ty.pair (Ty.int i64) (Ty.pair (Ty.int u32) Ty.unit)) (((v_61 y92 y91 y98 y94).2.1):Zt21_10)),Blk.mem (CV.int i64 ((v_61 y92 y91 y98 y94).2.2.1)),Blk.fvec 51 (Ty.int u32) y95,Blk.fvec 3 (Ty.int i64) y96,Blk.mem (CV.pure (Ty.pair (Ty.slice (Ty.pair (Ty.int i64) (Ty.pair (Ty.int i64) (Ty.pair (Ty.int i64) (Ty.pair (Ty.int i64) (Ty.pair (Ty.int i64) (Ty.pair (Ty.int i64) (Ty.pair Ty.bool (Ty.pair (Ty.int i64) Ty.unit))))))))) (Ty.pair (Ty.slice (Ty.pair (Ty.int i64) (Ty.pair (Ty.int i64) (Ty.pair (Ty.int i64) (Ty.pair (Ty.int i64) (Ty.pair (Ty.int i64) (Ty.pair (Ty.slice (Ty.int i64)) (Ty.pair (Ty.int i64) Ty.unit)))))))) (Ty.pair (Ty.int i64) (Ty.pair Ty.bool Ty.unit)))) y97),Blk.ghost 2] 10)
 | .e3 p3 p4 p5 p6 p7 p8 p9 p10 p11 p12=>k (Ex.exit 0) (sx 46 [] [Blk.mem (CV.pure (Ty.pair (Ty.pair (Ty.slice (Ty.int u32)) (Ty.pair (Ty.slice (Ty.int i64)) (Ty.pair (Ty.int i64) Ty.unit))) (Ty.pair (Ty.int i64) (Ty.pair (Ty.int i64) Ty.unit))) p3),Blk.mem (CV.pure (Ty.pair (Ty.slice (Ty.pair (Ty.int i64) (Ty.pair (Ty.int i64) (Ty.pair (Ty.int i64) (Ty.pair (Ty.int i64) (Ty.pair (Ty.int i64) (Ty.pair (Ty.int i64) (Ty.pair Ty.bool (Ty.pair (Ty.int i64) Ty.unit))))))))) (Ty.pair (Ty.slice (Ty.pair (Ty.int i64) (Ty.pair (Ty.int i64) (Ty.pair (Ty.int i64) (Ty.pair (Ty.int i64) (Ty.pair (Ty.int i64) (Ty.pair (Ty.slice (Ty.int i64)) (Ty.pair (Ty.int i64) Ty.unit)))))))) (Ty.pair (Ty.int i64) (Ty.pair Ty.bool Ty.unit)))) p4),Blk.mem (CV.pure (Ty.pair (Ty.int i64) (Ty.pair (Ty.int u32) Ty.unit)) p5),Blk.mem (CV.pair (CV.pair (CV.nil 51 (Ty.int u32)) (CV.pair (CV.nil 3 (Ty.int i64)) (CV.pure (Ty.pair (Ty.int i64) Ty.unit) p6))) (CV.pure (Ty.pair (Ty.int i64) (Ty.pair (Ty.int i64) Ty.unit)) p7)),Blk.mem (CV.pure (Ty.pair (Ty.int i64) (Ty.pair (Ty.int u32) Ty.unit)) p8),Blk.mem (CV.int i64 p9),Blk.fvec 51 (Ty.int u32) p10,Blk.fvec 3 (Ty.int i64) p11,Blk.mem (CV.pure (Ty.pair (Ty.slice (Ty.pair (Ty.int i64) (Ty.pair (Ty.int i64) (Ty.pair (Ty.int i64) (Ty.pair (Ty.int i64) (Ty.pair (Ty.int i64) (Ty.pair (Ty.int i64) (Ty.pair Ty.bool (Ty.pair (Ty.int i64) Ty.unit))))))))) (Ty.pair (Ty.slice (Ty.pair (Ty.int i64) (Ty.pair (Ty.int i64) (Ty.pair (Ty.int i64) (Ty.pair (Ty.int i64) (Ty.pair (Ty.int i64) (Ty.pair (Ty.slice (Ty.int i64)) (Ty.pair (Ty.int i64) Ty.unit)))))))) (Ty.pair (Ty.int i64) (Ty.pair Ty.bool Ty.unit)))) p12),Blk.ghost 0] 10)
noncomputable def Sp.S_21_91_0_0{R:Type}(K:(List (Int×Int×Int×Int×Int×List Int×Int×Unit))->Int->Int->(Int×Unit)->(Int×Int×Unit)->(List (Int×Int×Int×Int×Int×Int×Bool×Int×Unit)×List (Int×Int×Int×Int×Int×List Int×Int×Unit)×Int×Bool×Unit)->(Int×Int×Unit)->(Int×Unit)->(Int×Int×Unit)->(Int×Int×Unit)->Int->List Int->List Int->(List (Int×Int×Int×Int×Int×Int×Bool×Int×Unit)×List (Int×Int×Int×Int×Int×List Int×Int×Unit)×Int×Bool×Unit)->Option R)(KB:(List (Int×Int×Int×Int×Int×List Int×Int×Unit))->Int->Int->((List Int×List Int×Int×Unit)×Int×Int×Unit)->(List (Int×Int×Int×Int×Int×Int×Bool×Int×Unit)×List (Int×Int×Int×Int×Int×List Int×Int×Unit)×Int×Bool×Unit)->(Int×Int×Unit)->(Int×Unit)->(Int×Int×Unit)->(Int×Int×Unit)->Int->List Int->List Int->(List (Int×Int×Int×Int×Int×Int×Bool×Int×Unit)×List (Int×Int×Int×Int×Int×List Int×Int×Unit)×Int×Bool×Unit)->Option R)(k:E_21_91_0_0->Option R)(p0:List (Int×Int×Int×Int×Int×List Int×Int×Unit))(p1 p2:Int)(p3:Int×Unit)(p4:Int×Int×Unit)(p5:List (Int×Int×Int×Int×Int×Int×Bool×Int×Unit)×List (Int×Int×Int×Int×Int×List Int×Int×Unit)×Int×Bool×Unit)(p6:Int×Int×Unit)(p7:Int×Unit)(p8 p9:Int×Int×Unit)(p10:Int)(p11 p12:List Int)(p13:List (Int×Int×Int×Int×Int×Int×Bool×Int×Unit)×List (Int×Int×Int×Int×Int×List Int×Int×Unit)×Int×Bool×Unit):Option R:=
 bif decide (p2<p1)then gd (inB p2 (length p0)) (gd (p_43 (getD p0 (toNat p2) Zd0)) (bif(v_43 (getD p0 (toNat p2) Zd0)).1 then gd (p_34 (getD p0 (toNat p2) Zd0)) (gd (inB p2 (length (p13.1))) (gd (room (1+length ((v_34 (getD p0 (toNat p2) Zd0)).1)) 4) (B_21_91_1_0 (J_21_91_1_0 p2 p0 p1 p2 p3 p4 p5 p6 p7 p8 p9 p10 p11 p12 p13 ([wrap u32 ((getD (p13.1) (toNat p2) Zd1).1)]++(v_34 (getD p0 (toNat p2) Zd0)).1)) (fun y82 y83 y84 y85 y86 y87 y88 y89 y90 y91 y92 y93 y94 y95 y96 y97=>K y83 y84 (wrap i64 (y85+1)) y86 y87 y88 y89 y90 y91 y92 y93 y94 y95 y96) (fun y98 y99 y100 y101 y102 y103 y104 y105 y106=>k (E_21_91_0_0.e0 y98 y99 y100 y101 y102 y103 y104 y105 y106)) fun y107 y108 y109 y110 y111 y112 y113 y114 y115 y116 y117 y118 y119 y120 y121 y122=>KB y108 y109 (wrap i64 (y110+1)) ((v_61 ((y119,y120,y111),y112) y107 y122 y114).1) y113 ((v_61 ((y119,y120,y111),y112) y107 y122 y114).2.1) y115 y116 y117 y118 y119 y120 y121)))else B_21_91_1_0 (J_21_91_1_0 p2 p0 p1 p2 p3 p4 p5 p6 p7 p8 p9 p10 p11 p12 p13 []) (fun y123 y124 y125 y126 y127 y128 y129 y130 y131 y132 y133 y134 y135 y136 y137 y138=>K y124 y125 (wrap i64 (y126+1)) y127 y128 y129 y130 y131 y132 y133 y134 y135 y136 y137) (fun y139 y140 y141 y142 y143 y144 y145 y146 y147=>k (E_21_91_0_0.e0 y139 y140 y141 y142 y143 y144 y145 y146 y147)) fun y148 y149 y150 y151 y152 y153 y154 y155 y156 y157 y158 y159 y160 y161 y162 y163=>KB y149 y150 (wrap i64 (y151+1)) ((v_61 ((y160,y161,y152),y153) y148 y163 y155).1) y154 ((v_61 ((y160,y161,y152),y153) y148 y163 y155).2.1) y156 y157 y158 y159 y160 y161 y162))else k (E_21_91_0_0.e1 p3 p4 p5 p6 p7 p8 p9 p10 p11 p12 p13)
noncomputable def C_21_91_0_0:E_21_91_0_1->E_21_91_0_0
 | .e0 y91 y92 y93 y94 y95 y96 y97 y98=> .e2 y91 y92 y93 y94 y95 y96 y97 y98
 | .e1 p3 p4 p5 p6 p7 p8 p9 p10 p11 p12=> .e3 p3 p4 p5 p6 p7 p8 p9 p10 p11 p12
theorem BC_21_91_0_0(r:Option E_21_91_0_1):B_21_91_0_1 r (fun y91 y92 y93 y94 y95 y96 y97 y98=>some (E_21_91_0_0.e2 y91 y92 y93 y94 y95 y96 y97 y98)) (fun p3 p4 p5 p6 p7 p8 p9 p10 p11 p12=>some (E_21_91_0_0.e3 p3 p4 p5 p6 p7 p8 p9 p10 p11 p12))=r.bind fun e=>some (C_21_91_0_0 e):=by
 cases r with
 |none=>rfl
 |some e=>cases e<;>rfl
noncomputable def Sp.L_21_91_0_0:Nat->(List (Int×Int×Int×Int×Int×List Int×Int×Unit))->Int->Int->(Int×Unit)->(Int×Int×Unit)->(List (Int×Int×Int×Int×Int×Int×Bool×Int×Unit)×List (Int×Int×Int×Int×Int×List Int×Int×Unit)×Int×Bool×Unit)->(Int×Int×Unit)->(Int×Unit)->(Int×Int×Unit)->(Int×Int×Unit)->Int->List Int->List Int->(List (Int×Int×Int×Int×Int×Int×Bool×Int×Unit)×List (Int×Int×Int×Int×Int×List Int×Int×Unit)×Int×Bool×Unit)->Option E_21_91_0_0
 |0,_,_,_,_,_,_,_,_,_,_,_,_,_,_=>none
 |m+1,p0,p1,p2,p3,p4,p5,p6,p7,p8,p9,p10,p11,p12,p13=>S_21_91_0_0 (L_21_91_0_0 m) (fun q0 q1 q2 q3 q4 q5 q6 q7 q8 q9 q10 q11 q12=>B_21_91_0_1 (L_21_91_0_1 m q0 q1 q2 q3 q4 q5 q6 q7 q8 q9 q10 q11 q12) (fun y91 y92 y93 y94 y95 y96 y97 y98=>some (E_21_91_0_0.e2 y91 y92 y93 y94 y95 y96 y97 y98)) (fun p3 p4 p5 p6 p7 p8 p9 p10 p11 p12=>some (E_21_91_0_0.e3 p3 p4 p5 p6 p7 p8 p9 p10 p11 p12))) some p0 p1 p2 p3 p4 p5 p6 p7 p8 p9 p10 p11 p12 p13
noncomputable def l_21_91_0_0(m:Nat)(a:T_21_91_0_0.E):Option E_21_91_0_0:=L_21_91_0_0 m a.1 a.2.1 a.2.2.1 a.2.2.2.1 a.2.2.2.2.1 a.2.2.2.2.2.1 a.2.2.2.2.2.2.1 a.2.2.2.2.2.2.2.1 a.2.2.2.2.2.2.2.2.1 a.2.2.2.2.2.2.2.2.2.1 a.2.2.2.2.2.2.2.2.2.2.1 a.2.2.2.2.2.2.2.2.2.2.2.1 a.2.2.2.2.2.2.2.2.2.2.2.2.1 a.2.2.2.2.2.2.2.2.2.2.2.2.2.1
noncomputable def O_21_91_0_0{R:Type}:Orc R:=orL T_21_91_0_0 (l_21_91_0_0 FU) Y_21_91_0_0 O_21_91_0_1
theorem OK_21_91_0_0{R:Type}:okF (R:=R) sm_21 3 (nf 91 0) O_21_91_0_0:=lp2 noO_ok (os:=[O_21_91_1_1]) ⟨OK_21_91_1_1,trivial⟩ T_21_91_0_0 T_21_91_0_1 l_21_91_0_0 l_21_91_0_1 (fun R K KB k a=>S_21_91_0_0 (fun p0 p1 p2 p3 p4 p5 p6 p7 p8 p9 p10 p11 p12 p13=>K (p0,p1,p2,p3,p4,p5,p6,p7,p8,p9,p10,p11,p12,p13,())) (fun q0 q1 q2 q3 q4 q5 q6 q7 q8 q9 q10 q11 q12=>KB (q0,q1,q2,q3,q4,q5,q6,q7,q8,q9,q10,q11,q12,())) k a.1 a.2.1 a.2.2.1 a.2.2.2.1 a.2.2.2.2.1 a.2.2.2.2.2.1 a.2.2.2.2.2.2.1 a.2.2.2.2.2.2.2.1 a.2.2.2.2.2.2.2.2.1 a.2.2.2.2.2.2.2.2.2.1 a.2.2.2.2.2.2.2.2.2.2.1 a.2.2.2.2.2.2.2.2.2.2.2.1 a.2.2.2.2.2.2.2.2.2.2.2.2.1 a.2.2.2.2.2.2.2.2.2.2.2.2.2.1) Y_21_91_0_0 Y_21_91_0_1 C_21_91_0_0 (fun _=>rfl) (fun m a=>by
 unfold l_21_91_0_0
 rw[L_21_91_0_0]
 simp only[BC_21_91_0_0]
 rfl) (fun k e=>by cases e<;>rfl) (fun k=>loop_21_91_0_1 k) (fun k K a=>by kernel_rfl) (fun Y K KB a=>by
 unfold S_21_91_0_0
 repeat' first|apply gdN|apply condN|(apply Bn_21_91_1_0<;>intros)|rfl) OK_21_91_0_1
noncomputable def g_21_91{R:Type}:List CV->List Blk->(CV->List Blk->Option R)->Option R:=evFnL sm_21 FU (ovr noO (evFn sm_21 fns FU 3)) (mkT (fB fns 91) [O_21_91_0_0]) (fO fns 91)
theorem g_21_91_ok{R:Type}(args:List CV)(hp:List Blk)(k:CV->List Blk->Option R)(r:R)(h:g_21_91 args hp k=some r):evFn sm_21 fns FU 4 91 args hp k=some r:=runG noO_ok (os:=[O_21_91_0_0]) ⟨OK_21_91_0_0,trivial⟩ h
noncomputable def ov_21_59{R:Type}:Nat->Option (List CV->List Blk->(CV->List Blk->Option R)->Option R):=fun f'=>bif Nat.beq f' 91 then some g_21_91 else none
theorem ov_21_59_ok{R:Type}:OvrOK (R:=R) ov_21_59 (evFn sm_21 fns FU 4):=by
 intro f' g h args hp k r hg
 dsimp only[ov_21_59]at h
 by_cases h91:f'=91
 ·subst h91
  injection h with h
  subst h
  exact evFn_le 0 (g_21_91_ok _ _ _ _ hg)
 rw[nbeq_ne h91,cond_false]at h
 cases h
noncomputable def g_21_59{R:Type}:List CV->List Blk->(CV->List Blk->Option R)->Option R:=evFnL sm_21 FU (ovr ov_21_59 (evFn sm_21 fns FU 4)) (mkT (fB fns 59) []) (fO fns 59)
theorem g_21_59_ok{R:Type}(args:List CV)(hp:List Blk)(k:CV->List Blk->Option R)(r:R)(h:g_21_59 args hp k=some r):evFn sm_21 fns FU 5 59 args hp k=some r:=runG ov_21_59_ok (os:=[]) trivial h
noncomputable def ov_21_21{R:Type}:Nat->Option (List CV->List Blk->(CV->List Blk->Option R)->Option R):=fun f'=>bif Nat.beq f' 59 then some g_21_59 else bif Nat.beq f' 91 then some g_21_91 else none
theorem ov_21_21_ok{R:Type}:OvrOK (R:=R) ov_21_21 (evFn sm_21 fns FU 5):=by
 intro f' g h args hp k r hg
 dsimp only[ov_21_21]at h
 by_cases h59:f'=59
 ·subst h59
  injection h with h
  subst h
  exact evFn_le 0 (g_21_59_ok _ _ _ _ hg)
 rw[nbeq_ne h59,cond_false]at h
 by_cases h91:f'=91
 ·subst h91
  injection h with h
  subst h
  exact evFn_le 1 (g_21_91_ok _ _ _ _ hg)
 rw[nbeq_ne h91,cond_false]at h
 cases h
noncomputable def F_21(a0:(((List Int)×((List Int)×(Int×Unit)))×(Int×(Int×Unit))))(a1:((List (Int×(Int×(Int×(Int×(Int×(Int×(Bool×(Int×Unit)))))))))×((List (Int×(Int×(Int×(Int×(Int×((List Int)×(Int×Unit))))))))×(Int×(Bool×Unit)))))(a2:(Int×(Int×Unit))):Option ((((List Int)×((List Int)×(Int×Unit)))×(Int×(Int×Unit)))×(Int×(Int×Unit))×Int×Unit) :=
 gd (p_38 a0) (bif !(v_38 a0).1 then some ((([],[],0,PUnit.unit),0,0,PUnit.unit),(0,0,PUnit.unit),1,PUnit.unit)else gd (p_44 a1) (bif !(v_44 a1).1 then some ((([],[],0,PUnit.unit),0,0,PUnit.unit),(0,0,PUnit.unit),1,PUnit.unit)else bif decide (a2.1<0)then some ((([],[],0,PUnit.unit),0,0,PUnit.unit),(0,0,PUnit.unit),1,PUnit.unit)else bif decide (a2.1>1099511627776)then some ((([],[],0,PUnit.unit),0,0,PUnit.unit),(0,0,PUnit.unit),1,PUnit.unit)else gd (room (length (a0.1.1)) 4) (gd (room (length (a0.1.2.1)) 8) (gd (p_60 ((a0.1.1,a0.1.2.1,a0.1.2.2),a0.2) 254 [wrap u32 (a1.2.2.1)]) (bif(v_60 ((a0.1.1,a0.1.2.1,a0.1.2.2),a0.2) 254 [wrap u32 (a1.2.2.1)]).1 then B_21_91_0_0 (L_21_91_0_0 4611686018427387904 (a1.2.1) (↑(length (a1.2.1)):Int) 0 (a0.1.2.2) (a0.2) a1 a2 (0,PUnit.unit) (0,0,PUnit.unit) (0,0,PUnit.unit) 0 (a0.1.1) (a0.1.2.1) a1) (fun y60 y61 y62 y63 y64 y65 y66 y67 y68=>some ((v_61 ((y65,y66,y61),y62) y60 y68 y64).1,(v_61 ((y65,y66,y61),y62) y60 y68 y64).2.1,(v_61 ((y65,y66,y61),y62) y60 y68 y64).2.2.1,PUnit.unit)) (fun y69 y70 y71 y72 y73 y74 y75 y76 y77 y78 y79=>some (((y77,y78,y69),y70),y72,0,PUnit.unit)) (fun y80 y81 y82 y83 y84 y85 y86 y87=>some ((v_61 y81 y80 y87 y83).1,(v_61 y81 y80 y87 y83).2.1,(v_61 y81 y80 y87 y83).2.2.1,PUnit.unit)) fun y88 y89 y90 y91 y92 y93 y94 y95 y96 y97=>some (y88,y90,0,PUnit.unit)else gd (p_61 ((a0.1.1,a0.1.2.1,a0.1.2.2),a0.2) 254 [wrap u32 (a1.2.2.1)] a2) (bif(v_61 ((a0.1.1,a0.1.2.1,a0.1.2.2),a0.2) 254 [wrap u32 (a1.2.2.1)] a2).2.2.1 !=0 then some ((v_61 ((a0.1.1,a0.1.2.1,a0.1.2.2),a0.2) 254 [wrap u32 (a1.2.2.1)] a2).1,(v_61 ((a0.1.1,a0.1.2.1,a0.1.2.2),a0.2) 254 [wrap u32 (a1.2.2.1)] a2).2.1,(v_61 ((a0.1.1,a0.1.2.1,a0.1.2.2),a0.2) 254 [wrap u32 (a1.2.2.1)] a2).2.2.1,PUnit.unit)else B_21_91_0_1 (L_21_91_0_1 4611686018427387904 (a1.2.1) (↑(length (a1.2.1)):Int) 0 ((v_61 ((a0.1.1,a0.1.2.1,a0.1.2.2),a0.2) 254 [wrap u32 (a1.2.2.1)] a2).1) a1 ((v_61 ((a0.1.1,a0.1.2.1,a0.1.2.2),a0.2) 254 [wrap u32 (a1.2.2.1)] a2).2.1) (0,PUnit.unit) (0,0,PUnit.unit) (0,0,PUnit.unit) 0 (a0.1.1) (a0.1.2.1) a1) (fun y98 y99 y100 y101 y102 y103 y104 y105=>some ((v_61 y99 y98 y105 y101).1,(v_61 y99 y98 y105 y101).2.1,(v_61 y99 y98 y105 y101).2.2.1,PUnit.unit)) fun y106 y107 y108 y109 y110 y111 y112 y113 y114 y115=>some (y106,y108,0,PUnit.unit)))))))
noncomputable def Sp.p_21(a0:(((List Int)×((List Int)×(Int×Unit)))×(Int×(Int×Unit))))(a1:((List (Int×(Int×(Int×(Int×(Int×(Int×(Bool×(Int×Unit)))))))))×((List (Int×(Int×(Int×(Int×(Int×((List Int)×(Int×Unit))))))))×(Int×(Bool×Unit)))))(a2:(Int×(Int×Unit))):Bool:=(F_21 a0 a1 a2).isSome
noncomputable def Sp.v_21(a0:(((List Int)×((List Int)×(Int×Unit)))×(Int×(Int×Unit))))(a1:((List (Int×(Int×(Int×(Int×(Int×(Int×(Bool×(Int×Unit)))))))))×((List (Int×(Int×(Int×(Int×(Int×((List Int)×(Int×Unit))))))))×(Int×(Bool×Unit)))))(a2:(Int×(Int×Unit))):(((List Int)×((List Int)×(Int×Unit)))×(Int×(Int×Unit)))×(Int×(Int×Unit))×Int×Unit:=(F_21 a0 a1 a2).getD (dfH R_21)
noncomputable def s_21:Summ:=shS A_21 R_21 (fun x=>p_21 x.1 x.2.1 x.2.2.1) (fun x=>v_21 x.1 x.2.1 x.2.2.1)
theorem pv_21(a0:(((List Int)×((List Int)×(Int×Unit)))×(Int×(Int×Unit))))(a1:((List (Int×(Int×(Int×(Int×(Int×(Int×(Bool×(Int×Unit)))))))))×((List (Int×(Int×(Int×(Int×(Int×((List Int)×(Int×Unit))))))))×(Int×(Bool×Unit)))))(a2:(Int×(Int×Unit))){y:(((List Int)×((List Int)×(Int×Unit)))×(Int×(Int×Unit)))×(Int×(Int×Unit))×Int×Unit}(h:F_21 a0 a1 a2=some y):p_21 a0 a1 a2=true/\v_21 a0 a1 a2=y:=pvG h
theorem run_21(x:HDen A_21)(y:HDen R_21)(h:F_21 x.1 x.2.1 x.2.2.1=some y):rnF sm_21 6 21 A_21 R_21 x y:=runG ov_21_21_ok (os:=[]) trivial (Eq.trans (by kernel_rfl) h)
end
noncomputable section
abbrev A_68:List Ty:=[(.int .i64)]
abbrev R_68:List Ty:=[.bool]
noncomputable def sm_68:Nat->Option Summ:=smL []
noncomputable def F_68(a0:Int):Option (Bool×Unit) :=
 bif decide (a0>=1)then some (decide (a0<=1000000),PUnit.unit)else some (false,PUnit.unit)
noncomputable def Sp.p_68(a0:Int):Bool:=(F_68 a0).isSome
noncomputable def Sp.v_68(a0:Int):Bool×Unit:=(F_68 a0).getD (dfH R_68)
noncomputable def s_68:Summ:=shN A_68 R_68 (fun x=>p_68 x.1) (fun x=>v_68 x.1)
theorem pv_68(a0:Int){y:Bool×Unit}(h:F_68 a0=some y):p_68 a0=true/\v_68 a0=y:=pvG h
theorem run_68(x:HDen A_68)(y:HDen R_68)(h:F_68 x.1=some y):rnF sm_68 1 68 A_68 R_68 x y:=runG noO_ok (os:=[]) trivial (Eq.trans (by kernel_rfl) h)
end
noncomputable section
abbrev A_27:List Ty:=[(.pair (.slice (.int .u32)) (.pair (.slice (.int .i64)) (.pair (.int .i64) .unit)))]
abbrev R_27:List Ty:=[.bool]
noncomputable def sm_27:Nat->Option Summ:=smL [(68,s_68)]
noncomputable def T_27_0:PS:=⟨49,[(1,.kc (.ptr 0 [])),(3,.hv (.int .i64)),(4,.hv (.int .i64))],[.mem (.hv (.pair (.slice (.int .u32)) (.pair (.slice (.int .i64)) (.pair (.int .i64) .unit))))],0⟩
inductive Sp.E_27_0 where
 |e0
 |e1
noncomputable def Sp.B_27_0{R:Type}(r:Option E_27_0)(k0 k1:Option R):Option R:=match r with
 |none=>none
 |some (.e0)=>k0
 |some (.e1)=>k1
noncomputable def Y_27_0{R:Type}(k:Ex->St->Option R):E_27_0->Option R
 | .e0=>k Ex.ret (sx 49 [(2,CV.bool false)] [])
 | .e1=>k (Ex.exit 0) (sx 49 [] [])
noncomputable def Sp.S_27_0{R:Type}(K:Int->Int->(List Int×List Int×Int×Unit)->Option R)(k:E_27_0->Option R)(p0 p1:Int)(p2:List Int×List Int×Int×Unit):Option R:=
 bif decide (p1<p0)then gd (inB p1 (length (p2.2.1))) (bif decide (getD (p2.2.1) (toNat p1) (0:Int)<(0:Int))then k (E_27_0.e0)else gd (inB p1 (length (p2.2.1))) (bif decide (getD (p2.2.1) (toNat p1) 0>p2.2.2.1)then k (E_27_0.e0)else K p0 (wrap i64 (p1+1)) p2))else k (E_27_0.e1)
noncomputable def Sp.L_27_0:Nat->Int->Int->(List Int×List Int×Int×Unit)->Option E_27_0
 |0,_,_,_=>none
 |m+1,p0,p1,p2=>S_27_0 (L_27_0 m) some p0 p1 p2
noncomputable def l_27_0(m:Nat)(a:T_27_0.E):Option E_27_0:=L_27_0 m a.1 a.2.1 a.2.2.1
noncomputable def O_27_0{R:Type}:Orc R:=orL T_27_0 (l_27_0 FU) Y_27_0
theorem OK_27_0{R:Type}:okF (R:=R) sm_27 0 (nf 27 0) O_27_0:=lp0 T_27_0 l_27_0 (fun R K k a=>S_27_0 (fun p0 p1 p2=>K (p0,p1,p2,())) k a.1 a.2.1 a.2.2.1) Y_27_0 (fun _ _ _=>by kernel_rfl) (fun _ _ _=>by
 unfold S_27_0
 repeat' first|apply gdN|apply condN|rfl) (ok0 _)
noncomputable def F_27(a0:((List Int)×((List Int)×(Int×Unit)))):Option (Bool×Unit) :=
 bif decide ((↑(length (a0.2.1)):Int)<1)then some (false,PUnit.unit)else bif decide ((↑(length (a0.2.1)):Int)>64)then some (false,PUnit.unit)else bif(↑(length (a0.1)):Int)!=wrap i64 ((↑(length (a0.2.1)):Int)*64)then some (false,PUnit.unit)else gd (p_68 (a0.2.2.1)) (bif !(v_68 (a0.2.2.1)).1 then some (false,PUnit.unit)else B_27_0 (L_27_0 4611686018427387904 (↑(length (a0.2.1)):Int) 0 a0) (some (false,PUnit.unit)) (some (true,PUnit.unit)))
noncomputable def Sp.p_27(a0:((List Int)×((List Int)×(Int×Unit)))):Bool:=(F_27 a0).isSome
noncomputable def Sp.v_27(a0:((List Int)×((List Int)×(Int×Unit)))):Bool×Unit:=(F_27 a0).getD (dfH R_27)
noncomputable def s_27:Summ:=shN A_27 R_27 (fun x=>p_27 x.1) (fun x=>v_27 x.1)
theorem pv_27(a0:((List Int)×((List Int)×(Int×Unit)))){y:Bool×Unit}(h:F_27 a0=some y):p_27 a0=true/\v_27 a0=y:=pvG h
theorem run_27(x:HDen A_27)(y:HDen R_27)(h:F_27 x.1=some y):rnF sm_27 1 27 A_27 R_27 x y:=runG noO_ok (os:=[O_27_0]) ⟨OK_27_0,trivial⟩ (Eq.trans (by kernel_rfl) h)
end
noncomputable section
abbrev A_49:List Ty:=[(.pair (.slice (.int .u32)) (.pair (.slice (.int .i64)) (.pair (.int .i64) .unit))),(.int .i64),(.int .i64)]
abbrev R_49:List Ty:=[.bool]
noncomputable def sm_49:Nat->Option Summ:=smL []
noncomputable def F_49(a0:((List Int)×((List Int)×(Int×Unit))))(a1 a2:Int):Option (Bool×Unit) :=
 bif decide (a2<2)then some (false,PUnit.unit)else bif decide (a2>16)then some (false,PUnit.unit)else bif Int.tmod a2 (2:Int)!=(0:Int)then some (false,PUnit.unit)else bif decide (a1<0)then some (false,PUnit.unit)else some (decide (a1<=wrap i64 ((↑(length (a0.2.1)):Int)-a2)),PUnit.unit)
noncomputable def Sp.p_49(a0:((List Int)×((List Int)×(Int×Unit))))(a1 a2:Int):Bool:=(F_49 a0 a1 a2).isSome
noncomputable def Sp.v_49(a0:((List Int)×((List Int)×(Int×Unit))))(a1 a2:Int):Bool×Unit:=(F_49 a0 a1 a2).getD (dfH R_49)
noncomputable def s_49:Summ:=shN A_49 R_49 (fun x=>p_49 x.1 x.2.1 x.2.2.1) (fun x=>v_49 x.1 x.2.1 x.2.2.1)
theorem pv_49(a0:((List Int)×((List Int)×(Int×Unit))))(a1 a2:Int){y:Bool×Unit}(h:F_49 a0 a1 a2=some y):p_49 a0 a1 a2=true/\v_49 a0 a1 a2=y:=pvG h
theorem run_49(x:HDen A_49)(y:HDen R_49)(h:F_49 x.1 x.2.1 x.2.2.1=some y):rnF sm_49 1 49 A_49 R_49 x y:=runG noO_ok (os:=[]) trivial (Eq.trans (by kernel_rfl) h)
end
noncomputable section
abbrev A_136:List Ty:=[(.int .i64)]
abbrev R_136:List Ty:=[(.int .u32)]
noncomputable def sm_136:Nat->Option Summ:=smL []
noncomputable def F_136(a0:Int):Option (Int×Unit) :=
 some (Sp.orI u32 (wrap u32 (wrap u32 a0*65536)) (wrap u32 (wrap i64 (65535-a0))),PUnit.unit)
noncomputable def Sp.p_136(a0:Int):Bool:=(F_136 a0).isSome
noncomputable def Sp.v_136(a0:Int):Int×Unit:=(F_136 a0).getD (dfH R_136)
noncomputable def s_136:Summ:=shN A_136 R_136 (fun x=>p_136 x.1) (fun x=>v_136 x.1)
theorem pv_136(a0:Int){y:Int×Unit}(h:F_136 a0=some y):p_136 a0=true/\v_136 a0=y:=pvG h
theorem run_136(x:HDen A_136)(y:HDen R_136)(h:F_136 x.1=some y):rnF sm_136 1 136 A_136 R_136 x y:=runG noO_ok (os:=[]) trivial (Eq.trans (by kernel_rfl) h)
end
noncomputable section
abbrev A_121:List Ty:=[(.int .u32)]
abbrev R_121:List Ty:=[(.int .i64),.bool]
noncomputable def sm_121:Nat->Option Summ:=smL [(136,s_136)]
noncomputable def F_121(a0:Int):Option (Int×Bool×Unit) :=
 gd (p_136 (wrap i64 (Int.fdiv a0 65536))) (some (wrap i64 (Int.fdiv a0 65536),(v_136 (wrap i64 (Int.fdiv a0 65536))).1==a0,PUnit.unit))
noncomputable def Sp.p_121(a0:Int):Bool:=(F_121 a0).isSome
noncomputable def Sp.v_121(a0:Int):Int×Bool×Unit:=(F_121 a0).getD (dfH R_121)
noncomputable def s_121:Summ:=shN A_121 R_121 (fun x=>p_121 x.1) (fun x=>v_121 x.1)
theorem pv_121(a0:Int){y:Int×Bool×Unit}(h:F_121 a0=some y):p_121 a0=true/\v_121 a0=y:=pvG h
theorem run_121(x:HDen A_121)(y:HDen R_121)(h:F_121 x.1=some y):rnF sm_121 1 121 A_121 R_121 x y:=runG noO_ok (os:=[]) trivial (Eq.trans (by kernel_rfl) h)
end
noncomputable section
abbrev A_101:List Ty:=[(.pair (.pair (.slice (.int .u32)) (.pair (.slice (.int .i64)) (.pair (.int .i64) .unit))) (.pair (.int .i64) (.pair (.int .i64) .unit)))]
abbrev R_101:List Ty:=[(.int .i64)]
noncomputable def sm_101:Nat->Option Summ:=smL []
noncomputable def F_101(a0:(((List Int)×((List Int)×(Int×Unit)))×(Int×(Int×Unit)))):Option (Int×Unit) :=
 some (wrap i64 (Int.tdiv (wrap i64 (64*a0.2.2.1)) 2),PUnit.unit)
noncomputable def Sp.p_101(a0:(((List Int)×((List Int)×(Int×Unit)))×(Int×(Int×Unit)))):Bool:=(F_101 a0).isSome
noncomputable def Sp.v_101(a0:(((List Int)×((List Int)×(Int×Unit)))×(Int×(Int×Unit)))):Int×Unit:=(F_101 a0).getD (dfH R_101)
noncomputable def s_101:Summ:=shN A_101 R_101 (fun x=>p_101 x.1) (fun x=>v_101 x.1)
theorem pv_101(a0:(((List Int)×((List Int)×(Int×Unit)))×(Int×(Int×Unit)))){y:Int×Unit}(h:F_101 a0=some y):p_101 a0=true/\v_101 a0=y:=pvG h
theorem run_101(x:HDen A_101)(y:HDen R_101)(h:F_101 x.1=some y):rnF sm_101 1 101 A_101 R_101 x y:=runG noO_ok (os:=[]) trivial (Eq.trans (by kernel_rfl) h)
end
noncomputable section
abbrev A_103:List Ty:=[(.pair (.pair (.slice (.int .u32)) (.pair (.slice (.int .i64)) (.pair (.int .i64) .unit))) (.pair (.int .i64) (.pair (.int .i64) .unit))),(.int .i64)]
abbrev R_103:List Ty:=[(.int .i64)]
noncomputable def sm_103:Nat->Option Summ:=smL [(101,s_101)]
noncomputable def F_103(a0:(((List Int)×((List Int)×(Int×Unit)))×(Int×(Int×Unit))))(a1:Int):Option (Int×Unit) :=
 gd (p_101 a0) (some (wrap i64 (wrap i64 (64*a0.2.1)+wrap i64 (a1*(v_101 a0).1)),PUnit.unit))
noncomputable def Sp.p_103(a0:(((List Int)×((List Int)×(Int×Unit)))×(Int×(Int×Unit))))(a1:Int):Bool:=(F_103 a0 a1).isSome
noncomputable def Sp.v_103(a0:(((List Int)×((List Int)×(Int×Unit)))×(Int×(Int×Unit))))(a1:Int):Int×Unit:=(F_103 a0 a1).getD (dfH R_103)
noncomputable def s_103:Summ:=shN A_103 R_103 (fun x=>p_103 x.1 x.2.1) (fun x=>v_103 x.1 x.2.1)
theorem pv_103(a0:(((List Int)×((List Int)×(Int×Unit)))×(Int×(Int×Unit))))(a1:Int){y:Int×Unit}(h:F_103 a0 a1=some y):p_103 a0 a1=true/\v_103 a0 a1=y:=pvG h
theorem run_103(x:HDen A_103)(y:HDen R_103)(h:F_103 x.1 x.2.1=some y):rnF sm_103 1 103 A_103 R_103 x y:=runG noO_ok (os:=[]) trivial (Eq.trans (by kernel_rfl) h)
end
noncomputable section
abbrev A_122:List Ty:=[(.pair (.pair (.slice (.int .u32)) (.pair (.slice (.int .i64)) (.pair (.int .i64) .unit))) (.pair (.int .i64) (.pair (.int .i64) .unit))),(.int .i64),(.int .i64)]
abbrev R_122:List Ty:=[(.int .u32)]
noncomputable def sm_122:Nat->Option Summ:=smL [(103,s_103)]
noncomputable def F_122(a0:(((List Int)×((List Int)×(Int×Unit)))×(Int×(Int×Unit))))(a1 a2:Int):Option (Int×Unit) :=
 gd (p_103 a0 a1) (gd (inB (wrap i64 ((v_103 a0 a1).1+a2)) (length (a0.1.1))) (some (getD (a0.1.1) (toNat (wrap i64 ((v_103 a0 a1).1+a2))) 0,PUnit.unit)))
noncomputable def Sp.p_122(a0:(((List Int)×((List Int)×(Int×Unit)))×(Int×(Int×Unit))))(a1 a2:Int):Bool:=(F_122 a0 a1 a2).isSome
noncomputable def Sp.v_122(a0:(((List Int)×((List Int)×(Int×Unit)))×(Int×(Int×Unit))))(a1 a2:Int):Int×Unit:=(F_122 a0 a1 a2).getD (dfH R_122)
noncomputable def s_122:Summ:=shN A_122 R_122 (fun x=>p_122 x.1 x.2.1 x.2.2.1) (fun x=>v_122 x.1 x.2.1 x.2.2.1)
theorem pv_122(a0:(((List Int)×((List Int)×(Int×Unit)))×(Int×(Int×Unit))))(a1 a2:Int){y:Int×Unit}(h:F_122 a0 a1 a2=some y):p_122 a0 a1 a2=true/\v_122 a0 a1 a2=y:=pvG h
theorem run_122(x:HDen A_122)(y:HDen R_122)(h:F_122 x.1 x.2.1 x.2.2.1=some y):rnF sm_122 1 122 A_122 R_122 x y:=runG noO_ok (os:=[]) trivial (Eq.trans (by kernel_rfl) h)
end
noncomputable section
abbrev A_86:List Ty:=[(.pair (.pair (.slice (.int .u32)) (.pair (.slice (.int .i64)) (.pair (.int .i64) .unit))) (.pair (.int .i64) (.pair (.int .i64) .unit))),(.int .i64)]
abbrev R_86:List Ty:=[(.int .i64)]
noncomputable def sm_86:Nat->Option Summ:=smL [(121,s_121),(122,s_122)]
noncomputable def F_86(a0:(((List Int)×((List Int)×(Int×Unit)))×(Int×(Int×Unit))))(a1:Int):Option (Int×Unit) :=
 gd (p_122 a0 a1 0) (gd (p_121 ((v_122 a0 a1 0).1)) (bif !(v_121 ((v_122 a0 a1 0).1)).2.1 then some (0,PUnit.unit)else some ((v_121 ((v_122 a0 a1 0).1)).1,PUnit.unit)))
noncomputable def Sp.p_86(a0:(((List Int)×((List Int)×(Int×Unit)))×(Int×(Int×Unit))))(a1:Int):Bool:=(F_86 a0 a1).isSome
noncomputable def Sp.v_86(a0:(((List Int)×((List Int)×(Int×Unit)))×(Int×(Int×Unit))))(a1:Int):Int×Unit:=(F_86 a0 a1).getD (dfH R_86)
noncomputable def s_86:Summ:=shN A_86 R_86 (fun x=>p_86 x.1 x.2.1) (fun x=>v_86 x.1 x.2.1)
theorem pv_86(a0:(((List Int)×((List Int)×(Int×Unit)))×(Int×(Int×Unit))))(a1:Int){y:Int×Unit}(h:F_86 a0 a1=some y):p_86 a0 a1=true/\v_86 a0 a1=y:=pvG h
theorem run_86(x:HDen A_86)(y:HDen R_86)(h:F_86 x.1 x.2.1=some y):rnF sm_86 1 86 A_86 R_86 x y:=runG noO_ok (os:=[]) trivial (Eq.trans (by kernel_rfl) h)
end
noncomputable section
abbrev A_50:List Ty:=[(.pair (.pair (.slice (.int .u32)) (.pair (.slice (.int .i64)) (.pair (.int .i64) .unit))) (.pair (.int .i64) (.pair (.int .i64) .unit)))]
abbrev R_50:List Ty:=[(.int .i64)]
noncomputable def sm_50:Nat->Option Summ:=smL [(86,s_86)]
noncomputable def F_50(a0:(((List Int)×((List Int)×(Int×Unit)))×(Int×(Int×Unit)))):Option (Int×Unit) :=
 gd (p_86 a0 0) (gd (p_86 a0 1) (bif(v_86 a0 0).1==0 then bif(v_86 a0 1).1==0 then some ((-1:Int),PUnit.unit)else bif decide ((v_86 a0 1).1>(v_86 a0 0).1)then some (1,PUnit.unit)else some (0,PUnit.unit)else bif decide ((v_86 a0 1).1>(v_86 a0 0).1)then some (1,PUnit.unit)else some (0,PUnit.unit)))
noncomputable def Sp.p_50(a0:(((List Int)×((List Int)×(Int×Unit)))×(Int×(Int×Unit)))):Bool:=(F_50 a0).isSome
noncomputable def Sp.v_50(a0:(((List Int)×((List Int)×(Int×Unit)))×(Int×(Int×Unit)))):Int×Unit:=(F_50 a0).getD (dfH R_50)
noncomputable def s_50:Summ:=shN A_50 R_50 (fun x=>p_50 x.1) (fun x=>v_50 x.1)
theorem pv_50(a0:(((List Int)×((List Int)×(Int×Unit)))×(Int×(Int×Unit)))){y:Int×Unit}(h:F_50 a0=some y):p_50 a0=true/\v_50 a0=y:=pvG h
theorem run_50(x:HDen A_50)(y:HDen R_50)(h:F_50 x.1=some y):rnF sm_50 1 50 A_50 R_50 x y:=runG noO_ok (os:=[]) trivial (Eq.trans (by kernel_rfl) h)
end
noncomputable section
abbrev A_13:List Ty:=[(.pair (.pair (.slice (.int .u32)) (.pair (.slice (.int .i64)) (.pair (.int .i64) .unit))) (.pair (.int .i64) (.pair (.int .i64) .unit)))]
abbrev R_13:List Ty:=[.bool]
noncomputable def sm_13:Nat->Option Summ:=smL [(27,s_27),(49,s_49),(50,s_50)]
noncomputable def F_13(a0:(((List Int)×((List Int)×(Int×Unit)))×(Int×(Int×Unit)))):Option (Bool×Unit) :=
 gd (p_27 (a0.1)) (bif(v_27 (a0.1)).1 then gd (p_49 (a0.1) (a0.2.1) (a0.2.2.1)) (bif(v_49 (a0.1) (a0.2.1) (a0.2.2.1)).1 then gd (p_50 a0) (some (decide ((v_50 a0).1>=0),PUnit.unit))else some (false,PUnit.unit))else some (false,PUnit.unit))
noncomputable def Sp.p_13(a0:(((List Int)×((List Int)×(Int×Unit)))×(Int×(Int×Unit)))):Bool:=(F_13 a0).isSome
noncomputable def Sp.v_13(a0:(((List Int)×((List Int)×(Int×Unit)))×(Int×(Int×Unit)))):Bool×Unit:=(F_13 a0).getD (dfH R_13)
noncomputable def s_13:Summ:=shN A_13 R_13 (fun x=>p_13 x.1) (fun x=>v_13 x.1)
theorem pv_13(a0:(((List Int)×((List Int)×(Int×Unit)))×(Int×(Int×Unit)))){y:Bool×Unit}(h:F_13 a0=some y):p_13 a0=true/\v_13 a0=y:=pvG h
theorem run_13(x:HDen A_13)(y:HDen R_13)(h:F_13 x.1=some y):rnF sm_13 1 13 A_13 R_13 x y:=runG noO_ok (os:=[]) trivial (Eq.trans (by kernel_rfl) h)
end
noncomputable section
abbrev A_55:List Ty:=[(.int .i64),(.int .i64),(.int .i64)]
abbrev R_55:List Ty:=[.bool]
noncomputable def sm_55:Nat->Option Summ:=smL []
noncomputable def F_55(a0 a1 a2:Int):Option (Bool×Unit) :=
 bif decide (a0>=a1)then some (decide (a0<=a2),PUnit.unit)else some (false,PUnit.unit)
noncomputable def Sp.p_55(a0 a1 a2:Int):Bool:=(F_55 a0 a1 a2).isSome
noncomputable def Sp.v_55(a0 a1 a2:Int):Bool×Unit:=(F_55 a0 a1 a2).getD (dfH R_55)
noncomputable def s_55:Summ:=shN A_55 R_55 (fun x=>p_55 x.1 x.2.1 x.2.2.1) (fun x=>v_55 x.1 x.2.1 x.2.2.1)
theorem pv_55(a0 a1 a2:Int){y:Bool×Unit}(h:F_55 a0 a1 a2=some y):p_55 a0 a1 a2=true/\v_55 a0 a1 a2=y:=pvG h
theorem run_55(x:HDen A_55)(y:HDen R_55)(h:F_55 x.1 x.2.1 x.2.2.1=some y):rnF sm_55 1 55 A_55 R_55 x y:=runG noO_ok (os:=[]) trivial (Eq.trans (by kernel_rfl) h)
end
noncomputable section
abbrev A_48:List Ty:=[(.pair (.int .i64) (.pair (.int .i64) (.pair (.int .i64) (.pair (.int .i64) (.pair (.int .i64) (.pair (.int .i64) (.pair .bool (.pair (.int .i64) .unit))))))))]
abbrev R_48:List Ty:=[.bool]
noncomputable def sm_48:Nat->Option Summ:=smL [(55,s_55)]
noncomputable def F_48(a0:(Int×(Int×(Int×(Int×(Int×(Int×(Bool×(Int×Unit))))))))):Option (Bool×Unit) :=
 gd (p_55 (a0.1) 1 16777215) (bif(v_55 (a0.1) 1 16777215).1 then gd (p_55 (a0.2.1) 1 100) (bif(v_55 (a0.2.1) 1 100).1 then gd (p_55 (a0.2.2.1) 1 100) (bif(v_55 (a0.2.2.1) 1 100).1 then gd (p_55 (a0.2.2.2.1) 1 100) (bif(v_55 (a0.2.2.2.1) 1 100).1 then gd (p_55 (a0.2.2.2.2.1) (a0.2.2.2.1) 255) (bif(v_55 (a0.2.2.2.2.1) (a0.2.2.2.1) 255).1 then gd (p_55 (a0.2.2.2.2.2.1) 0 255) (bif(v_55 (a0.2.2.2.2.2.1) 0 255).1 then gd (p_55 (a0.2.2.2.2.2.2.2.1) 0 8) (some ((v_55 (a0.2.2.2.2.2.2.2.1) 0 8).1,PUnit.unit))else some (false,PUnit.unit))else some (false,PUnit.unit))else some (false,PUnit.unit))else some (false,PUnit.unit))else some (false,PUnit.unit))else some (false,PUnit.unit))
noncomputable def Sp.p_48(a0:(Int×(Int×(Int×(Int×(Int×(Int×(Bool×(Int×Unit))))))))):Bool:=(F_48 a0).isSome
noncomputable def Sp.v_48(a0:(Int×(Int×(Int×(Int×(Int×(Int×(Bool×(Int×Unit))))))))):Bool×Unit:=(F_48 a0).getD (dfH R_48)
noncomputable def s_48:Summ:=shN A_48 R_48 (fun x=>p_48 x.1) (fun x=>v_48 x.1)
theorem pv_48(a0:(Int×(Int×(Int×(Int×(Int×(Int×(Bool×(Int×Unit))))))))){y:Bool×Unit}(h:F_48 a0=some y):p_48 a0=true/\v_48 a0=y:=pvG h
theorem run_48(x:HDen A_48)(y:HDen R_48)(h:F_48 x.1=some y):rnF sm_48 1 48 A_48 R_48 x y:=runG noO_ok (os:=[]) trivial (Eq.trans (by kernel_rfl) h)
end
noncomputable section
abbrev Zy12_0:Ty:=(.slice (.pair (.int .i64) (.pair (.int .i64) (.pair (.int .i64) (.pair (.int .i64) (.pair (.int .i64) (.pair (.int .i64) (.pair .bool (.pair (.int .i64) .unit)))))))))
abbrev Zt12_1:Type:=List (Int×Int×Int×Int×Int×Int×Bool×Int×Unit)
abbrev A_12:List Ty:=[(.slice (.pair (.int .i64) (.pair (.int .i64) (.pair (.int .i64) (.pair (.int .i64) (.pair (.int .i64) (.pair (.int .i64) (.pair .bool (.pair (.int .i64) .unit)))))))))]
abbrev R_12:List Ty:=[(.int .i64)]
noncomputable def sm_12:Nat->Option Summ:=smL [(48,s_48)]
noncomputable def T_12_0:PS:=⟨43,[(0,.hv Zy12_0),(3,.hv (.int .i64))],[],0⟩
inductive Sp.E_12_0 where
 |e0
 |e1 (p0:Zt12_1)
noncomputable def Sp.B_12_0{R:Type}(r:Option E_12_0)(k0:Option R)(k1:Zt12_1->Option R):Option R:=match r with
 |none=>none
 |some (.e0)=>k0
 |some (.e1 p0)=>k1 p0
noncomputable def Y_12_0{R:Type}(k:Ex->St->Option R):E_12_0->Option R
 | .e0=>k Ex.ret (sx 43 [(2,CV.int i64 1)] [])
 | .e1 p0=>k (Ex.exit 0) (sx 43 [(0,CV.pure (Ty.slice (Ty.pair (Ty.int i64) (Ty.pair (Ty.int i64) (Ty.pair (Ty.int i64) (Ty.pair (Ty.int i64) (Ty.pair (Ty.int i64) (Ty.pair (Ty.int i64) (Ty.pair Ty.bool (Ty.pair (Ty.int i64) Ty.unit))))))))) p0)] [])
noncomputable def Sp.S_12_0{R:Type}(K:(List (Int×Int×Int×Int×Int×Int×Bool×Int×Unit))->Int->Option R)(k:E_12_0->Option R)(p0:List (Int×Int×Int×Int×Int×Int×Bool×Int×Unit))(p1:Int):Option R:=
 bif decide (p1<(↑(length p0):Int))then gd (inB p1 (length p0)) (gd (p_48 (getD p0 (toNat p1) Zd1)) (bif !(v_48 (getD p0 (toNat p1) Zd1)).1 then k (E_12_0.e0)else K p0 (wrap i64 (p1+1))))else k (E_12_0.e1 p0)
noncomputable def Sp.L_12_0:Nat->(List (Int×Int×Int×Int×Int×Int×Bool×Int×Unit))->Int->Option E_12_0
 |0,_,_=>none
 |m+1,p0,p1=>S_12_0 (L_12_0 m) some p0 p1
noncomputable def l_12_0(m:Nat)(a:T_12_0.E):Option E_12_0:=L_12_0 m a.1 a.2.1
noncomputable def O_12_0{R:Type}:Orc R:=orL T_12_0 (l_12_0 FU) Y_12_0
theorem OK_12_0{R:Type}:okF (R:=R) sm_12 0 (nf 12 0) O_12_0:=lp0 T_12_0 l_12_0 (fun R K k a=>S_12_0 (fun p0 p1=>K (p0,p1,())) k a.1 a.2.1) Y_12_0 (fun _ _ _=>by kernel_rfl) (fun _ _ _=>by
 unfold S_12_0
 repeat' first|apply gdN|apply condN|rfl) (ok0 _)
noncomputable def T_12_2:PS:=⟨43,[(0,.hv Zy12_0),(4,.hv (.int .i64)),(5,.hv (.int .i64))],[],0⟩
inductive Sp.E_12_2 where
 |e0
 |e1 (p0:Zt12_1) (p1:Int)
noncomputable def Sp.B_12_2{R:Type}(r:Option E_12_2)(k0:Option R)(k1:Zt12_1->Int->Option R):Option R:=match r with
 |none=>none
 |some (.e0)=>k0
 |some (.e1 p0 p1)=>k1 p0 p1
theorem Bn_12_2{A R:Type}{r:Option E_12_2}{f:A->Option R}{k0:Option A}{k1:Zt12_1->Int->Option A}{l0:Option R}{l1:Zt12_1->Int->Option R}(h0:(k0).bind f=l0)(h1:∀p0 p1,(k1 p0 p1).bind f=l1 p0 p1):(B_12_2 r k0 k1).bind f=B_12_2 r l0 l1:=by
 cases r with
 |none=>rfl
 |some e=>cases e<;>first|apply h0|apply h1
noncomputable def Y_12_2{R:Type}(k:Ex->St->Option R):E_12_2->Option R
 | .e0=>k Ex.ret (sx 43 [(2,CV.int i64 8)] [])
 | .e1 p0 p1=>k (Ex.exit 4) (sx 43 [(0,CV.pure (Ty.slice (Ty.pair (Ty.int i64) (Ty.pair (Ty.int i64) (Ty.pair (Ty.int i64) (Ty.pair (Ty.int i64) (Ty.pair (Ty.int i64) (Ty.pair (Ty.int i64) (Ty.pair Ty.bool (Ty.pair (Ty.int i64) Ty.unit))))))))) p0),(4,CV.int i64 p1)] [])
noncomputable def Sp.S_12_2{R:Type}(K:(List (Int×Int×Int×Int×Int×Int×Bool×Int×Unit))->Int->Int->Option R)(k:E_12_2->Option R)(p0:List (Int×Int×Int×Int×Int×Int×Bool×Int×Unit))(p1 p2:Int):Option R:=
 bif decide (p2<p1)then gd (inB p2 (length p0)) (gd (inB p1 (length p0)) (bif(getD p0 (toNat p2) Zd1).1==(getD p0 (toNat p1) Zd1).1 then k (E_12_2.e0)else K p0 p1 (wrap i64 (p2+1))))else k (E_12_2.e1 p0 p1)
noncomputable def Sp.L_12_2:Nat->(List (Int×Int×Int×Int×Int×Int×Bool×Int×Unit))->Int->Int->Option E_12_2
 |0,_,_,_=>none
 |m+1,p0,p1,p2=>S_12_2 (L_12_2 m) some p0 p1 p2
noncomputable def l_12_2(m:Nat)(a:T_12_2.E):Option E_12_2:=L_12_2 m a.1 a.2.1 a.2.2.1
noncomputable def O_12_2{R:Type}:Orc R:=orL T_12_2 (l_12_2 FU) Y_12_2
theorem OK_12_2{R:Type}:okF (R:=R) sm_12 0 (ni (nf 12 1) 0) O_12_2:=lp0 T_12_2 l_12_2 (fun R K k a=>S_12_2 (fun p0 p1 p2=>K (p0,p1,p2,())) k a.1 a.2.1 a.2.2.1) Y_12_2 (fun _ _ _=>by kernel_rfl) (fun _ _ _=>by
 unfold S_12_2
 repeat' first|apply gdN|apply condN|rfl) (ok0 _)
noncomputable def T_12_1:PS:=⟨43,[(0,.hv Zy12_0),(4,.hv (.int .i64))],[],0⟩
inductive Sp.E_12_1 where
 |e0
 |e1
noncomputable def Sp.B_12_1{R:Type}(r:Option E_12_1)(k0 k1:Option R):Option R:=match r with
 |none=>none
 |some (.e0)=>k0
 |some (.e1)=>k1
noncomputable def Y_12_1{R:Type}(k:Ex->St->Option R):E_12_1->Option R
 | .e0=>k Ex.ret (sx 43 [(2,CV.int i64 8)] [])
 | .e1=>k (Ex.exit 2) (sx 43 [] [])
noncomputable def Sp.S_12_1{R:Type}(K:(List (Int×Int×Int×Int×Int×Int×Bool×Int×Unit))->Int->Option R)(k:E_12_1->Option R)(p0:List (Int×Int×Int×Int×Int×Int×Bool×Int×Unit))(p1:Int):Option R:=
 bif decide (p1<(↑(length p0):Int))then B_12_2 (L_12_2 4611686018427387904 p0 p1 0) (k (E_12_1.e0)) fun y6 y7=>K y6 (wrap i64 (y7+1))else k (E_12_1.e1)
noncomputable def Sp.L_12_1:Nat->(List (Int×Int×Int×Int×Int×Int×Bool×Int×Unit))->Int->Option E_12_1
 |0,_,_=>none
 |m+1,p0,p1=>S_12_1 (L_12_1 m) some p0 p1
noncomputable def l_12_1(m:Nat)(a:T_12_1.E):Option E_12_1:=L_12_1 m a.1 a.2.1
noncomputable def O_12_1{R:Type}:Orc R:=orL T_12_1 (l_12_1 FU) Y_12_1
theorem OK_12_1{R:Type}:okF (R:=R) sm_12 0 (nf 12 1) O_12_1:=lp noO_ok (os:=[O_12_2]) ⟨OK_12_2,trivial⟩ T_12_1 l_12_1 (fun R K k a=>S_12_1 (fun p0 p1=>K (p0,p1,())) k a.1 a.2.1) Y_12_1 (fun _=>rfl) (fun _ _=>rfl) (fun k K a=>by kernel_rfl) (fun Y K a=>by
 unfold S_12_1
 repeat' first|apply gdN|apply condN|(apply Bn_12_2<;>intros)|rfl) (ok0 _)
noncomputable def F_12(a0:(List (Int×(Int×(Int×(Int×(Int×(Int×(Bool×(Int×Unit)))))))))):Option (Int×Unit) :=
 bif decide ((↑(length a0):Int)>64)then some (5,PUnit.unit)else B_12_0 (L_12_0 4611686018427387904 a0 0) (some (1,PUnit.unit)) fun y5=>B_12_1 (L_12_1 4611686018427387904 y5 0) (some (8,PUnit.unit)) (some (0,PUnit.unit))
noncomputable def Sp.p_12(a0:(List (Int×(Int×(Int×(Int×(Int×(Int×(Bool×(Int×Unit)))))))))):Bool:=(F_12 a0).isSome
noncomputable def Sp.v_12(a0:(List (Int×(Int×(Int×(Int×(Int×(Int×(Bool×(Int×Unit)))))))))):Int×Unit:=(F_12 a0).getD (dfH R_12)
noncomputable def s_12:Summ:=shN A_12 R_12 (fun x=>p_12 x.1) (fun x=>v_12 x.1)
theorem pv_12(a0:(List (Int×(Int×(Int×(Int×(Int×(Int×(Bool×(Int×Unit)))))))))){y:Int×Unit}(h:F_12 a0=some y):p_12 a0=true/\v_12 a0=y:=pvG h
theorem run_12(x:HDen A_12)(y:HDen R_12)(h:F_12 x.1=some y):rnF sm_12 1 12 A_12 R_12 x y:=runG noO_ok (os:=[O_12_0,O_12_1]) ⟨OK_12_0,OK_12_1,trivial⟩ (Eq.trans (by kernel_rfl) h)
end
noncomputable section
abbrev A_89:List Ty:=[(.slice (.int .i64))]
abbrev R_89:List Ty:=[.bool]
noncomputable def sm_89:Nat->Option Summ:=smL [(55,s_55)]
noncomputable def T_89_0:PS:=⟨16,[(0,.hv (.slice (.int .i64))),(3,.hv (.int .i64))],[],0⟩
inductive Sp.E_89_0 where
 |e0
 |e1
noncomputable def Sp.B_89_0{R:Type}(r:Option E_89_0)(k0 k1:Option R):Option R:=match r with
 |none=>none
 |some (.e0)=>k0
 |some (.e1)=>k1
noncomputable def Y_89_0{R:Type}(k:Ex->St->Option R):E_89_0->Option R
 | .e0=>k Ex.ret (sx 16 [(2,CV.bool false)] [])
 | .e1=>k (Ex.exit 0) (sx 16 [] [])
noncomputable def Sp.S_89_0{R:Type}(K:List Int->Int->Option R)(k:E_89_0->Option R)(p0:List Int)(p1:Int):Option R:=
 bif decide (p1<(↑(length p0):Int))then gd (inB p1 (length p0)) (gd (p_55 (getD p0 (toNat p1) 0) (-1099511627776:Int) 1099511627776) (bif !(v_55 (getD p0 (toNat p1) 0) (-1099511627776:Int) 1099511627776).1 then k (E_89_0.e0)else K p0 (wrap i64 (p1+1))))else k (E_89_0.e1)
noncomputable def Sp.L_89_0:Nat->List Int->Int->Option E_89_0
 |0,_,_=>none
 |m+1,p0,p1=>S_89_0 (L_89_0 m) some p0 p1
noncomputable def l_89_0(m:Nat)(a:T_89_0.E):Option E_89_0:=L_89_0 m a.1 a.2.1
noncomputable def O_89_0{R:Type}:Orc R:=orL T_89_0 (l_89_0 FU) Y_89_0
theorem OK_89_0{R:Type}:okF (R:=R) sm_89 0 (nf 89 0) O_89_0:=lp0 T_89_0 l_89_0 (fun R K k a=>S_89_0 (fun p0 p1=>K (p0,p1,())) k a.1 a.2.1) Y_89_0 (fun _ _ _=>by kernel_rfl) (fun _ _ _=>by
 unfold S_89_0
 repeat' first|apply gdN|apply condN|rfl) (ok0 _)
noncomputable def F_89(a0:(List Int)):Option (Bool×Unit) :=
 B_89_0 (L_89_0 4611686018427387904 a0 0) (some (false,PUnit.unit)) (some (true,PUnit.unit))
noncomputable def Sp.p_89(a0:(List Int)):Bool:=(F_89 a0).isSome
noncomputable def Sp.v_89(a0:(List Int)):Bool×Unit:=(F_89 a0).getD (dfH R_89)
noncomputable def s_89:Summ:=shN A_89 R_89 (fun x=>p_89 x.1) (fun x=>v_89 x.1)
theorem pv_89(a0:(List Int)){y:Bool×Unit}(h:F_89 a0=some y):p_89 a0=true/\v_89 a0=y:=pvG h
theorem run_89(x:HDen A_89)(y:HDen R_89)(h:F_89 x.1=some y):rnF sm_89 1 89 A_89 R_89 x y:=runG noO_ok (os:=[O_89_0]) ⟨OK_89_0,trivial⟩ (Eq.trans (by kernel_rfl) h)
end
noncomputable section
abbrev A_90:List Ty:=[(.pair (.int .i64) (.pair (.int .i64) (.pair (.int .i64) (.pair (.int .i64) (.pair (.int .i64) (.pair (.slice (.int .i64)) (.pair (.int .i64) .unit))))))),(.int .i64)]
abbrev R_90:List Ty:=[.bool]
noncomputable def sm_90:Nat->Option Summ:=smL []
noncomputable def F_90(a0:(Int×(Int×(Int×(Int×(Int×((List Int)×(Int×Unit))))))))(a1:Int):Option (Bool×Unit) :=
 some (Sp.andI i64 (a0.1) a1 !=0,PUnit.unit)
noncomputable def Sp.p_90(a0:(Int×(Int×(Int×(Int×(Int×((List Int)×(Int×Unit))))))))(a1:Int):Bool:=(F_90 a0 a1).isSome
noncomputable def Sp.v_90(a0:(Int×(Int×(Int×(Int×(Int×((List Int)×(Int×Unit))))))))(a1:Int):Bool×Unit:=(F_90 a0 a1).getD (dfH R_90)
noncomputable def s_90:Summ:=shN A_90 R_90 (fun x=>p_90 x.1 x.2.1) (fun x=>v_90 x.1 x.2.1)
theorem pv_90(a0:(Int×(Int×(Int×(Int×(Int×((List Int)×(Int×Unit))))))))(a1:Int){y:Bool×Unit}(h:F_90 a0 a1=some y):p_90 a0 a1=true/\v_90 a0 a1=y:=pvG h
theorem run_90(x:HDen A_90)(y:HDen R_90)(h:F_90 x.1 x.2.1=some y):rnF sm_90 1 90 A_90 R_90 x y:=runG noO_ok (os:=[]) trivial (Eq.trans (by kernel_rfl) h)
end
noncomputable section
abbrev Zt54_0:Type:=Int×Int×Int×Int×Int×List Int×Int×Unit
abbrev Zt54_1:Type:=Int×Int×Int×Int×Int×Int×Bool×Int×Unit
abbrev Zy54_2:Ty:=(.pair (.int .i64) (.pair (.int .i64) (.pair (.int .i64) (.pair (.int .i64) (.pair (.int .i64) (.pair (.int .i64) (.pair .bool (.pair (.int .i64) .unit))))))))
abbrev Zy54_3:Ty:=(.pair (.int .i64) (.pair (.int .i64) (.pair (.int .i64) (.pair (.int .i64) (.pair (.int .i64) (.pair (.slice (.int .i64)) (.pair (.int .i64) .unit)))))))
abbrev A_54:List Ty:=[(.pair (.int .i64) (.pair (.int .i64) (.pair (.int .i64) (.pair (.int .i64) (.pair (.int .i64) (.pair (.int .i64) (.pair .bool (.pair (.int .i64) .unit)))))))),(.pair (.int .i64) (.pair (.int .i64) (.pair (.int .i64) (.pair (.int .i64) (.pair (.int .i64) (.pair (.slice (.int .i64)) (.pair (.int .i64) .unit))))))),(.int .i64)]
abbrev R_54:List Ty:=[.bool]
noncomputable def sm_54:Nat->Option Summ:=smL [(55,s_55),(89,s_89),(90,s_90)]
noncomputable def T_54_3:PS:=⟨166,[(3,.kc (.ptr 0 [])),(4,.kc (.ptr 1 [])),(7,.hv .bool)],[.mem (.hv Zy54_2),.mem (.hv Zy54_3)],0⟩
inductive Sp.E_54_3 where
 |e0 (p1:Zt54_1) (p2:Zt54_0)
 |e1
 |e2 (p2:Zt54_0)
noncomputable def Sp.B_54_3{R:Type}(r:Option E_54_3)(k0:Zt54_1->Zt54_0->Option R)(k1:Option R)(k2:Zt54_0->Option R):Option R:=match r with
 |none=>none
 |some (.e0 p1 p2)=>k0 p1 p2
 |some (.e1)=>k1
 |some (.e2 p2)=>k2 p2
theorem Bn_54_3{A R:Type}{r:Option E_54_3}{f:A->Option R}{k0:Zt54_1->Zt54_0->Option A}{k1:Option A}{k2:Zt54_0->Option A}{l0:Zt54_1->Zt54_0->Option R}{l1:Option R}{l2:Zt54_0->Option R}(h0:∀p1 p2,(k0 p1 p2).bind f=l0 p1 p2)(h1:(k1).bind f=l1)(h2:∀p2,(k2 p2).bind f=l2 p2):(B_54_3 r k0 k1 k2).bind f=B_54_3 r l0 l1 l2:=by
 cases r with
 |none=>rfl
 |some e=>cases e<;>first|apply h0|apply h1|apply h2
noncomputable def Y_54_3{R:Type}(k:Ex->St->Option R):E_54_3->Option R
 | .e0 p1 p2=>k Ex.ret (sx 166 [(6,CV.bool ((↑(length (p2.2.2.2.2.2.1)):Int)==p1.2.2.2.2.2.2.2.1))] [])
 | .e1=>k Ex.ret (sx 166 [(6,CV.bool false)] [])
 | .e2 p2=>k Ex.ret (sx 166 [(6,CV.bool ((↑(length (p2.2.2.2.2.2.1)):Int)==0))] [])
noncomputable def Sp.S_54_3{R:Type}(k:E_54_3->Option R)(p0:Bool)(p1:Int×Int×Int×Int×Int×Int×Bool×Int×Unit)(p2:Int×Int×Int×Int×Int×List Int×Int×Unit):Option R:=
 bif p0 then bif decide (p2.2.2.2.2.1>=1)then bif decide (p2.2.2.1>=1)then bif decide (p2.2.2.2.2.2.2.1>=1)then k (E_54_3.e0 p1 p2)else k (E_54_3.e1)else k (E_54_3.e1)else k (E_54_3.e1)else bif p2.2.2.1==0 then bif p2.2.2.2.1==0 then bif p2.2.2.2.2.1==0 then bif p2.2.2.2.2.2.2.1==0 then k (E_54_3.e2 p2)else k (E_54_3.e1)else k (E_54_3.e1)else k (E_54_3.e1)else k (E_54_3.e1)
noncomputable def Sp.J_54_3(p0:Bool)(p1:Int×Int×Int×Int×Int×Int×Bool×Int×Unit)(p2:Int×Int×Int×Int×Int×List Int×Int×Unit):Option E_54_3:=S_54_3 some p0 p1 p2
noncomputable def O_54_3{R:Type}:Orc R:=orL T_54_3 (fun a=>J_54_3 a.1 a.2.1 a.2.2.1) Y_54_3
theorem OK_54_3{R:Type}:okF (R:=R) sm_54 0 (ni (ni (ni (nf 54 0) 0) 0) 0) O_54_3:=jp noO_ok (os:=[]) trivial T_54_3 (fun R k a=>S_54_3 k a.1 a.2.1 a.2.2.1) Y_54_3 (fun k a=>by kernel_rfl) (fun Y a=>by
 unfold S_54_3
 repeat' first|apply gdN|apply condN|rfl) (ok0 _)
noncomputable def T_54_2:PS:=⟨166,[(3,.kc (.ptr 0 [])),(4,.kc (.ptr 1 [])),(7,.hv .bool)],[.mem (.hv Zy54_2),.mem (.hv Zy54_3)],0⟩
inductive Sp.E_54_2 where
 |e0
 |e1 (y6:Zt54_1) (y7:Zt54_0)
 |e2 (y8:Zt54_0)
noncomputable def Sp.B_54_2{R:Type}(r:Option E_54_2)(k0:Option R)(k1:Zt54_1->Zt54_0->Option R)(k2:Zt54_0->Option R):Option R:=match r with
 |none=>none
 |some (.e0)=>k0
 |some (.e1 y6 y7)=>k1 y6 y7
 |some (.e2 y8)=>k2 y8
theorem Bn_54_2{A R:Type}{r:Option E_54_2}{f:A->Option R}{k0:Option A}{k1:Zt54_1->Zt54_0->Option A}{k2:Zt54_0->Option A}{l0:Option R}{l1:Zt54_1->Zt54_0->Option R}{l2:Zt54_0->Option R}(h0:(k0).bind f=l0)(h1:∀y6 y7,(k1 y6 y7).bind f=l1 y6 y7)(h2:∀y8,(k2 y8).bind f=l2 y8):(B_54_2 r k0 k1 k2).bind f=B_54_2 r l0 l1 l2:=by
 cases r with
 |none=>rfl
 |some e=>cases e<;>first|apply h0|apply h1|apply h2
noncomputable def Y_54_2{R:Type}(k:Ex->St->Option R):E_54_2->Option R
 | .e0=>k Ex.ret (sx 166 [(6,CV.bool false)] [])
 | .e1 y6 y7=>k Ex.ret (sx 166 [(6,CV.bool ((↑(length (y7.2.2.2.2.2.1)):Int)==y6.2.2.2.2.2.2.2.1))] [])
 | .e2 y8=>k Ex.ret (sx 166 [(6,CV.bool ((↑(length (y8.2.2.2.2.2.1)):Int)==0))] [])
noncomputable def Sp.S_54_2{R:Type}(k:E_54_2->Option R)(p0:Bool)(p1:Int×Int×Int×Int×Int×Int×Bool×Int×Unit)(p2:Int×Int×Int×Int×Int×List Int×Int×Unit):Option R:=
 gd (p_90 p2 2) (bif(v_90 p2 2).1 then bif p2.2.2.2.1 !=0 then k (E_54_2.e0)else B_54_3 (J_54_3 p0 p1 p2) (fun y6 y7=>k (E_54_2.e1 y6 y7)) (k (E_54_2.e0)) fun y8=>k (E_54_2.e2 y8)else B_54_3 (J_54_3 p0 p1 p2) (fun y9 y10=>k (E_54_2.e1 y9 y10)) (k (E_54_2.e0)) fun y11=>k (E_54_2.e2 y11))
noncomputable def Sp.J_54_2(p0:Bool)(p1:Int×Int×Int×Int×Int×Int×Bool×Int×Unit)(p2:Int×Int×Int×Int×Int×List Int×Int×Unit):Option E_54_2:=S_54_2 some p0 p1 p2
noncomputable def O_54_2{R:Type}:Orc R:=orL T_54_2 (fun a=>J_54_2 a.1 a.2.1 a.2.2.1) Y_54_2
theorem OK_54_2{R:Type}:okF (R:=R) sm_54 0 (ni (ni (nf 54 0) 0) 0) O_54_2:=jp noO_ok (os:=[O_54_3]) ⟨OK_54_3,trivial⟩ T_54_2 (fun R k a=>S_54_2 k a.1 a.2.1 a.2.2.1) Y_54_2 (fun k a=>by kernel_rfl) (fun Y a=>by
 unfold S_54_2
 repeat' first|apply gdN|apply condN|(apply Bn_54_3<;>intros)|rfl) (ok0 _)
noncomputable def T_54_1:PS:=⟨166,[(3,.kc (.ptr 0 [])),(4,.kc (.ptr 1 [])),(7,.hv .bool)],[.mem (.hv Zy54_2),.mem (.hv Zy54_3)],0⟩
inductive Sp.E_54_1 where
 |e0
 |e1 (y6:Zt54_1) (y7:Zt54_0)
 |e2 (y8:Zt54_0)
noncomputable def Sp.B_54_1{R:Type}(r:Option E_54_1)(k0:Option R)(k1:Zt54_1->Zt54_0->Option R)(k2:Zt54_0->Option R):Option R:=match r with
 |none=>none
 |some (.e0)=>k0
 |some (.e1 y6 y7)=>k1 y6 y7
 |some (.e2 y8)=>k2 y8
theorem Bn_54_1{A R:Type}{r:Option E_54_1}{f:A->Option R}{k0:Option A}{k1:Zt54_1->Zt54_0->Option A}{k2:Zt54_0->Option A}{l0:Option R}{l1:Zt54_1->Zt54_0->Option R}{l2:Zt54_0->Option R}(h0:(k0).bind f=l0)(h1:∀y6 y7,(k1 y6 y7).bind f=l1 y6 y7)(h2:∀y8,(k2 y8).bind f=l2 y8):(B_54_1 r k0 k1 k2).bind f=B_54_1 r l0 l1 l2:=by
 cases r with
 |none=>rfl
 |some e=>cases e<;>first|apply h0|apply h1|apply h2
noncomputable def Y_54_1{R:Type}(k:Ex->St->Option R):E_54_1->Option R
 | .e0=>k Ex.ret (sx 166 [(6,CV.bool false)] [])
 | .e1 y6 y7=>k Ex.ret (sx 166 [(6,CV.bool ((↑(length (y7.2.2.2.2.2.1)):Int)==y6.2.2.2.2.2.2.2.1))] [])
 | .e2 y8=>k Ex.ret (sx 166 [(6,CV.bool ((↑(length (y8.2.2.2.2.2.1)):Int)==0))] [])
noncomputable def Sp.S_54_1{R:Type}(k:E_54_1->Option R)(p0:Bool)(p1:Int×Int×Int×Int×Int×Int×Bool×Int×Unit)(p2:Int×Int×Int×Int×Int×List Int×Int×Unit):Option R:=
 gd (p_90 p2 4) (bif !(v_90 p2 4).1==(p2.2.2.1==2)then k (E_54_1.e0)else gd (p_90 p2 16) (bif(v_90 p2 16).1 then gd (p_90 p2 4) (bif(v_90 p2 4).1 then bif !p1.2.2.2.2.2.2.1 then k (E_54_1.e0)else B_54_2 (J_54_2 p0 p1 p2) (k (E_54_1.e0)) (fun y6 y7=>k (E_54_1.e1 y6 y7)) fun y8=>k (E_54_1.e2 y8)else k (E_54_1.e0))else B_54_2 (J_54_2 p0 p1 p2) (k (E_54_1.e0)) (fun y9 y10=>k (E_54_1.e1 y9 y10)) fun y11=>k (E_54_1.e2 y11)))
noncomputable def Sp.J_54_1(p0:Bool)(p1:Int×Int×Int×Int×Int×Int×Bool×Int×Unit)(p2:Int×Int×Int×Int×Int×List Int×Int×Unit):Option E_54_1:=S_54_1 some p0 p1 p2
noncomputable def O_54_1{R:Type}:Orc R:=orL T_54_1 (fun a=>J_54_1 a.1 a.2.1 a.2.2.1) Y_54_1
theorem OK_54_1{R:Type}:okF (R:=R) sm_54 0 (ni (nf 54 0) 0) O_54_1:=jp noO_ok (os:=[O_54_2]) ⟨OK_54_2,trivial⟩ T_54_1 (fun R k a=>S_54_1 k a.1 a.2.1 a.2.2.1) Y_54_1 (fun k a=>by kernel_rfl) (fun Y a=>by
 unfold S_54_1
 repeat' first|apply gdN|apply condN|(apply Bn_54_2<;>intros)|rfl) (ok0 _)
noncomputable def T_54_0:PS:=⟨166,[(2,.hv (.int .i64)),(3,.kc (.ptr 0 [])),(4,.kc (.ptr 1 [])),(7,.hv .bool)],[.mem (.hv Zy54_2),.mem (.hv Zy54_3)],0⟩
inductive Sp.E_54_0 where
 |e0
 |e1 (y6:Zt54_1) (y7:Zt54_0)
 |e2 (y8:Zt54_0)
noncomputable def Sp.B_54_0{R:Type}(r:Option E_54_0)(k0:Option R)(k1:Zt54_1->Zt54_0->Option R)(k2:Zt54_0->Option R):Option R:=match r with
 |none=>none
 |some (.e0)=>k0
 |some (.e1 y6 y7)=>k1 y6 y7
 |some (.e2 y8)=>k2 y8
noncomputable def Y_54_0{R:Type}(k:Ex->St->Option R):E_54_0->Option R
 | .e0=>k Ex.ret (sx 166 [(6,CV.bool false)] [])
 | .e1 y6 y7=>k Ex.ret (sx 166 [(6,CV.bool ((↑(length (y7.2.2.2.2.2.1)):Int)==y6.2.2.2.2.2.2.2.1))] [])
 | .e2 y8=>k Ex.ret (sx 166 [(6,CV.bool ((↑(length (y8.2.2.2.2.2.1)):Int)==0))] [])
noncomputable def Sp.S_54_0{R:Type}(k:E_54_0->Option R)(p0:Int)(p1:Bool)(p2:Int×Int×Int×Int×Int×Int×Bool×Int×Unit)(p3:Int×Int×Int×Int×Int×List Int×Int×Unit):Option R:=
 gd (p_90 p3 1) (bif(v_90 p3 1).1 then gd (p_90 p3 2) (bif(v_90 p3 2).1 then gd (p_90 p3 8) (bif(v_90 p3 8).1 then bif !p3.2.2.2.2.2.2.1==p0 then k (E_54_0.e0)else B_54_1 (J_54_1 p1 p2 p3) (k (E_54_0.e0)) (fun y6 y7=>k (E_54_0.e1 y6 y7)) fun y8=>k (E_54_0.e2 y8)else k (E_54_0.e0))else k (E_54_0.e0))else B_54_1 (J_54_1 p1 p2 p3) (k (E_54_0.e0)) (fun y9 y10=>k (E_54_0.e1 y9 y10)) fun y11=>k (E_54_0.e2 y11))
noncomputable def Sp.J_54_0(p0:Int)(p1:Bool)(p2:Int×Int×Int×Int×Int×Int×Bool×Int×Unit)(p3:Int×Int×Int×Int×Int×List Int×Int×Unit):Option E_54_0:=S_54_0 some p0 p1 p2 p3
noncomputable def O_54_0{R:Type}:Orc R:=orL T_54_0 (fun a=>J_54_0 a.1 a.2.1 a.2.2.1 a.2.2.2.1) Y_54_0
theorem OK_54_0{R:Type}:okF (R:=R) sm_54 0 (nf 54 0) O_54_0:=jp noO_ok (os:=[O_54_1]) ⟨OK_54_1,trivial⟩ T_54_0 (fun R k a=>S_54_0 k a.1 a.2.1 a.2.2.1 a.2.2.2.1) Y_54_0 (fun k a=>by kernel_rfl) (fun Y a=>by
 unfold S_54_0
 repeat' first|apply gdN|apply condN|(apply Bn_54_1<;>intros)|rfl) (ok0 _)
noncomputable def F_54(a0:(Int×(Int×(Int×(Int×(Int×(Int×(Bool×(Int×Unit)))))))))(a1:(Int×(Int×(Int×(Int×(Int×((List Int)×(Int×Unit))))))))(a2:Int):Option (Bool×Unit) :=
 gd (p_55 (a1.1) 0 31) (bif !(v_55 (a1.1) 0 31).1 then some (false,PUnit.unit)else gd (p_55 (a1.2.1) (wrap i64 (0-a0.2.2.1)) (a0.2.1)) (bif !(v_55 (a1.2.1) (wrap i64 (0-a0.2.2.1)) (a0.2.1)).1 then some (false,PUnit.unit)else gd (p_55 (a1.2.2.1) 0 2) (bif !(v_55 (a1.2.2.1) 0 2).1 then some (false,PUnit.unit)else gd (p_55 (a1.2.2.2.1) 0 (wrap i64 (a0.2.2.2.2.1-1))) (bif !(v_55 (a1.2.2.2.1) 0 (wrap i64 (a0.2.2.2.2.1-1))).1 then some (false,PUnit.unit)else gd (p_55 (a1.2.2.2.2.1) 0 255) (bif !(v_55 (a1.2.2.2.2.1) 0 255).1 then some (false,PUnit.unit)else gd (p_55 (a1.2.2.2.2.2.2.1) 0 a2) (bif !(v_55 (a1.2.2.2.2.2.2.1) 0 a2).1 then some (false,PUnit.unit)else bif(↑(length (a1.2.2.2.2.2.1)):Int)!=0 then bif(↑(length (a1.2.2.2.2.2.1)):Int)!=a0.2.2.2.2.2.2.2.1 then some (false,PUnit.unit)else gd (p_89 (a1.2.2.2.2.2.1)) (bif !(v_89 (a1.2.2.2.2.2.1)).1 then some (false,PUnit.unit)else gd (p_90 a1 2) (bif(v_90 a1 2).1 then B_54_0 (J_54_0 a2 true a0 a1) (some (false,PUnit.unit)) (fun y12 y13=>some ((↑(length (y13.2.2.2.2.2.1)):Int)==y12.2.2.2.2.2.2.2.1,PUnit.unit)) fun y14=>some ((↑(length (y14.2.2.2.2.2.1)):Int)==0,PUnit.unit)else gd (p_90 a1 4) (B_54_0 (J_54_0 a2 ((v_90 a1 4).1) a0 a1) (some (false,PUnit.unit)) (fun y15 y16=>some ((↑(length (y16.2.2.2.2.2.1)):Int)==y15.2.2.2.2.2.2.2.1,PUnit.unit)) fun y17=>some ((↑(length (y17.2.2.2.2.2.1)):Int)==0,PUnit.unit))))else gd (p_89 (a1.2.2.2.2.2.1)) (bif !(v_89 (a1.2.2.2.2.2.1)).1 then some (false,PUnit.unit)else gd (p_90 a1 2) (bif(v_90 a1 2).1 then B_54_0 (J_54_0 a2 true a0 a1) (some (false,PUnit.unit)) (fun y18 y19=>some ((↑(length (y19.2.2.2.2.2.1)):Int)==y18.2.2.2.2.2.2.2.1,PUnit.unit)) fun y20=>some ((↑(length (y20.2.2.2.2.2.1)):Int)==0,PUnit.unit)else gd (p_90 a1 4) (B_54_0 (J_54_0 a2 ((v_90 a1 4).1) a0 a1) (some (false,PUnit.unit)) (fun y21 y22=>some ((↑(length (y22.2.2.2.2.2.1)):Int)==y21.2.2.2.2.2.2.2.1,PUnit.unit)) fun y23=>some ((↑(length (y23.2.2.2.2.2.1)):Int)==0,PUnit.unit))))))))))
noncomputable def Sp.p_54(a0:(Int×(Int×(Int×(Int×(Int×(Int×(Bool×(Int×Unit)))))))))(a1:(Int×(Int×(Int×(Int×(Int×((List Int)×(Int×Unit))))))))(a2:Int):Bool:=(F_54 a0 a1 a2).isSome
noncomputable def Sp.v_54(a0:(Int×(Int×(Int×(Int×(Int×(Int×(Bool×(Int×Unit)))))))))(a1:(Int×(Int×(Int×(Int×(Int×((List Int)×(Int×Unit))))))))(a2:Int):Bool×Unit:=(F_54 a0 a1 a2).getD (dfH R_54)
noncomputable def s_54:Summ:=shN A_54 R_54 (fun x=>p_54 x.1 x.2.1 x.2.2.1) (fun x=>v_54 x.1 x.2.1 x.2.2.1)
theorem pv_54(a0:(Int×(Int×(Int×(Int×(Int×(Int×(Bool×(Int×Unit)))))))))(a1:(Int×(Int×(Int×(Int×(Int×((List Int)×(Int×Unit))))))))(a2:Int){y:Bool×Unit}(h:F_54 a0 a1 a2=some y):p_54 a0 a1 a2=true/\v_54 a0 a1 a2=y:=pvG h
theorem run_54(x:HDen A_54)(y:HDen R_54)(h:F_54 x.1 x.2.1 x.2.2.1=some y):rnF sm_54 1 54 A_54 R_54 x y:=runG noO_ok (os:=[O_54_0]) ⟨OK_54_0,trivial⟩ (Eq.trans (by kernel_rfl) h)
end
noncomputable section
abbrev Zy16_0:Ty:=(.pair (.slice (.pair (.int .i64) (.pair (.int .i64) (.pair (.int .i64) (.pair (.int .i64) (.pair (.int .i64) (.pair (.int .i64) (.pair .bool (.pair (.int .i64) .unit))))))))) (.pair (.slice (.pair (.int .i64) (.pair (.int .i64) (.pair (.int .i64) (.pair (.int .i64) (.pair (.int .i64) (.pair (.slice (.int .i64)) (.pair (.int .i64) .unit)))))))) (.pair (.int .i64) (.pair .bool .unit))))
abbrev A_16:List Ty:=[(.pair (.slice (.pair (.int .i64) (.pair (.int .i64) (.pair (.int .i64) (.pair (.int .i64) (.pair (.int .i64) (.pair (.int .i64) (.pair .bool (.pair (.int .i64) .unit))))))))) (.pair (.slice (.pair (.int .i64) (.pair (.int .i64) (.pair (.int .i64) (.pair (.int .i64) (.pair (.int .i64) (.pair (.slice (.int .i64)) (.pair (.int .i64) .unit)))))))) (.pair (.int .i64) (.pair .bool .unit))))]
abbrev R_16:List Ty:=[.bool]
noncomputable def sm_16:Nat->Option Summ:=smL [(12,s_12),(54,s_54),(55,s_55)]
noncomputable def T_16_1:PS:=⟨53,[(1,.kc (.ptr 0 [])),(3,.hv (.int .i64))],[.mem (.hv Zy16_0)],0⟩
inductive Sp.E_16_1 where
 |e0
 |e1
noncomputable def Sp.B_16_1{R:Type}(r:Option E_16_1)(k0 k1:Option R):Option R:=match r with
 |none=>none
 |some (.e0)=>k0
 |some (.e1)=>k1
theorem Bn_16_1{A R:Type}{r:Option E_16_1}{f:A->Option R}{k0:Option A}{k1:Option A}{l0:Option R}{l1:Option R}(h0:(k0).bind f=l0)(h1:(k1).bind f=l1):(B_16_1 r k0 k1).bind f=B_16_1 r l0 l1:=by
 cases r with
 |none=>rfl
 |some e=>cases e<;>first|apply h0|apply h1
noncomputable def Y_16_1{R:Type}(k:Ex->St->Option R):E_16_1->Option R
 | .e0=>k Ex.ret (sx 53 [(2,CV.bool false)] [])
 | .e1=>k (Ex.exit 0) (sx 53 [] [])
noncomputable def Sp.S_16_1{R:Type}(K:Int->(List (Int×Int×Int×Int×Int×Int×Bool×Int×Unit)×List (Int×Int×Int×Int×Int×List Int×Int×Unit)×Int×Bool×Unit)->Option R)(k:E_16_1->Option R)(p0:Int)(p1:List (Int×Int×Int×Int×Int×Int×Bool×Int×Unit)×List (Int×Int×Int×Int×Int×List Int×Int×Unit)×Int×Bool×Unit):Option R:=
 bif decide (p0<(↑(length (p1.2.1)):Int))then gd (inB p0 (length (p1.1))) (gd (inB p0 (length (p1.2.1))) (gd (p_54 (getD (p1.1) (toNat p0) Zd1) (getD (p1.2.1) (toNat p0) Zd0) (p1.2.2.1)) (bif !(v_54 (getD (p1.1) (toNat p0) Zd1) (getD (p1.2.1) (toNat p0) Zd0) (p1.2.2.1)).1 then k (E_16_1.e0)else K (wrap i64 (p0+1)) p1)))else k (E_16_1.e1)
noncomputable def Sp.L_16_1:Nat->Int->(List (Int×Int×Int×Int×Int×Int×Bool×Int×Unit)×List (Int×Int×Int×Int×Int×List Int×Int×Unit)×Int×Bool×Unit)->Option E_16_1
 |0,_,_=>none
 |m+1,p0,p1=>S_16_1 (L_16_1 m) some p0 p1
noncomputable def l_16_1(m:Nat)(a:T_16_1.E):Option E_16_1:=L_16_1 m a.1 a.2.1
noncomputable def O_16_1{R:Type}:Orc R:=orL T_16_1 (l_16_1 FU) Y_16_1
theorem OK_16_1{R:Type}:okF (R:=R) sm_16 0 (ni (nf 16 0) 0) O_16_1:=lp0 T_16_1 l_16_1 (fun R K k a=>S_16_1 (fun p0 p1=>K (p0,p1,())) k a.1 a.2.1) Y_16_1 (fun _ _ _=>by kernel_rfl) (fun _ _ _=>by
 unfold S_16_1
 repeat' first|apply gdN|apply condN|rfl) (ok0 _)
noncomputable def T_16_0:PS:=⟨53,[(1,.kc (.ptr 0 []))],[.mem (.hv Zy16_0)],0⟩
inductive Sp.E_16_0 where
 |e0
 |e1
noncomputable def Sp.B_16_0{R:Type}(r:Option E_16_0)(k0 k1:Option R):Option R:=match r with
 |none=>none
 |some (.e0)=>k0
 |some (.e1)=>k1
noncomputable def Y_16_0{R:Type}(k:Ex->St->Option R):E_16_0->Option R
 | .e0=>k Ex.ret (sx 53 [(2,CV.bool false)] [])
 | .e1=>k Ex.ret (sx 53 [(2,CV.bool true)] [])
noncomputable def Sp.S_16_0{R:Type}(k:E_16_0->Option R)(p0:List (Int×Int×Int×Int×Int×Int×Bool×Int×Unit)×List (Int×Int×Int×Int×Int×List Int×Int×Unit)×Int×Bool×Unit):Option R:=
 B_16_1 (L_16_1 4611686018427387904 0 p0) (k (E_16_0.e0)) (k (E_16_0.e1))
noncomputable def Sp.J_16_0(p0:List (Int×Int×Int×Int×Int×Int×Bool×Int×Unit)×List (Int×Int×Int×Int×Int×List Int×Int×Unit)×Int×Bool×Unit):Option E_16_0:=S_16_0 some p0
noncomputable def O_16_0{R:Type}:Orc R:=orL T_16_0 (fun a=>J_16_0 a.1) Y_16_0
theorem OK_16_0{R:Type}:okF (R:=R) sm_16 0 (nf 16 0) O_16_0:=jp noO_ok (os:=[O_16_1]) ⟨OK_16_1,trivial⟩ T_16_0 (fun R k a=>S_16_0 k a.1) Y_16_0 (fun k a=>by kernel_rfl) (fun Y a=>by
 unfold S_16_0
 repeat' first|apply gdN|apply condN|(apply Bn_16_1<;>intros)|rfl) (ok0 _)
noncomputable def F_16(a0:((List (Int×(Int×(Int×(Int×(Int×(Int×(Bool×(Int×Unit)))))))))×((List (Int×(Int×(Int×(Int×(Int×((List Int)×(Int×Unit))))))))×(Int×(Bool×Unit))))):Option (Bool×Unit) :=
 gd (p_12 (a0.1)) (bif(v_12 (a0.1)).1 !=0 then some (false,PUnit.unit)else bif(↑(length (a0.2.1)):Int)!=(↑(length (a0.1)):Int)then some (false,PUnit.unit)else gd (p_55 (a0.2.2.1) 0 1073741824) (bif !(v_55 (a0.2.2.1) 0 1073741824).1 then some (false,PUnit.unit)else bif a0.2.2.2.1 then bif decide (a0.2.2.1<1)then some (false,PUnit.unit)else B_16_0 (J_16_0 a0) (some (false,PUnit.unit)) (some (true,PUnit.unit))else B_16_0 (J_16_0 a0) (some (false,PUnit.unit)) (some (true,PUnit.unit))))
noncomputable def Sp.p_16(a0:((List (Int×(Int×(Int×(Int×(Int×(Int×(Bool×(Int×Unit)))))))))×((List (Int×(Int×(Int×(Int×(Int×((List Int)×(Int×Unit))))))))×(Int×(Bool×Unit))))):Bool:=(F_16 a0).isSome
noncomputable def Sp.v_16(a0:((List (Int×(Int×(Int×(Int×(Int×(Int×(Bool×(Int×Unit)))))))))×((List (Int×(Int×(Int×(Int×(Int×((List Int)×(Int×Unit))))))))×(Int×(Bool×Unit))))):Bool×Unit:=(F_16 a0).getD (dfH R_16)
noncomputable def s_16:Summ:=shN A_16 R_16 (fun x=>p_16 x.1) (fun x=>v_16 x.1)
theorem pv_16(a0:((List (Int×(Int×(Int×(Int×(Int×(Int×(Bool×(Int×Unit)))))))))×((List (Int×(Int×(Int×(Int×(Int×((List Int)×(Int×Unit))))))))×(Int×(Bool×Unit))))){y:Bool×Unit}(h:F_16 a0=some y):p_16 a0=true/\v_16 a0=y:=pvG h
theorem run_16(x:HDen A_16)(y:HDen R_16)(h:F_16 x.1=some y):rnF sm_16 1 16 A_16 R_16 x y:=runG noO_ok (os:=[O_16_0]) ⟨OK_16_0,trivial⟩ (Eq.trans (by kernel_rfl) h)
end
noncomputable section
abbrev A_62:List Ty:=[(.pair (.int .i64) (.pair (.int .u32) .unit))]
abbrev R_62:List Ty:=[.bool]
noncomputable def sm_62:Nat->Option Summ:=smL []
noncomputable def F_62(a0:(Int×(Int×Unit))):Option (Bool×Unit) :=
 bif decide (a0.1>=0)then some (decide (a0.1<=1099511627776),PUnit.unit)else some (false,PUnit.unit)
noncomputable def Sp.p_62(a0:(Int×(Int×Unit))):Bool:=(F_62 a0).isSome
noncomputable def Sp.v_62(a0:(Int×(Int×Unit))):Bool×Unit:=(F_62 a0).getD (dfH R_62)
noncomputable def s_62:Summ:=shN A_62 R_62 (fun x=>p_62 x.1) (fun x=>v_62 x.1)
theorem pv_62(a0:(Int×(Int×Unit))){y:Bool×Unit}(h:F_62 a0=some y):p_62 a0=true/\v_62 a0=y:=pvG h
theorem run_62(x:HDen A_62)(y:HDen R_62)(h:F_62 x.1=some y):rnF sm_62 1 62 A_62 R_62 x y:=runG noO_ok (os:=[]) trivial (Eq.trans (by kernel_rfl) h)
end
noncomputable section
abbrev A_22:List Ty:=[(.pair (.pair (.slice (.int .u32)) (.pair (.slice (.int .i64)) (.pair (.int .i64) .unit))) (.pair (.int .i64) (.pair (.int .i64) .unit))),(.pair (.slice (.pair (.int .i64) (.pair (.int .i64) (.pair (.int .i64) (.pair (.int .i64) (.pair (.int .i64) (.pair (.int .i64) (.pair .bool (.pair (.int .i64) .unit))))))))) (.pair (.slice (.pair (.int .i64) (.pair (.int .i64) (.pair (.int .i64) (.pair (.int .i64) (.pair (.int .i64) (.pair (.slice (.int .i64)) (.pair (.int .i64) .unit)))))))) (.pair (.int .i64) (.pair .bool .unit)))),(.pair (.int .i64) (.pair (.int .u32) .unit))]
abbrev R_22:List Ty:=[.bool]
noncomputable def sm_22:Nat->Option Summ:=smL [(13,s_13),(16,s_16),(62,s_62)]
noncomputable def F_22(a0:(((List Int)×((List Int)×(Int×Unit)))×(Int×(Int×Unit))))(a1:((List (Int×(Int×(Int×(Int×(Int×(Int×(Bool×(Int×Unit)))))))))×((List (Int×(Int×(Int×(Int×(Int×((List Int)×(Int×Unit))))))))×(Int×(Bool×Unit)))))(a2:(Int×(Int×Unit))):Option (Bool×Unit) :=
 gd (p_13 a0) (bif(v_13 a0).1 then gd (p_16 a1) (bif(v_16 a1).1 then gd (p_62 a2) (some ((v_62 a2).1,PUnit.unit))else some (false,PUnit.unit))else some (false,PUnit.unit))
noncomputable def Sp.p_22(a0:(((List Int)×((List Int)×(Int×Unit)))×(Int×(Int×Unit))))(a1:((List (Int×(Int×(Int×(Int×(Int×(Int×(Bool×(Int×Unit)))))))))×((List (Int×(Int×(Int×(Int×(Int×((List Int)×(Int×Unit))))))))×(Int×(Bool×Unit)))))(a2:(Int×(Int×Unit))):Bool:=(F_22 a0 a1 a2).isSome
noncomputable def Sp.v_22(a0:(((List Int)×((List Int)×(Int×Unit)))×(Int×(Int×Unit))))(a1:((List (Int×(Int×(Int×(Int×(Int×(Int×(Bool×(Int×Unit)))))))))×((List (Int×(Int×(Int×(Int×(Int×((List Int)×(Int×Unit))))))))×(Int×(Bool×Unit)))))(a2:(Int×(Int×Unit))):Bool×Unit:=(F_22 a0 a1 a2).getD (dfH R_22)
noncomputable def s_22:Summ:=shN A_22 R_22 (fun x=>p_22 x.1 x.2.1 x.2.2.1) (fun x=>v_22 x.1 x.2.1 x.2.2.1)
theorem pv_22(a0:(((List Int)×((List Int)×(Int×Unit)))×(Int×(Int×Unit))))(a1:((List (Int×(Int×(Int×(Int×(Int×(Int×(Bool×(Int×Unit)))))))))×((List (Int×(Int×(Int×(Int×(Int×((List Int)×(Int×Unit))))))))×(Int×(Bool×Unit)))))(a2:(Int×(Int×Unit))){y:Bool×Unit}(h:F_22 a0 a1 a2=some y):p_22 a0 a1 a2=true/\v_22 a0 a1 a2=y:=pvG h
theorem run_22(x:HDen A_22)(y:HDen R_22)(h:F_22 x.1 x.2.1 x.2.2.1=some y):rnF sm_22 1 22 A_22 R_22 x y:=runG noO_ok (os:=[]) trivial (Eq.trans (by kernel_rfl) h)
end
noncomputable section
abbrev A_63:List Ty:=[(.slice (.int .u32)),(.slice (.int .u32))]
abbrev R_63:List Ty:=[.bool]
noncomputable def sm_63:Nat->Option Summ:=smL []
noncomputable def T_63_0:PS:=⟨26,[(0,.hv (.slice (.int .u32))),(1,.hv (.slice (.int .u32))),(5,.hv (.int .i64))],[],0⟩
inductive Sp.E_63_0 where
 |e0
 |e1
noncomputable def Sp.B_63_0{R:Type}(r:Option E_63_0)(k0 k1:Option R):Option R:=match r with
 |none=>none
 |some (.e0)=>k0
 |some (.e1)=>k1
noncomputable def Y_63_0{R:Type}(k:Ex->St->Option R):E_63_0->Option R
 | .e0=>k Ex.ret (sx 26 [(4,CV.bool false)] [])
 | .e1=>k (Ex.exit 0) (sx 26 [] [])
noncomputable def Sp.S_63_0{R:Type}(K:List Int->List Int->Int->Option R)(k:E_63_0->Option R)(p0 p1:List Int)(p2:Int):Option R:=
 bif decide (p2<(↑(length p0):Int))then gd (inB p2 (length p0)) (gd (inB p2 (length p1)) (bif getD p0 (toNat p2) 0 !=getD p1 (toNat p2) 0 then k (E_63_0.e0)else K p0 p1 (wrap i64 (p2+1))))else k (E_63_0.e1)
noncomputable def Sp.L_63_0:Nat->List Int->List Int->Int->Option E_63_0
 |0,_,_,_=>none
 |m+1,p0,p1,p2=>S_63_0 (L_63_0 m) some p0 p1 p2
noncomputable def l_63_0(m:Nat)(a:T_63_0.E):Option E_63_0:=L_63_0 m a.1 a.2.1 a.2.2.1
noncomputable def O_63_0{R:Type}:Orc R:=orL T_63_0 (l_63_0 FU) Y_63_0
theorem OK_63_0{R:Type}:okF (R:=R) sm_63 0 (nf 63 0) O_63_0:=lp0 T_63_0 l_63_0 (fun R K k a=>S_63_0 (fun p0 p1 p2=>K (p0,p1,p2,())) k a.1 a.2.1 a.2.2.1) Y_63_0 (fun _ _ _=>by kernel_rfl) (fun _ _ _=>by
 unfold S_63_0
 repeat' first|apply gdN|apply condN|rfl) (ok0 _)
noncomputable def F_63(a0 a1:(List Int)):Option (Bool×Unit) :=
 bif(↑(length a0):Int)!=(↑(length a1):Int)then some (false,PUnit.unit)else B_63_0 (L_63_0 4611686018427387904 a0 a1 0) (some (false,PUnit.unit)) (some (true,PUnit.unit))
noncomputable def Sp.p_63(a0 a1:(List Int)):Bool:=(F_63 a0 a1).isSome
noncomputable def Sp.v_63(a0 a1:(List Int)):Bool×Unit:=(F_63 a0 a1).getD (dfH R_63)
noncomputable def s_63:Summ:=shN A_63 R_63 (fun x=>p_63 x.1 x.2.1) (fun x=>v_63 x.1 x.2.1)
theorem pv_63(a0 a1:(List Int)){y:Bool×Unit}(h:F_63 a0 a1=some y):p_63 a0 a1=true/\v_63 a0 a1=y:=pvG h
theorem run_63(x:HDen A_63)(y:HDen R_63)(h:F_63 x.1 x.2.1=some y):rnF sm_63 1 63 A_63 R_63 x y:=runG noO_ok (os:=[O_63_0]) ⟨OK_63_0,trivial⟩ (Eq.trans (by kernel_rfl) h)
end
noncomputable section
abbrev A_23:List Ty:=[(.pair (.pair (.slice (.int .u32)) (.pair (.slice (.int .i64)) (.pair (.int .i64) .unit))) (.pair (.int .i64) (.pair (.int .i64) .unit))),(.pair (.pair (.slice (.int .u32)) (.pair (.slice (.int .i64)) (.pair (.int .i64) .unit))) (.pair (.int .i64) (.pair (.int .i64) .unit)))]
abbrev R_23:List Ty:=[.bool]
noncomputable def sm_23:Nat->Option Summ:=smL [(63,s_63)]
noncomputable def T_23_0:PS:=⟨66,[(2,.kc (.ptr 0 [])),(3,.kc (.ptr 1 [])),(5,.hv (.int .i64))],[.mem (.hv (.pair (.pair (.slice (.int .u32)) (.pair (.slice (.int .i64)) (.pair (.int .i64) .unit))) (.pair (.int .i64) (.pair (.int .i64) .unit)))),.mem (.hv (.pair (.pair (.slice (.int .u32)) (.pair (.slice (.int .i64)) (.pair (.int .i64) .unit))) (.pair (.int .i64) (.pair (.int .i64) .unit))))],0⟩
inductive Sp.E_23_0 where
 |e0
 |e1 (p1 p2:(List Int×List Int×Int×Unit)×Int×Int×Unit)
noncomputable def Sp.B_23_0{R:Type}(r:Option E_23_0)(k0:Option R)(k1:((List Int×List Int×Int×Unit)×Int×Int×Unit)->((List Int×List Int×Int×Unit)×Int×Int×Unit)->Option R):Option R:=match r with
 |none=>none
 |some (.e0)=>k0
 |some (.e1 p1 p2)=>k1 p1 p2
noncomputable def Y_23_0{R:Type}(k:Ex->St->Option R):E_23_0->Option R
 | .e0=>k Ex.ret (sx 66 [(4,CV.bool false)] [])
 | .e1 p1 p2=>k (Ex.exit 0) (sx 66 [(2,CV.ptr 0 []),(3,CV.ptr 1 [])] [Blk.mem (CV.pure (Ty.pair (Ty.pair (Ty.slice (Ty.int u32)) (Ty.pair (Ty.slice (Ty.int i64)) (Ty.pair (Ty.int i64) Ty.unit))) (Ty.pair (Ty.int i64) (Ty.pair (Ty.int i64) Ty.unit))) p1),Blk.mem (CV.pure (Ty.pair (Ty.pair (Ty.slice (Ty.int u32)) (Ty.pair (Ty.slice (Ty.int i64)) (Ty.pair (Ty.int i64) Ty.unit))) (Ty.pair (Ty.int i64) (Ty.pair (Ty.int i64) Ty.unit))) p2)])
noncomputable def Sp.S_23_0{R:Type}(K:Int->((List Int×List Int×Int×Unit)×Int×Int×Unit)->((List Int×List Int×Int×Unit)×Int×Int×Unit)->Option R)(k:E_23_0->Option R)(p0:Int)(p1 p2:(List Int×List Int×Int×Unit)×Int×Int×Unit):Option R:=
 bif decide (p0<(↑(length (p1.1.2.1)):Int))then gd (inB p0 (length (p1.1.2.1))) (gd (inB p0 (length (p2.1.2.1))) (bif getD (p1.1.2.1) (toNat p0) 0 !=getD (p2.1.2.1) (toNat p0) 0 then k (E_23_0.e0)else K (wrap i64 (p0+1)) p1 p2))else k (E_23_0.e1 p1 p2)
noncomputable def Sp.L_23_0:Nat->Int->((List Int×List Int×Int×Unit)×Int×Int×Unit)->((List Int×List Int×Int×Unit)×Int×Int×Unit)->Option E_23_0
 |0,_,_,_=>none
 |m+1,p0,p1,p2=>S_23_0 (L_23_0 m) some p0 p1 p2
noncomputable def l_23_0(m:Nat)(a:T_23_0.E):Option E_23_0:=L_23_0 m a.1 a.2.1 a.2.2.1
noncomputable def O_23_0{R:Type}:Orc R:=orL T_23_0 (l_23_0 FU) Y_23_0
theorem OK_23_0{R:Type}:okF (R:=R) sm_23 0 (nf 23 0) O_23_0:=lp0 T_23_0 l_23_0 (fun R K k a=>S_23_0 (fun p0 p1 p2=>K (p0,p1,p2,())) k a.1 a.2.1 a.2.2.1) Y_23_0 (fun _ _ _=>by kernel_rfl) (fun _ _ _=>by
 unfold S_23_0
 repeat' first|apply gdN|apply condN|rfl) (ok0 _)
noncomputable def F_23(a0:(((List Int)×((List Int)×(Int×Unit)))×(Int×(Int×Unit))))(a1:(((List Int)×((List Int)×(Int×Unit)))×(Int×(Int×Unit)))):Option (Bool×Unit) :=
 bif a0.2.1 !=a1.2.1 then some (false,PUnit.unit)else bif a0.2.2.1 !=a1.2.2.1 then some (false,PUnit.unit)else bif a0.1.2.2.1 !=a1.1.2.2.1 then some (false,PUnit.unit)else bif(↑(length (a0.1.2.1)):Int)!=(↑(length (a1.1.2.1)):Int)then some (false,PUnit.unit)else B_23_0 (L_23_0 4611686018427387904 0 a0 a1) (some (false,PUnit.unit)) fun y2 y3=>gd (p_63 (y2.1.1) (y3.1.1)) (some ((v_63 (y2.1.1) (y3.1.1)).1,PUnit.unit))
noncomputable def Sp.p_23(a0:(((List Int)×((List Int)×(Int×Unit)))×(Int×(Int×Unit))))(a1:(((List Int)×((List Int)×(Int×Unit)))×(Int×(Int×Unit)))):Bool:=(F_23 a0 a1).isSome
noncomputable def Sp.v_23(a0:(((List Int)×((List Int)×(Int×Unit)))×(Int×(Int×Unit))))(a1:(((List Int)×((List Int)×(Int×Unit)))×(Int×(Int×Unit)))):Bool×Unit:=(F_23 a0 a1).getD (dfH R_23)
noncomputable def s_23:Summ:=shN A_23 R_23 (fun x=>p_23 x.1 x.2.1) (fun x=>v_23 x.1 x.2.1)
theorem pv_23(a0:(((List Int)×((List Int)×(Int×Unit)))×(Int×(Int×Unit))))(a1:(((List Int)×((List Int)×(Int×Unit)))×(Int×(Int×Unit)))){y:Bool×Unit}(h:F_23 a0 a1=some y):p_23 a0 a1=true/\v_23 a0 a1=y:=pvG h
theorem run_23(x:HDen A_23)(y:HDen R_23)(h:F_23 x.1 x.2.1=some y):rnF sm_23 1 23 A_23 R_23 x y:=runG noO_ok (os:=[O_23_0]) ⟨OK_23_0,trivial⟩ (Eq.trans (by kernel_rfl) h)
end
noncomputable section
abbrev A_25:List Ty:=[]
abbrev R_25:List Ty:=[(.pair (.int .i64) (.pair (.int .u32) .unit))]
noncomputable def sm_25:Nat->Option Summ:=smL []
noncomputable def F_25:Option ((Int×(Int×Unit))×Unit) :=
 some ((1099511627776,0,PUnit.unit),PUnit.unit)
noncomputable def Sp.p_25:Bool:=(F_25).isSome
noncomputable def Sp.v_25:(Int×(Int×Unit))×Unit:=(F_25).getD (dfH R_25)
noncomputable def s_25:Summ:=shN A_25 R_25 (fun x=>p_25) (fun x=>v_25)
theorem pv_25{y:(Int×(Int×Unit))×Unit}(h:F_25=some y):p_25=true/\v_25=y:=pvG h
theorem run_25(x:HDen A_25)(y:HDen R_25)(h:F_25=some y):rnF sm_25 1 25 A_25 R_25 x y:=runG noO_ok (os:=[]) trivial (Eq.trans (by kernel_rfl) h)
end
noncomputable section
abbrev A_56:List Ty:=[(.slice (.int .i64)),(.slice (.int .i64))]
abbrev R_56:List Ty:=[.bool]
noncomputable def sm_56:Nat->Option Summ:=smL []
noncomputable def T_56_0:PS:=⟨26,[(0,.hv (.slice (.int .i64))),(1,.hv (.slice (.int .i64))),(5,.hv (.int .i64))],[],0⟩
inductive Sp.E_56_0 where
 |e0
 |e1
noncomputable def Sp.B_56_0{R:Type}(r:Option E_56_0)(k0 k1:Option R):Option R:=match r with
 |none=>none
 |some (.e0)=>k0
 |some (.e1)=>k1
noncomputable def Y_56_0{R:Type}(k:Ex->St->Option R):E_56_0->Option R
 | .e0=>k Ex.ret (sx 26 [(4,CV.bool false)] [])
 | .e1=>k (Ex.exit 0) (sx 26 [] [])
noncomputable def Sp.S_56_0{R:Type}(K:List Int->List Int->Int->Option R)(k:E_56_0->Option R)(p0 p1:List Int)(p2:Int):Option R:=
 bif decide (p2<(↑(length p0):Int))then gd (inB p2 (length p0)) (gd (inB p2 (length p1)) (bif getD p0 (toNat p2) 0 !=getD p1 (toNat p2) 0 then k (E_56_0.e0)else K p0 p1 (wrap i64 (p2+1))))else k (E_56_0.e1)
noncomputable def Sp.L_56_0:Nat->List Int->List Int->Int->Option E_56_0
 |0,_,_,_=>none
 |m+1,p0,p1,p2=>S_56_0 (L_56_0 m) some p0 p1 p2
noncomputable def l_56_0(m:Nat)(a:T_56_0.E):Option E_56_0:=L_56_0 m a.1 a.2.1 a.2.2.1
noncomputable def O_56_0{R:Type}:Orc R:=orL T_56_0 (l_56_0 FU) Y_56_0
theorem OK_56_0{R:Type}:okF (R:=R) sm_56 0 (nf 56 0) O_56_0:=lp0 T_56_0 l_56_0 (fun R K k a=>S_56_0 (fun p0 p1 p2=>K (p0,p1,p2,())) k a.1 a.2.1 a.2.2.1) Y_56_0 (fun _ _ _=>by kernel_rfl) (fun _ _ _=>by
 unfold S_56_0
 repeat' first|apply gdN|apply condN|rfl) (ok0 _)
noncomputable def F_56(a0 a1:(List Int)):Option (Bool×Unit) :=
 bif(↑(length a0):Int)!=(↑(length a1):Int)then some (false,PUnit.unit)else B_56_0 (L_56_0 4611686018427387904 a0 a1 0) (some (false,PUnit.unit)) (some (true,PUnit.unit))
noncomputable def Sp.p_56(a0 a1:(List Int)):Bool:=(F_56 a0 a1).isSome
noncomputable def Sp.v_56(a0 a1:(List Int)):Bool×Unit:=(F_56 a0 a1).getD (dfH R_56)
noncomputable def s_56:Summ:=shN A_56 R_56 (fun x=>p_56 x.1 x.2.1) (fun x=>v_56 x.1 x.2.1)
theorem pv_56(a0 a1:(List Int)){y:Bool×Unit}(h:F_56 a0 a1=some y):p_56 a0 a1=true/\v_56 a0 a1=y:=pvG h
theorem run_56(x:HDen A_56)(y:HDen R_56)(h:F_56 x.1 x.2.1=some y):rnF sm_56 1 56 A_56 R_56 x y:=runG noO_ok (os:=[O_56_0]) ⟨OK_56_0,trivial⟩ (Eq.trans (by kernel_rfl) h)
end
noncomputable section
abbrev A_18:List Ty:=[(.pair (.int .i64) (.pair (.int .i64) (.pair (.int .i64) (.pair (.int .i64) (.pair (.int .i64) (.pair (.slice (.int .i64)) (.pair (.int .i64) .unit))))))),(.pair (.int .i64) (.pair (.int .i64) (.pair (.int .i64) (.pair (.int .i64) (.pair (.int .i64) (.pair (.slice (.int .i64)) (.pair (.int .i64) .unit)))))))]
abbrev R_18:List Ty:=[.bool]
noncomputable def sm_18:Nat->Option Summ:=smL [(56,s_56)]
noncomputable def F_18(a0:(Int×(Int×(Int×(Int×(Int×((List Int)×(Int×Unit))))))))(a1:(Int×(Int×(Int×(Int×(Int×((List Int)×(Int×Unit)))))))):Option (Bool×Unit) :=
 bif a0.1==a1.1 then bif a0.2.1==a1.2.1 then bif a0.2.2.1==a1.2.2.1 then bif a0.2.2.2.1==a1.2.2.2.1 then bif a0.2.2.2.2.1==a1.2.2.2.2.1 then bif a0.2.2.2.2.2.2.1==a1.2.2.2.2.2.2.1 then gd (p_56 (a0.2.2.2.2.2.1) (a1.2.2.2.2.2.1)) (some ((v_56 (a0.2.2.2.2.2.1) (a1.2.2.2.2.2.1)).1,PUnit.unit))else some (false,PUnit.unit)else some (false,PUnit.unit)else some (false,PUnit.unit)else some (false,PUnit.unit)else some (false,PUnit.unit)else some (false,PUnit.unit)
noncomputable def Sp.p_18(a0:(Int×(Int×(Int×(Int×(Int×((List Int)×(Int×Unit))))))))(a1:(Int×(Int×(Int×(Int×(Int×((List Int)×(Int×Unit)))))))):Bool:=(F_18 a0 a1).isSome
noncomputable def Sp.v_18(a0:(Int×(Int×(Int×(Int×(Int×((List Int)×(Int×Unit))))))))(a1:(Int×(Int×(Int×(Int×(Int×((List Int)×(Int×Unit)))))))):Bool×Unit:=(F_18 a0 a1).getD (dfH R_18)
noncomputable def s_18:Summ:=shN A_18 R_18 (fun x=>p_18 x.1 x.2.1) (fun x=>v_18 x.1 x.2.1)
theorem pv_18(a0:(Int×(Int×(Int×(Int×(Int×((List Int)×(Int×Unit))))))))(a1:(Int×(Int×(Int×(Int×(Int×((List Int)×(Int×Unit)))))))){y:Bool×Unit}(h:F_18 a0 a1=some y):p_18 a0 a1=true/\v_18 a0 a1=y:=pvG h
theorem run_18(x:HDen A_18)(y:HDen R_18)(h:F_18 x.1 x.2.1=some y):rnF sm_18 1 18 A_18 R_18 x y:=runG noO_ok (os:=[]) trivial (Eq.trans (by kernel_rfl) h)
end
noncomputable section
abbrev A_53:List Ty:=[(.pair (.int .i64) (.pair (.int .i64) (.pair (.int .i64) (.pair (.int .i64) (.pair (.int .i64) (.pair (.slice (.int .i64)) (.pair (.int .i64) .unit)))))))]
abbrev R_53:List Ty:=[.bool]
noncomputable def sm_53:Nat->Option Summ:=smL []
noncomputable def F_53(a0:(Int×(Int×(Int×(Int×(Int×((List Int)×(Int×Unit)))))))):Option (Bool×Unit) :=
 some (Sp.andI i64 (a0.1) (6:Int)!=(0:Int),PUnit.unit)
noncomputable def Sp.p_53(a0:(Int×(Int×(Int×(Int×(Int×((List Int)×(Int×Unit)))))))):Bool:=(F_53 a0).isSome
noncomputable def Sp.v_53(a0:(Int×(Int×(Int×(Int×(Int×((List Int)×(Int×Unit)))))))):Bool×Unit:=(F_53 a0).getD (dfH R_53)
noncomputable def s_53:Summ:=shN A_53 R_53 (fun x=>p_53 x.1) (fun x=>v_53 x.1)
theorem pv_53(a0:(Int×(Int×(Int×(Int×(Int×((List Int)×(Int×Unit)))))))){y:Bool×Unit}(h:F_53 a0=some y):p_53 a0=true/\v_53 a0=y:=pvG h
theorem run_53(x:HDen A_53)(y:HDen R_53)(h:F_53 x.1=some y):rnF sm_53 1 53 A_53 R_53 x y:=runG noO_ok (os:=[]) trivial (Eq.trans (by kernel_rfl) h)
end
noncomputable section
abbrev A_19:List Ty:=[(.pair (.int .i64) (.pair (.int .i64) (.pair (.int .i64) (.pair (.int .i64) (.pair (.int .i64) (.pair (.slice (.int .i64)) (.pair (.int .i64) .unit)))))))]
abbrev R_19:List Ty:=[(.pair (.int .i64) (.pair (.int .i64) (.pair (.int .i64) (.pair (.int .i64) (.pair (.int .i64) (.pair (.slice (.int .i64)) (.pair (.int .i64) .unit)))))))]
noncomputable def sm_19:Nat->Option Summ:=smL [(53,s_53)]
noncomputable def F_19(a0:(Int×(Int×(Int×(Int×(Int×((List Int)×(Int×Unit)))))))):Option ((Int×(Int×(Int×(Int×(Int×((List Int)×(Int×Unit)))))))×Unit) :=
 gd (p_53 a0) (bif !(v_53 a0).1 then some ((0,0,0,0,0,[],0,PUnit.unit),PUnit.unit)else some ((Sp.andI i64 (a0.1) 22,0,a0.2.2),PUnit.unit))
noncomputable def Sp.p_19(a0:(Int×(Int×(Int×(Int×(Int×((List Int)×(Int×Unit)))))))):Bool:=(F_19 a0).isSome
noncomputable def Sp.v_19(a0:(Int×(Int×(Int×(Int×(Int×((List Int)×(Int×Unit)))))))):(Int×(Int×(Int×(Int×(Int×((List Int)×(Int×Unit)))))))×Unit:=(F_19 a0).getD (dfH R_19)
noncomputable def s_19:Summ:=shS A_19 R_19 (fun x=>p_19 x.1) (fun x=>v_19 x.1)
theorem pv_19(a0:(Int×(Int×(Int×(Int×(Int×((List Int)×(Int×Unit)))))))){y:(Int×(Int×(Int×(Int×(Int×((List Int)×(Int×Unit)))))))×Unit}(h:F_19 a0=some y):p_19 a0=true/\v_19 a0=y:=pvG h
theorem run_19(x:HDen A_19)(y:HDen R_19)(h:F_19 x.1=some y):rnF sm_19 1 19 A_19 R_19 x y:=runG noO_ok (os:=[]) trivial (Eq.trans (by kernel_rfl) h)
end
noncomputable section
abbrev Zy26_0:Ty:=(.pair (.slice (.pair (.int .i64) (.pair (.int .i64) (.pair (.int .i64) (.pair (.int .i64) (.pair (.int .i64) (.pair (.int .i64) (.pair .bool (.pair (.int .i64) .unit))))))))) (.pair (.slice (.pair (.int .i64) (.pair (.int .i64) (.pair (.int .i64) (.pair (.int .i64) (.pair (.int .i64) (.pair (.slice (.int .i64)) (.pair (.int .i64) .unit)))))))) (.pair (.int .i64) (.pair .bool .unit))))
abbrev A_26:List Ty:=[(.pair (.slice (.pair (.int .i64) (.pair (.int .i64) (.pair (.int .i64) (.pair (.int .i64) (.pair (.int .i64) (.pair (.int .i64) (.pair .bool (.pair (.int .i64) .unit))))))))) (.pair (.slice (.pair (.int .i64) (.pair (.int .i64) (.pair (.int .i64) (.pair (.int .i64) (.pair (.int .i64) (.pair (.slice (.int .i64)) (.pair (.int .i64) .unit)))))))) (.pair (.int .i64) (.pair .bool .unit)))),(.pair (.slice (.pair (.int .i64) (.pair (.int .i64) (.pair (.int .i64) (.pair (.int .i64) (.pair (.int .i64) (.pair (.int .i64) (.pair .bool (.pair (.int .i64) .unit))))))))) (.pair (.slice (.pair (.int .i64) (.pair (.int .i64) (.pair (.int .i64) (.pair (.int .i64) (.pair (.int .i64) (.pair (.slice (.int .i64)) (.pair (.int .i64) .unit)))))))) (.pair (.int .i64) (.pair .bool .unit))))]
abbrev R_26:List Ty:=[.bool]
noncomputable def sm_26:Nat->Option Summ:=smL [(18,s_18),(19,s_19)]
noncomputable def T_26_0:PS:=⟨44,[(2,.kc (.ptr 0 [])),(3,.kc (.ptr 1 [])),(26,.hv (.int .i64)),(27,.hv (.int .i64))],[.mem (.hv Zy26_0),.mem (.hv Zy26_0)],0⟩
inductive Sp.E_26_0 where
 |e0
 |e1
noncomputable def Sp.B_26_0{R:Type}(r:Option E_26_0)(k0 k1:Option R):Option R:=match r with
 |none=>none
 |some (.e0)=>k0
 |some (.e1)=>k1
noncomputable def Y_26_0{R:Type}(k:Ex->St->Option R):E_26_0->Option R
 | .e0=>k Ex.ret (sx 44 [(4,CV.bool false)] [])
 | .e1=>k (Ex.exit 0) (sx 44 [] [])
noncomputable def Sp.S_26_0{R:Type}(K:Int->Int->(List (Int×Int×Int×Int×Int×Int×Bool×Int×Unit)×List (Int×Int×Int×Int×Int×List Int×Int×Unit)×Int×Bool×Unit)->(List (Int×Int×Int×Int×Int×Int×Bool×Int×Unit)×List (Int×Int×Int×Int×Int×List Int×Int×Unit)×Int×Bool×Unit)->Option R)(k:E_26_0->Option R)(p0 p1:Int)(p2 p3:List (Int×Int×Int×Int×Int×Int×Bool×Int×Unit)×List (Int×Int×Int×Int×Int×List Int×Int×Unit)×Int×Bool×Unit):Option R:=
 bif decide (p1<p0)then gd (inB p1 (length (p2.2.1))) (gd (inB p1 (length (p3.2.1))) (gd (p_19 (getD (p3.2.1) (toNat p1) Zd0)) (gd (p_18 (getD (p2.2.1) (toNat p1) Zd0) ((v_19 (getD (p3.2.1) (toNat p1) Zd0)).1)) (bif !(v_18 (getD (p2.2.1) (toNat p1) Zd0) ((v_19 (getD (p3.2.1) (toNat p1) Zd0)).1)).1 then k (E_26_0.e0)else K p0 (wrap i64 (p1+1)) p2 p3))))else k (E_26_0.e1)
noncomputable def Sp.L_26_0:Nat->Int->Int->(List (Int×Int×Int×Int×Int×Int×Bool×Int×Unit)×List (Int×Int×Int×Int×Int×List Int×Int×Unit)×Int×Bool×Unit)->(List (Int×Int×Int×Int×Int×Int×Bool×Int×Unit)×List (Int×Int×Int×Int×Int×List Int×Int×Unit)×Int×Bool×Unit)->Option E_26_0
 |0,_,_,_,_=>none
 |m+1,p0,p1,p2,p3=>S_26_0 (L_26_0 m) some p0 p1 p2 p3
noncomputable def l_26_0(m:Nat)(a:T_26_0.E):Option E_26_0:=L_26_0 m a.1 a.2.1 a.2.2.1 a.2.2.2.1
noncomputable def O_26_0{R:Type}:Orc R:=orL T_26_0 (l_26_0 FU) Y_26_0
theorem OK_26_0{R:Type}:okF (R:=R) sm_26 0 (nf 26 0) O_26_0:=lp0 T_26_0 l_26_0 (fun R K k a=>S_26_0 (fun p0 p1 p2 p3=>K (p0,p1,p2,p3,())) k a.1 a.2.1 a.2.2.1 a.2.2.2.1) Y_26_0 (fun _ _ _=>by kernel_rfl) (fun _ _ _=>by
 unfold S_26_0
 repeat' first|apply gdN|apply condN|rfl) (ok0 _)
noncomputable def F_26(a0:((List (Int×(Int×(Int×(Int×(Int×(Int×(Bool×(Int×Unit)))))))))×((List (Int×(Int×(Int×(Int×(Int×((List Int)×(Int×Unit))))))))×(Int×(Bool×Unit)))))(a1:((List (Int×(Int×(Int×(Int×(Int×(Int×(Bool×(Int×Unit)))))))))×((List (Int×(Int×(Int×(Int×(Int×((List Int)×(Int×Unit))))))))×(Int×(Bool×Unit))))):Option (Bool×Unit) :=
 bif a0.2.2.1 !=a1.2.2.1 then some (false,PUnit.unit)else bif a0.2.2.2.1 then some (false,PUnit.unit)else bif(↑(length (a0.2.1)):Int)!=(↑(length (a1.2.1)):Int)then some (false,PUnit.unit)else B_26_0 (L_26_0 4611686018427387904 (↑(length (a0.2.1)):Int) 0 a0 a1) (some (false,PUnit.unit)) (some (true,PUnit.unit))
noncomputable def Sp.p_26(a0:((List (Int×(Int×(Int×(Int×(Int×(Int×(Bool×(Int×Unit)))))))))×((List (Int×(Int×(Int×(Int×(Int×((List Int)×(Int×Unit))))))))×(Int×(Bool×Unit)))))(a1:((List (Int×(Int×(Int×(Int×(Int×(Int×(Bool×(Int×Unit)))))))))×((List (Int×(Int×(Int×(Int×(Int×((List Int)×(Int×Unit))))))))×(Int×(Bool×Unit))))):Bool:=(F_26 a0 a1).isSome
noncomputable def Sp.v_26(a0:((List (Int×(Int×(Int×(Int×(Int×(Int×(Bool×(Int×Unit)))))))))×((List (Int×(Int×(Int×(Int×(Int×((List Int)×(Int×Unit))))))))×(Int×(Bool×Unit)))))(a1:((List (Int×(Int×(Int×(Int×(Int×(Int×(Bool×(Int×Unit)))))))))×((List (Int×(Int×(Int×(Int×(Int×((List Int)×(Int×Unit))))))))×(Int×(Bool×Unit))))):Bool×Unit:=(F_26 a0 a1).getD (dfH R_26)
noncomputable def s_26:Summ:=shN A_26 R_26 (fun x=>p_26 x.1 x.2.1) (fun x=>v_26 x.1 x.2.1)
theorem pv_26(a0:((List (Int×(Int×(Int×(Int×(Int×(Int×(Bool×(Int×Unit)))))))))×((List (Int×(Int×(Int×(Int×(Int×((List Int)×(Int×Unit))))))))×(Int×(Bool×Unit)))))(a1:((List (Int×(Int×(Int×(Int×(Int×(Int×(Bool×(Int×Unit)))))))))×((List (Int×(Int×(Int×(Int×(Int×((List Int)×(Int×Unit))))))))×(Int×(Bool×Unit))))){y:Bool×Unit}(h:F_26 a0 a1=some y):p_26 a0 a1=true/\v_26 a0 a1=y:=pvG h
theorem run_26(x:HDen A_26)(y:HDen R_26)(h:F_26 x.1 x.2.1=some y):rnF sm_26 1 26 A_26 R_26 x y:=runG noO_ok (os:=[O_26_0]) ⟨OK_26_0,trivial⟩ (Eq.trans (by kernel_rfl) h)
end
noncomputable section
abbrev A_33:List Ty:=[(.slice (.pair (.int .i64) (.pair (.slice (.int .u32)) .unit))),(.slice (.pair (.int .i64) (.pair (.slice (.int .u32)) .unit)))]
abbrev R_33:List Ty:=[.bool]
noncomputable def sm_33:Nat->Option Summ:=smL [(63,s_63)]
noncomputable def T_33_0:PS:=⟨42,[(0,.hv (.slice (.pair (.int .i64) (.pair (.slice (.int .u32)) .unit)))),(1,.hv (.slice (.pair (.int .i64) (.pair (.slice (.int .u32)) .unit)))),(5,.hv (.int .i64))],[],0⟩
inductive Sp.E_33_0 where
 |e0
 |e1
noncomputable def Sp.B_33_0{R:Type}(r:Option E_33_0)(k0 k1:Option R):Option R:=match r with
 |none=>none
 |some (.e0)=>k0
 |some (.e1)=>k1
noncomputable def Y_33_0{R:Type}(k:Ex->St->Option R):E_33_0->Option R
 | .e0=>k Ex.ret (sx 42 [(4,CV.bool false)] [])
 | .e1=>k (Ex.exit 0) (sx 42 [] [])
noncomputable def Sp.S_33_0{R:Type}(K:(List (Int×List Int×Unit))->(List (Int×List Int×Unit))->Int->Option R)(k:E_33_0->Option R)(p0 p1:List (Int×List Int×Unit))(p2:Int):Option R:=
 bif decide (p2<(↑(length p0):Int))then gd (inB p2 (length p0)) (gd (inB p2 (length p1)) (bif(getD p0 (toNat p2) Zd2).1 !=(getD p1 (toNat p2) Zd2).1 then k (E_33_0.e0)else gd (inB p2 (length p0)) (gd (inB p2 (length p1)) (gd (p_63 ((getD p0 (toNat p2) Zd2).2.1) ((getD p1 (toNat p2) Zd2).2.1)) (bif !(v_63 ((getD p0 (toNat p2) Zd2).2.1) ((getD p1 (toNat p2) Zd2).2.1)).1 then k (E_33_0.e0)else K p0 p1 (wrap i64 (p2+1)))))))else k (E_33_0.e1)
noncomputable def Sp.L_33_0:Nat->(List (Int×List Int×Unit))->(List (Int×List Int×Unit))->Int->Option E_33_0
 |0,_,_,_=>none
 |m+1,p0,p1,p2=>S_33_0 (L_33_0 m) some p0 p1 p2
noncomputable def l_33_0(m:Nat)(a:T_33_0.E):Option E_33_0:=L_33_0 m a.1 a.2.1 a.2.2.1
noncomputable def O_33_0{R:Type}:Orc R:=orL T_33_0 (l_33_0 FU) Y_33_0
theorem OK_33_0{R:Type}:okF (R:=R) sm_33 0 (nf 33 0) O_33_0:=lp0 T_33_0 l_33_0 (fun R K k a=>S_33_0 (fun p0 p1 p2=>K (p0,p1,p2,())) k a.1 a.2.1 a.2.2.1) Y_33_0 (fun _ _ _=>by kernel_rfl) (fun _ _ _=>by
 unfold S_33_0
 repeat' first|apply gdN|apply condN|rfl) (ok0 _)
noncomputable def F_33(a0:(List (Int×((List Int)×Unit))))(a1:(List (Int×((List Int)×Unit)))):Option (Bool×Unit) :=
 bif(↑(length a0):Int)!=(↑(length a1):Int)then some (false,PUnit.unit)else B_33_0 (L_33_0 4611686018427387904 a0 a1 0) (some (false,PUnit.unit)) (some (true,PUnit.unit))
noncomputable def Sp.p_33(a0:(List (Int×((List Int)×Unit))))(a1:(List (Int×((List Int)×Unit)))):Bool:=(F_33 a0 a1).isSome
noncomputable def Sp.v_33(a0:(List (Int×((List Int)×Unit))))(a1:(List (Int×((List Int)×Unit)))):Bool×Unit:=(F_33 a0 a1).getD (dfH R_33)
noncomputable def s_33:Summ:=shN A_33 R_33 (fun x=>p_33 x.1 x.2.1) (fun x=>v_33 x.1 x.2.1)
theorem pv_33(a0:(List (Int×((List Int)×Unit))))(a1:(List (Int×((List Int)×Unit)))){y:Bool×Unit}(h:F_33 a0 a1=some y):p_33 a0 a1=true/\v_33 a0 a1=y:=pvG h
theorem run_33(x:HDen A_33)(y:HDen R_33)(h:F_33 x.1 x.2.1=some y):rnF sm_33 1 33 A_33 R_33 x y:=runG noO_ok (os:=[O_33_0]) ⟨OK_33_0,trivial⟩ (Eq.trans (by kernel_rfl) h)
end
end Go.Ev
