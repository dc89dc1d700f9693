/- Helpers: functions of the program as Lean functions, and what they compute. No condition. -/
import Derived.Test.YtnmiibgmjfiknaaG3P1
import Derived.Test.YtnmiibgmjfiknaaProg
import Derived.Test.YtnmiibgmjfiknaaE3P2
import Derived.Test.YtnmiibgmjfiknaaG3P0
set_option maxRecDepth 10000
set_option linter.unusedVariables false
set_option linter.unusedSimpArgs false
open Go.IntKind (wrap i64 i32 i16 i8 u64 u32 u16 u8)
open List (getD length take drop replicate)
open Int (toNat)
open Go.Ev.Sp
namespace Go.Ev
open Go
set_option maxRecDepth 100000
set_option maxHeartbeats 4000000
set_option linter.unusedVariables false
noncomputable section
abbrev A_29 : List Ty := [(.slice (.int .u32))]
abbrev R_29 : List Ty := [(.pair (.int .i64) (.pair (.int .i64) (.pair (.int .i64) (.pair (.int .i64) (.pair (.int .i64) (.pair (.slice (.int .i64)) (.pair (.int .i64) .unit))))))), (.int .i64)]
noncomputable def sm_29 : Nat → Option Summ := smL [(12, s_12)]
noncomputable def T_29_0 : PS := ⟨100, [(0, .hv (.slice (.int .u32))), (2, .kc (.ptr 0 [])), (5, .kc (.ptr 2 [])), (6, .hv (.int .i64))], [.mem (.pr (.hv (.int .i64)) (.pr (.hv (.int .i64)) (.pr (.hv (.int .i64)) (.pr (.hv (.int .i64)) (.pr (.hv (.int .i64)) (.pr (.kc (.whole 1)) (.hv (.pair (.int .i64) .unit)))))))), .vec 3 (.int .i64), .mem (.pr (.hv (.int .i64)) (.pr (.hv (.int .i64)) (.pr (.hv (.int .i64)) (.pr (.hv (.int .i64)) (.pr (.hv (.int .i64)) (.pr (.kc (.whole 3)) (.hv (.pair (.int .i64) .unit)))))))), .vec 3 (.int .i64)], 0⟩
inductive Sp.E_29_0 where
 | e0
 | e1 (p2 p3 p4 p5 p6 : Int) (p7 : Int × Unit) (p8 : List Int) (p9 p10 p11 p12 p13 : Int) (p14 : Int × Unit) (p15 : List Int)
noncomputable def Sp.B_29_0 {R : Type} (r : Option E_29_0) (k0 : Option R) (k1 : Int → Int → Int → Int → Int → (Int × Unit) → List Int → Int → Int → Int → Int → Int → (Int × Unit) → List Int → Option R) : Option R := match r with
 | none => none
 | some (.e0) => k0
 | some (.e1 p2 p3 p4 p5 p6 p7 p8 p9 p10 p11 p12 p13 p14 p15) => k1 p2 p3 p4 p5 p6 p7 p8 p9 p10 p11 p12 p13 p14 p15
noncomputable def Y_29_0 {R : Type} (k : Ex → St → Option R) : E_29_0 → Option R
 | .e0 => k Ex.ret (sx 100 [(2, CV.ptr 0 []), (3, CV.int i64 3)] [Blk.mem (CV.pair (CV.int i64 0) (CV.pair (CV.int i64 0) (CV.pair (CV.int i64 0) (CV.pair (CV.int i64 0) (CV.pair (CV.int i64 0) (CV.pair (CV.whole 1) (CV.pure (Ty.pair (Ty.int i64) Ty.unit) ((0, PUnit.unit) : (Int × Unit))))))))), Blk.vec 3 (Ty.int i64) []])
 | .e1 p2 p3 p4 p5 p6 p7 p8 p9 p10 p11 p12 p13 p14 p15 => k (Ex.exit 0) (sx 100 [(2, CV.ptr 0 []), (5, CV.ptr 2 [])] [Blk.mem (CV.pair (CV.int i64 p2) (CV.pair (CV.int i64 p3) (CV.pair (CV.int i64 p4) (CV.pair (CV.int i64 p5) (CV.pair (CV.int i64 p6) (CV.pair (CV.whole 1) (CV.pure (Ty.pair (Ty.int i64) Ty.unit) p7))))))), Blk.vec 3 (Ty.int i64) p8, Blk.mem (CV.pair (CV.int i64 p9) (CV.pair (CV.int i64 p10) (CV.pair (CV.int i64 p11) (CV.pair (CV.int i64 p12) (CV.pair (CV.int i64 p13) (CV.pair (CV.whole 3) (CV.pure (Ty.pair (Ty.int i64) Ty.unit) p14))))))), Blk.vec 3 (Ty.int i64) p15])
noncomputable def Sp.S_29_0 {R : Type} (K : List Int → Int → Int → Int → Int → Int → Int → (Int × Unit) → List Int → Int → Int → Int → Int → Int → (Int × Unit) → List Int → Option R) (k : E_29_0 → Option R) (p0 : List Int) (p1 p2 p3 p4 p5 p6 : Int) (p7 : Int × Unit) (p8 : List Int) (p9 p10 p11 p12 p13 : Int) (p14 : Int × Unit) (p15 : List Int) : Option R :=
 bif decide (p1 < (↑(length p0) : Int)) then gd (inB p1 (length p0)) (bif decide (getD p0 (toNat p1) (0 :Int) > (512 :Int)) then k (E_29_0.e0) else gd (inB p1 (length p0)) (gd (inB (wrap i64 (p1 + 1)) (length p0)) (gd (room (length p15 + 1) 8) (K p0 (wrap i64 (p1 + 2)) p2 p3 p4 p5 p6 p7 p8 p9 p10 p11 p12 p13 p14 (p15 ++ [wrap i64 (wrap i64 (wrap i64 (wrap i64 (getD p0 (toNat p1) 0) * 4294967296) + wrap i64 (getD p0 (toNat (wrap i64 (p1 + 1))) 0)) - 1099511627776)]))))) else k (E_29_0.e1 p2 p3 p4 p5 p6 p7 p8 p9 p10 p11 p12 p13 p14 p15)
noncomputable def Sp.L_29_0 : Nat → List Int → Int → Int → Int → Int → Int → Int → (Int × Unit) → List Int → Int → Int → Int → Int → Int → (Int × Unit) → List Int → Option E_29_0
 | 0, _, _, _, _, _, _, _, _, _, _, _, _, _, _, _, _ => none
 | m + 1, p0, p1, p2, p3, p4, p5, p6, p7, p8, p9, p10, p11, p12, p13, p14, p15 => S_29_0 (L_29_0 m) some p0 p1 p2 p3 p4 p5 p6 p7 p8 p9 p10 p11 p12 p13 p14 p15
noncomputable def l_29_0 (m : Nat) (a : T_29_0.E) : Option E_29_0 := L_29_0 m a.1 a.2.1 a.2.2.1 a.2.2.2.1 a.2.2.2.2.1 a.2.2.2.2.2.1 a.2.2.2.2.2.2.1 a.2.2.2.2.2.2.2.1 a.2.2.2.2.2.2.2.2.1 a.2.2.2.2.2.2.2.2.2.1 a.2.2.2.2.2.2.2.2.2.2.1 a.2.2.2.2.2.2.2.2.2.2.2.1 a.2.2.2.2.2.2.2.2.2.2.2.2.1 a.2.2.2.2.2.2.2.2.2.2.2.2.2.1 a.2.2.2.2.2.2.2.2.2.2.2.2.2.2.1 a.2.2.2.2.2.2.2.2.2.2.2.2.2.2.2.1
noncomputable def O_29_0 {R : Type} : Orc R := orL T_29_0 (l_29_0 FU) Y_29_0
theorem OK_29_0 {R : Type} : okF (R := R) sm_29 0 (nf 29 0) O_29_0 := lp0 T_29_0 l_29_0 (fun R K k a => S_29_0 (fun p0 p1 p2 p3 p4 p5 p6 p7 p8 p9 p10 p11 p12 p13 p14 p15 => K (p0, p1, p2, p3, p4, p5, p6, p7, p8, p9, p10, p11, p12, p13, p14, p15, ())) k a.1 a.2.1 a.2.2.1 a.2.2.2.1 a.2.2.2.2.1 a.2.2.2.2.2.1 a.2.2.2.2.2.2.1 a.2.2.2.2.2.2.2.1 a.2.2.2.2.2.2.2.2.1 a.2.2.2.2.2.2.2.2.2.1 a.2.2.2.2.2.2.2.2.2.2.1 a.2.2.2.2.2.2.2.2.2.2.2.1 a.2.2.2.2.2.2.2.2.2.2.2.2.1 a.2.2.2.2.2.2.2.2.2.2.2.2.2.1 a.2.2.2.2.2.2.2.2.2.2.2.2.2.2.1 a.2.2.2.2.2.2.2.2.2.2.2.2.2.2.2.1) Y_29_0 (fun _ _ _ => by kernel_rfl) (fun _ _ _ => by
 unfold S_29_0
 repeat' first | apply gdN | apply condN | rfl) (ok0 _)
noncomputable def F_29 (a0 : (List Int)) : Option ((Int × (Int × (Int × (Int × (Int × ((List Int) × (Int × Unit))))))) × Int × Unit) :=
 bif decide ((↑(length a0) : Int) < 3) then some ((0, 0, 0, 0, 0, [], 0, PUnit.unit), 3, PUnit.unit) else gd (inB 2 (length a0)) (bif decide (getD a0 2 (0 :Int) > (8 :Int)) then some ((0, 0, 0, 0, 0, [], 0, PUnit.unit), 3, PUnit.unit) else gd (inB 2 (length a0)) (bif (↑(length a0) : Int) != wrap i64 (3 + wrap i64 (2 * wrap i64 (getD a0 2 0))) then some ((0, 0, 0, 0, 0, [], 0, PUnit.unit), 3, PUnit.unit) else gd (inB 1 (length a0)) (bif decide (getD a0 1 (0 :Int) > (1073741824 :Int)) then some ((0, 0, 0, 0, 0, [], 0, PUnit.unit), 3, PUnit.unit) else gd (inB 0 (length a0)) (gd (inB 1 (length a0)) (bif Sp.andnI i64 (Sp.andI i64 (wrap i64 (getD a0 0 0)) 255) (22 :Int) != (0 :Int) then some ((0, 0, 0, 0, 0, [], 0, PUnit.unit), 3, PUnit.unit) else B_29_0 (L_29_0 4611686018427387904 a0 3 0 0 0 0 0 (0, PUnit.unit) [] (Sp.andI i64 (wrap i64 (getD a0 0 0)) 255) 0 (Sp.andI i64 (Int.fdiv (wrap i64 (getD a0 0 0)) 256) 255) (Sp.andI i64 (Int.fdiv (wrap i64 (getD a0 0 0)) 65536) 255) (Int.fdiv (wrap i64 (getD a0 0 0)) 16777216) (wrap i64 (getD a0 1 0), PUnit.unit) []) (some ((0, 0, 0, 0, 0, [], 0, PUnit.unit), 3, PUnit.unit)) fun y18 y19 y20 y21 y22 y23 y24 y25 y26 y27 y28 y29 y30 y31 => gd (p_12 (y25, y26, y27, y28, y29, y31, y30)) (bif (v_12 (y25, y26, y27, y28, y29, y31, y30)).2.1 != 0 then some ((0, 0, 0, 0, 0, [], 0, PUnit.unit), 3, PUnit.unit) else some ((y25, y26, y27, y28, y29, y31, y30), 0, PUnit.unit)))))))
noncomputable def Sp.p_29 (a0 : (List Int)) : Bool := (F_29 a0).isSome
noncomputable def Sp.v_29 (a0 : (List Int)) : (Int × (Int × (Int × (Int × (Int × ((List Int) × (Int × Unit))))))) × Int × Unit := (F_29 a0).getD (dfH R_29)
noncomputable def s_29 : Summ := shS A_29 R_29 (fun x => p_29 x.1) (fun x => v_29 x.1)
theorem pv_29 (a0 : (List Int)) {y : (Int × (Int × (Int × (Int × (Int × ((List Int) × (Int × Unit))))))) × Int × Unit} (h : F_29 a0 = some y) : p_29 a0 = true ∧ v_29 a0 = y := pvG h
theorem run_29 (x : HDen A_29) (y : HDen R_29) (h : F_29 x.1 = some y) : rnF sm_29 1 29 A_29 R_29 x y := runG noO_ok (os := [O_29_0]) ⟨OK_29_0, trivial⟩ (Eq.trans (by kernel_rfl) h)
end
noncomputable section
abbrev A_30 : List Ty := [(.pair (.int .i64) (.pair (.int .i64) (.pair (.int .i64) (.pair (.int .i64) (.pair (.int .i64) (.pair (.slice (.int .i64)) (.pair (.int .i64) .unit)))))))]
abbrev R_30 : List Ty := [.bool]
noncomputable def sm_30 : Nat → Option Summ := smL []
noncomputable def F_30 (a0 : (Int × (Int × (Int × (Int × (Int × ((List Int) × (Int × Unit)))))))) : Option (Bool × Unit) :=
 some (Sp.andI i64 (a0.1) (6 :Int) != (0 :Int), PUnit.unit)
noncomputable def Sp.p_30 (a0 : (Int × (Int × (Int × (Int × (Int × ((List Int) × (Int × Unit)))))))) : Bool := (F_30 a0).isSome
noncomputable def Sp.v_30 (a0 : (Int × (Int × (Int × (Int × (Int × ((List Int) × (Int × Unit)))))))) : Bool × Unit := (F_30 a0).getD (dfH R_30)
noncomputable def s_30 : Summ := shN A_30 R_30 (fun x => p_30 x.1) (fun x => v_30 x.1)
theorem pv_30 (a0 : (Int × (Int × (Int × (Int × (Int × ((List Int) × (Int × Unit)))))))) {y : Bool × Unit} (h : F_30 a0 = some y) : p_30 a0 = true ∧ v_30 a0 = y := pvG h
theorem run_30 (x : HDen A_30) (y : HDen R_30) (h : F_30 x.1 = some y) : rnF sm_30 1 30 A_30 R_30 x y := runG noO_ok (os := []) trivial (Eq.trans (by kernel_rfl) h)
end
noncomputable section
abbrev A_73 : List Ty := [(.int .i64)]
abbrev R_73 : List Ty := [.bool]
noncomputable def sm_73 : Nat → Option Summ := smL [(50, s_50)]
noncomputable def F_73 (a0 : Int) : Option (Bool × Unit) :=
 gd (p_50 a0 (-1099511627776 : Int) 1099511627776) (some ((v_50 a0 (-1099511627776 : Int) 1099511627776).1, PUnit.unit))
noncomputable def Sp.p_73 (a0 : Int) : Bool := (F_73 a0).isSome
noncomputable def Sp.v_73 (a0 : Int) : Bool × Unit := (F_73 a0).getD (dfH R_73)
noncomputable def s_73 : Summ := shN A_73 R_73 (fun x => p_73 x.1) (fun x => v_73 x.1)
theorem pv_73 (a0 : Int) {y : Bool × Unit} (h : F_73 a0 = some y) : p_73 a0 = true ∧ v_73 a0 = y := pvG h
theorem run_73 (x : HDen A_73) (y : HDen R_73) (h : F_73 x.1 = some y) : rnF sm_73 1 73 A_73 R_73 x y := runG noO_ok (os := []) trivial (Eq.trans (by kernel_rfl) h)
end
noncomputable section
abbrev A_64 : List Ty := [(.pair (.int .i64) (.pair (.int .i64) (.pair (.int .i64) (.pair (.int .i64) (.pair (.int .i64) (.pair (.int .i64) (.pair .bool (.pair (.int .i64) .unit)))))))), (.slice (.int .i64))]
abbrev R_64 : List Ty := [.bool]
noncomputable def sm_64 : Nat → Option Summ := smL [(73, s_73)]
noncomputable def T_64_53_0_0 : PS := ⟨19, [(0, .hv (.slice (.int .i64))), (1, .kc (.clo 72 (.pure .unit PUnit.unit))), (7, .hv (.int .i64)), (8, .hv (.int .i64))], [.mem (.hv (.pair (.int .i64) (.pair (.int .i64) (.pair (.int .i64) (.pair (.int .i64) (.pair (.int .i64) (.pair (.int .i64) (.pair .bool (.pair (.int .i64) .unit)))))))))], 1⟩
inductive Sp.E_64_53_0_0 where
 | e0 (p2 : Int) (p3 : Int × Int × Int × Int × Int × Int × Bool × Int × Unit)
 | e1 (p3 : Int × Int × Int × Int × Int × Int × Bool × Int × Unit)
noncomputable def Sp.B_64_53_0_0 {R : Type} (r : Option E_64_53_0_0) (k0 : Int → (Int × Int × Int × Int × Int × Int × Bool × Int × Unit) → Option R) (k1 : (Int × Int × Int × Int × Int × Int × Bool × Int × Unit) → Option R) : Option R := match r with
 | none => none
 | some (.e0 p2 p3) => k0 p2 p3
 | some (.e1 p3) => k1 p3
noncomputable def Y_64_53_0_0 {R : Type} (k : Ex → St → Option R) : E_64_53_0_0 → Option R
 | .e0 p2 p3 => k Ex.ret (sx 19 [(4, CV.int i64 p2)] [Blk.mem (CV.pure (Ty.pair (Ty.int i64) (Ty.pair (Ty.int i64) (Ty.pair (Ty.int i64) (Ty.pair (Ty.int i64) (Ty.pair (Ty.int i64) (Ty.pair (Ty.int i64) (Ty.pair Ty.bool (Ty.pair (Ty.int i64) Ty.unit)))))))) p3)] 1)
 | .e1 p3 => k (Ex.exit 0) (sx 19 [] [Blk.mem (CV.pure (Ty.pair (Ty.int i64) (Ty.pair (Ty.int i64) (Ty.pair (Ty.int i64) (Ty.pair (Ty.int i64) (Ty.pair (Ty.int i64) (Ty.pair (Ty.int i64) (Ty.pair Ty.bool (Ty.pair (Ty.int i64) Ty.unit)))))))) p3)] 1)
noncomputable def Sp.S_64_53_0_0 {R : Type} (K : List Int → Int → Int → (Int × Int × Int × Int × Int × Int × Bool × Int × Unit) → Option R) (k : E_64_53_0_0 → Option R) (p0 : List Int) (p1 p2 : Int) (p3 : Int × Int × Int × Int × Int × Int × Bool × Int × Unit) : Option R :=
 bif decide (p2 < p1) then gd (inB p2 (length p0)) (gd (p_73 (getD p0 (toNat p2) 0)) (bif !(v_73 (getD p0 (toNat p2) 0)).1 then k (E_64_53_0_0.e0 p2 p3) else K p0 p1 (wrap i64 (p2 + 1)) p3)) else k (E_64_53_0_0.e1 p3)
noncomputable def Sp.L_64_53_0_0 : Nat → List Int → Int → Int → (Int × Int × Int × Int × Int × Int × Bool × Int × Unit) → Option E_64_53_0_0
 | 0, _, _, _, _ => none
 | m + 1, p0, p1, p2, p3 => S_64_53_0_0 (L_64_53_0_0 m) some p0 p1 p2 p3
noncomputable def l_64_53_0_0 (m : Nat) (a : T_64_53_0_0.E) : Option E_64_53_0_0 := L_64_53_0_0 m a.1 a.2.1 a.2.2.1 a.2.2.2.1
noncomputable def O_64_53_0_0 {R : Type} : Orc R := orL T_64_53_0_0 (l_64_53_0_0 FU) Y_64_53_0_0
theorem OK_64_53_0_0 {R : Type} : okF (R := R) sm_64 2 (nf 53 0) O_64_53_0_0 := lp0 T_64_53_0_0 l_64_53_0_0 (fun R K k a => S_64_53_0_0 (fun p0 p1 p2 p3 => K (p0, p1, p2, p3, ())) k a.1 a.2.1 a.2.2.1 a.2.2.2.1) Y_64_53_0_0 (fun _ _ _ => by kernel_rfl) (fun _ _ _ => by
 unfold S_64_53_0_0
 repeat' first | apply gdN | apply condN | rfl) (ok0 _)
noncomputable def g_64_53 {R : Type} : List CV → List Blk → (CV → List Blk → Option R) → Option R := evFnL sm_64 FU (ovr noO (evFn sm_64 fns FU 2)) (mkT (fB fns 53) [O_64_53_0_0]) (fO fns 53)
theorem g_64_53_ok {R : Type} (args : List CV) (hp : List Blk) (k : CV → List Blk → Option R) (r : R) (h : g_64_53 args hp k = some r) : evFn sm_64 fns FU 3 53 args hp k = some r := runG noO_ok (os := [O_64_53_0_0]) ⟨OK_64_53_0_0, trivial⟩ h
noncomputable def ov_64_35 {R : Type} : Nat → Option (List CV → List Blk → (CV → List Blk → Option R) → Option R) := fun f' => bif Nat.beq f' 53 then some g_64_53 else none
theorem ov_64_35_ok {R : Type} : OvrOK (R := R) ov_64_35 (evFn sm_64 fns FU 3) := by
 intro f' g h args hp k r hg
 dsimp only [ov_64_35] at h
 by_cases h53 : f' = 53
 · subst h53
   injection h with h
   subst h
   exact evFn_le 0 (g_64_53_ok _ _ _ _ hg)
 rw [nbeq_ne h53, cond_false] at h
 cases h
noncomputable def g_64_35 {R : Type} : List CV → List Blk → (CV → List Blk → Option R) → Option R := evFnL sm_64 FU (ovr ov_64_35 (evFn sm_64 fns FU 3)) (mkT (fB fns 35) []) (fO fns 35)
theorem g_64_35_ok {R : Type} (args : List CV) (hp : List Blk) (k : CV → List Blk → Option R) (r : R) (h : g_64_35 args hp k = some r) : evFn sm_64 fns FU 4 35 args hp k = some r := runG ov_64_35_ok (os := []) trivial h
noncomputable def ov_64_64 {R : Type} : Nat → Option (List CV → List Blk → (CV → List Blk → Option R) → Option R) := fun f' => bif Nat.beq f' 35 then some g_64_35 else none
theorem ov_64_64_ok {R : Type} : OvrOK (R := R) ov_64_64 (evFn sm_64 fns FU 4) := by
 intro f' g h args hp k r hg
 dsimp only [ov_64_64] at h
 by_cases h35 : f' = 35
 · subst h35
   injection h with h
   subst h
   exact evFn_le 0 (g_64_35_ok _ _ _ _ hg)
 rw [nbeq_ne h35, cond_false] at h
 cases h
noncomputable def F_64 (a0 : (Int × (Int × (Int × (Int × (Int × (Int × (Bool × (Int × Unit))))))))) (a1 : (List Int)) : Option (Bool × Unit) :=
 bif (↑(length a1) : Int) == a0.2.2.2.2.2.2.2.1 then B_64_53_0_0 (L_64_53_0_0 4611686018427387904 a1 (↑(length a1) : Int) 0 a0) (fun y3 y4 => some (!decide (y3 ≥ 0), PUnit.unit)) fun y5 => some (true, PUnit.unit) else some (false, PUnit.unit)
noncomputable def Sp.p_64 (a0 : (Int × (Int × (Int × (Int × (Int × (Int × (Bool × (Int × Unit))))))))) (a1 : (List Int)) : Bool := (F_64 a0 a1).isSome
noncomputable def Sp.v_64 (a0 : (Int × (Int × (Int × (Int × (Int × (Int × (Bool × (Int × Unit))))))))) (a1 : (List Int)) : Bool × Unit := (F_64 a0 a1).getD (dfH R_64)
noncomputable def s_64 : Summ := shN A_64 R_64 (fun x => p_64 x.1 x.2.1) (fun x => v_64 x.1 x.2.1)
theorem pv_64 (a0 : (Int × (Int × (Int × (Int × (Int × (Int × (Bool × (Int × Unit))))))))) (a1 : (List Int)) {y : Bool × Unit} (h : F_64 a0 a1 = some y) : p_64 a0 a1 = true ∧ v_64 a0 a1 = y := pvG h
theorem run_64 (x : HDen A_64) (y : HDen R_64) (h : F_64 x.1 x.2.1 = some y) : rnF sm_64 5 64 A_64 R_64 x y := runG ov_64_64_ok (os := []) trivial (Eq.trans (by kernel_rfl) h)
end
noncomputable section
abbrev A_65 : List Ty := [(.pair (.int .i64) (.pair (.int .i64) (.pair (.int .i64) (.pair (.int .i64) (.pair (.int .i64) (.pair (.slice (.int .i64)) (.pair (.int .i64) .unit))))))), (.int .i64)]
abbrev R_65 : List Ty := [.bool]
noncomputable def sm_65 : Nat → Option Summ := smL []
noncomputable def F_65 (a0 : (Int × (Int × (Int × (Int × (Int × ((List Int) × (Int × Unit)))))))) (a1 : Int) : Option (Bool × Unit) :=
 some (Sp.andI i64 (a0.1) a1 == a1, PUnit.unit)
noncomputable def Sp.p_65 (a0 : (Int × (Int × (Int × (Int × (Int × ((List Int) × (Int × Unit)))))))) (a1 : Int) : Bool := (F_65 a0 a1).isSome
noncomputable def Sp.v_65 (a0 : (Int × (Int × (Int × (Int × (Int × ((List Int) × (Int × Unit)))))))) (a1 : Int) : Bool × Unit := (F_65 a0 a1).getD (dfH R_65)
noncomputable def s_65 : Summ := shN A_65 R_65 (fun x => p_65 x.1 x.2.1) (fun x => v_65 x.1 x.2.1)
theorem pv_65 (a0 : (Int × (Int × (Int × (Int × (Int × ((List Int) × (Int × Unit)))))))) (a1 : Int) {y : Bool × Unit} (h : F_65 a0 a1 = some y) : p_65 a0 a1 = true ∧ v_65 a0 a1 = y := pvG h
theorem run_65 (x : HDen A_65) (y : HDen R_65) (h : F_65 x.1 x.2.1 = some y) : rnF sm_65 1 65 A_65 R_65 x y := runG noO_ok (os := []) trivial (Eq.trans (by kernel_rfl) h)
end
noncomputable section
abbrev A_66 : List Ty := [(.pair (.int .i64) (.pair (.int .i64) (.pair (.int .i64) (.pair (.int .i64) (.pair (.int .i64) (.pair (.slice (.int .i64)) (.pair (.int .i64) .unit)))))))]
abbrev R_66 : List Ty := [.bool]
noncomputable def sm_66 : Nat → Option Summ := smL []
noncomputable def F_66 (a0 : (Int × (Int × (Int × (Int × (Int × ((List Int) × (Int × Unit)))))))) : Option (Bool × Unit) :=
 some (Sp.andI i64 (a0.1) (6 :Int) != (0 :Int), PUnit.unit)
noncomputable def Sp.p_66 (a0 : (Int × (Int × (Int × (Int × (Int × ((List Int) × (Int × Unit)))))))) : Bool := (F_66 a0).isSome
noncomputable def Sp.v_66 (a0 : (Int × (Int × (Int × (Int × (Int × ((List Int) × (Int × Unit)))))))) : Bool × Unit := (F_66 a0).getD (dfH R_66)
noncomputable def s_66 : Summ := shN A_66 R_66 (fun x => p_66 x.1) (fun x => v_66 x.1)
theorem pv_66 (a0 : (Int × (Int × (Int × (Int × (Int × ((List Int) × (Int × Unit)))))))) {y : Bool × Unit} (h : F_66 a0 = some y) : p_66 a0 = true ∧ v_66 a0 = y := pvG h
theorem run_66 (x : HDen A_66) (y : HDen R_66) (h : F_66 x.1 = some y) : rnF sm_66 1 66 A_66 R_66 x y := runG noO_ok (os := []) trivial (Eq.trans (by kernel_rfl) h)
end
noncomputable section
abbrev Zt51_0 : Type := Int × Int × Int × Int × Int × List Int × Int × Unit
abbrev Zt51_1 : Type := Int × Int × Int × Int × Int × Int × Bool × Int × Unit
abbrev Zy51_2 : Ty := (.pair (.int .i64) (.pair (.int .i64) (.pair (.int .i64) (.pair (.int .i64) (.pair (.int .i64) (.pair (.int .i64) (.pair .bool (.pair (.int .i64) .unit))))))))
abbrev Zy51_3 : Ty := (.pair (.int .i64) (.pair (.int .i64) (.pair (.int .i64) (.pair (.int .i64) (.pair (.int .i64) (.pair (.slice (.int .i64)) (.pair (.int .i64) .unit)))))))
abbrev A_51 : List Ty := [(.pair (.int .i64) (.pair (.int .i64) (.pair (.int .i64) (.pair (.int .i64) (.pair (.int .i64) (.pair (.int .i64) (.pair .bool (.pair (.int .i64) .unit)))))))), (.pair (.int .i64) (.pair (.int .i64) (.pair (.int .i64) (.pair (.int .i64) (.pair (.int .i64) (.pair (.slice (.int .i64)) (.pair (.int .i64) .unit))))))), (.int .i64)]
abbrev R_51 : List Ty := [.bool]
noncomputable def sm_51 : Nat → Option Summ := smL [(50, s_50), (64, s_64), (65, s_65), (66, s_66)]
noncomputable def T_51_3 : PS := ⟨153, [(3, .kc (.ptr 0 [])), (4, .kc (.ptr 1 []))], [.mem (.hv Zy51_2), .mem (.hv Zy51_3)], 0⟩
inductive Sp.E_51_3 where
 | e0 (p0 : Zt51_1) (p1 : Zt51_0)
 | e1
 | e2 (p0 : Zt51_1) (p1 : Zt51_0)
noncomputable def Sp.B_51_3 {R : Type} (r : Option E_51_3) (k0 : Zt51_1 → Zt51_0 → Option R) (k1 : Option R) (k2 : Zt51_1 → Zt51_0 → Option R) : Option R := match r with
 | none => none
 | some (.e0 p0 p1) => k0 p0 p1
 | some (.e1) => k1
 | some (.e2 p0 p1) => k2 p0 p1
theorem Bn_51_3 {A R : Type} {r : Option E_51_3} {f : A → Option R} {k0 : Zt51_1 → Zt51_0 → Option A} {k1 : Option A} {k2 : Zt51_1 → Zt51_0 → Option A} {l0 : Zt51_1 → Zt51_0 → Option R} {l1 : Option R} {l2 : Zt51_1 → Zt51_0 → Option R} (h0 : ∀ p0 p1, (k0 p0 p1).bind f = l0 p0 p1) (h1 : (k1).bind f = l1) (h2 : ∀ p0 p1, (k2 p0 p1).bind f = l2 p0 p1) : (B_51_3 r k0 k1 k2).bind f = B_51_3 r l0 l1 l2 := by
 cases r with
 | none => rfl
 | some e => cases e <;> first | apply h0 | apply h1 | apply h2
noncomputable def Y_51_3 {R : Type} (k : Ex → St → Option R) : E_51_3 → Option R
 | .e0 p0 p1 => k Ex.ret (sx 153 [(6, CV.bool ((↑(length (p1.2.2.2.2.2.1)) : Int) == p0.2.2.2.2.2.2.2.1))] [])
 | .e1 => k Ex.ret (sx 153 [(6, CV.bool false)] [])
 | .e2 p0 p1 => k Ex.normal (sx 153 [(3, CV.ptr 0 []), (4, CV.ptr 1 []), (105, CV.bool false), (106, CV.pure (Ty.pair (Ty.int i64) (Ty.pair (Ty.int i64) (Ty.pair (Ty.int i64) (Ty.pair (Ty.int i64) (Ty.pair (Ty.int i64) (Ty.pair (Ty.slice (Ty.int i64)) (Ty.pair (Ty.int i64) Ty.unit))))))) p1), (107, CV.bool ((v_66 p1).1))] [Blk.mem (CV.pure (Ty.pair (Ty.int i64) (Ty.pair (Ty.int i64) (Ty.pair (Ty.int i64) (Ty.pair (Ty.int i64) (Ty.pair (Ty.int i64) (Ty.pair (Ty.int i64) (Ty.pair Ty.bool (Ty.pair (Ty.int i64) Ty.unit)))))))) p0), Blk.mem (CV.pure (Ty.pair (Ty.int i64) (Ty.pair (Ty.int i64) (Ty.pair (Ty.int i64) (Ty.pair (Ty.int i64) (Ty.pair (Ty.int i64) (Ty.pair (Ty.slice (Ty.int i64)) (Ty.pair (Ty.int i64) Ty.unit))))))) p1)])
noncomputable def Sp.S_51_3 {R : Type} (k : E_51_3 → Option R) (p0 : Int × Int × Int × Int × Int × Int × Bool × Int × Unit) (p1 : Int × Int × Int × Int × Int × List Int × Int × Unit) : Option R :=
 gd (p_66 p1) (bif (v_66 p1).1 then bif decide (p1.2.2.2.2.1 ≥ 1) then bif decide (p1.2.2.1 ≥ 1) then bif decide (p1.2.2.2.2.2.2.1 ≥ 1) then k (E_51_3.e0 p0 p1) else k (E_51_3.e1) else k (E_51_3.e1) else k (E_51_3.e1) else k (E_51_3.e2 p0 p1))
noncomputable def Sp.J_51_3 (p0 : Int × Int × Int × Int × Int × Int × Bool × Int × Unit) (p1 : Int × Int × Int × Int × Int × List Int × Int × Unit) : Option E_51_3 := S_51_3 some p0 p1
noncomputable def O_51_3 {R : Type} : Orc R := orL T_51_3 (fun a => J_51_3 a.1 a.2.1) Y_51_3
theorem OK_51_3 {R : Type} : okF (R := R) sm_51 0 (ni (ni (ni (nf 51 0) 0) 0) 0) O_51_3 := jp noO_ok (os := []) trivial T_51_3 (fun R k a => S_51_3 k a.1 a.2.1) Y_51_3 (fun k a => by kernel_rfl) (fun Y a => by
 unfold S_51_3
 repeat' first | apply gdN | apply condN | rfl) (ok0 _)
noncomputable def T_51_2 : PS := ⟨153, [(3, .kc (.ptr 0 [])), (4, .kc (.ptr 1 []))], [.mem (.hv Zy51_2), .mem (.hv Zy51_3)], 0⟩
inductive Sp.E_51_2 where
 | e0
 | e1 (y8 : Zt51_1) (y9 : Zt51_0)
 | e2 (y10 : Zt51_1) (y11 : Zt51_0)
noncomputable def Sp.B_51_2 {R : Type} (r : Option E_51_2) (k0 : Option R) (k1 k2 : Zt51_1 → Zt51_0 → Option R) : Option R := match r with
 | none => none
 | some (.e0) => k0
 | some (.e1 y8 y9) => k1 y8 y9
 | some (.e2 y10 y11) => k2 y10 y11
theorem Bn_51_2 {A R : Type} {r : Option E_51_2} {f : A → Option R} {k0 : Option A} {k1 : Zt51_1 → Zt51_0 → Option A} {k2 : Zt51_1 → Zt51_0 → Option A} {l0 : Option R} {l1 : Zt51_1 → Zt51_0 → Option R} {l2 : Zt51_1 → Zt51_0 → Option R} (h0 : (k0).bind f = l0) (h1 : ∀ y8 y9, (k1 y8 y9).bind f = l1 y8 y9) (h2 : ∀ y10 y11, (k2 y10 y11).bind f = l2 y10 y11) : (B_51_2 r k0 k1 k2).bind f = B_51_2 r l0 l1 l2 := by
 cases r with
 | none => rfl
 | some e => cases e <;> first | apply h0 | apply h1 | apply h2
noncomputable def Y_51_2 {R : Type} (k : Ex → St → Option R) : E_51_2 → Option R
 | .e0 => k Ex.ret (sx 153 [(6, CV.bool false)] [])
 | .e1 y8 y9 => k Ex.ret (sx 153 [(6, CV.bool ((↑(length (y9.2.2.2.2.2.1)) : Int) == y8.2.2.2.2.2.2.2.1))] [])
 | .e2 y10 y11 => k Ex.normal (sx 153 [(3, CV.ptr 0 []), (4, CV.ptr 1 []), (105, CV.bool false), (106, CV.pure (Ty.pair (Ty.int i64) (Ty.pair (Ty.int i64) (Ty.pair (Ty.int i64) (Ty.pair (Ty.int i64) (Ty.pair (Ty.int i64) (Ty.pair (Ty.slice (Ty.int i64)) (Ty.pair (Ty.int i64) Ty.unit))))))) y11), (107, CV.bool ((v_66 y11).1))] [Blk.mem (CV.pure (Ty.pair (Ty.int i64) (Ty.pair (Ty.int i64) (Ty.pair (Ty.int i64) (Ty.pair (Ty.int i64) (Ty.pair (Ty.int i64) (Ty.pair (Ty.int i64) (Ty.pair Ty.bool (Ty.pair (Ty.int i64) Ty.unit)))))))) y10), Blk.mem (CV.pure (Ty.pair (Ty.int i64) (Ty.pair (Ty.int i64) (Ty.pair (Ty.int i64) (Ty.pair (Ty.int i64) (Ty.pair (Ty.int i64) (Ty.pair (Ty.slice (Ty.int i64)) (Ty.pair (Ty.int i64) Ty.unit))))))) y11)])
noncomputable def Sp.S_51_2 {R : Type} (k : E_51_2 → Option R) (p0 : Int × Int × Int × Int × Int × Int × Bool × Int × Unit) (p1 : Int × Int × Int × Int × Int × List Int × Int × Unit) : Option R :=
 gd (p_65 p1 2) (bif (v_65 p1 2).1 then bif p1.2.2.2.1 != 0 then k (E_51_2.e0) else B_51_3 (J_51_3 p0 p1) (fun y8 y9 => k (E_51_2.e1 y8 y9)) (k (E_51_2.e0)) fun y10 y11 => k (E_51_2.e2 y10 y11) else B_51_3 (J_51_3 p0 p1) (fun y12 y13 => k (E_51_2.e1 y12 y13)) (k (E_51_2.e0)) fun y14 y15 => k (E_51_2.e2 y14 y15))
noncomputable def Sp.J_51_2 (p0 : Int × Int × Int × Int × Int × Int × Bool × Int × Unit) (p1 : Int × Int × Int × Int × Int × List Int × Int × Unit) : Option E_51_2 := S_51_2 some p0 p1
noncomputable def O_51_2 {R : Type} : Orc R := orL T_51_2 (fun a => J_51_2 a.1 a.2.1) Y_51_2
theorem OK_51_2 {R : Type} : okF (R := R) sm_51 0 (ni (ni (nf 51 0) 0) 0) O_51_2 := jp noO_ok (os := [O_51_3]) ⟨OK_51_3, trivial⟩ T_51_2 (fun R k a => S_51_2 k a.1 a.2.1) Y_51_2 (fun k a => by kernel_rfl) (fun Y a => by
 unfold S_51_2
 repeat' first | apply gdN | apply condN | (apply Bn_51_3 <;> intros) | rfl) (ok0 _)
noncomputable def T_51_1 : PS := ⟨153, [(3, .kc (.ptr 0 [])), (4, .kc (.ptr 1 []))], [.mem (.hv Zy51_2), .mem (.hv Zy51_3)], 0⟩
inductive Sp.E_51_1 where
 | e0
 | e1 (y8 : Zt51_1) (y9 : Zt51_0)
 | e2 (y10 : Zt51_1) (y11 : Zt51_0)
noncomputable def Sp.B_51_1 {R : Type} (r : Option E_51_1) (k0 : Option R) (k1 k2 : Zt51_1 → Zt51_0 → Option R) : Option R := match r with
 | none => none
 | some (.e0) => k0
 | some (.e1 y8 y9) => k1 y8 y9
 | some (.e2 y10 y11) => k2 y10 y11
theorem Bn_51_1 {A R : Type} {r : Option E_51_1} {f : A → Option R} {k0 : Option A} {k1 : Zt51_1 → Zt51_0 → Option A} {k2 : Zt51_1 → Zt51_0 → Option A} {l0 : Option R} {l1 : Zt51_1 → Zt51_0 → Option R} {l2 : Zt51_1 → Zt51_0 → Option R} (h0 : (k0).bind f = l0) (h1 : ∀ y8 y9, (k1 y8 y9).bind f = l1 y8 y9) (h2 : ∀ y10 y11, (k2 y10 y11).bind f = l2 y10 y11) : (B_51_1 r k0 k1 k2).bind f = B_51_1 r l0 l1 l2 := by
 cases r with
 | none => rfl
 | some e => cases e <;> first | apply h0 | apply h1 | apply h2
noncomputable def Y_51_1 {R : Type} (k : Ex → St → Option R) : E_51_1 → Option R
 | .e0 => k Ex.ret (sx 153 [(6, CV.bool false)] [])
 | .e1 y8 y9 => k Ex.ret (sx 153 [(6, CV.bool ((↑(length (y9.2.2.2.2.2.1)) : Int) == y8.2.2.2.2.2.2.2.1))] [])
 | .e2 y10 y11 => k Ex.normal (sx 153 [(3, CV.ptr 0 []), (4, CV.ptr 1 []), (105, CV.bool false), (106, CV.pure (Ty.pair (Ty.int i64) (Ty.pair (Ty.int i64) (Ty.pair (Ty.int i64) (Ty.pair (Ty.int i64) (Ty.pair (Ty.int i64) (Ty.pair (Ty.slice (Ty.int i64)) (Ty.pair (Ty.int i64) Ty.unit))))))) y11), (107, CV.bool ((v_66 y11).1))] [Blk.mem (CV.pure (Ty.pair (Ty.int i64) (Ty.pair (Ty.int i64) (Ty.pair (Ty.int i64) (Ty.pair (Ty.int i64) (Ty.pair (Ty.int i64) (Ty.pair (Ty.int i64) (Ty.pair Ty.bool (Ty.pair (Ty.int i64) Ty.unit)))))))) y10), Blk.mem (CV.pure (Ty.pair (Ty.int i64) (Ty.pair (Ty.int i64) (Ty.pair (Ty.int i64) (Ty.pair (Ty.int i64) (Ty.pair (Ty.int i64) (Ty.pair (Ty.slice (Ty.int i64)) (Ty.pair (Ty.int i64) Ty.unit))))))) y11)])
noncomputable def Sp.S_51_1 {R : Type} (k : E_51_1 → Option R) (p0 : Int × Int × Int × Int × Int × Int × Bool × Int × Unit) (p1 : Int × Int × Int × Int × Int × List Int × Int × Unit) : Option R :=
 gd (p_65 p1 4) (bif !(v_65 p1 4).1 == (p1.2.2.1 == 2) then k (E_51_1.e0) else gd (p_65 p1 16) (bif (v_65 p1 16).1 then gd (p_65 p1 4) (bif !(v_65 p1 4).1 then k (E_51_1.e0) else bif !p0.2.2.2.2.2.2.1 then k (E_51_1.e0) else B_51_2 (J_51_2 p0 p1) (k (E_51_1.e0)) (fun y8 y9 => k (E_51_1.e1 y8 y9)) fun y10 y11 => k (E_51_1.e2 y10 y11)) else B_51_2 (J_51_2 p0 p1) (k (E_51_1.e0)) (fun y12 y13 => k (E_51_1.e1 y12 y13)) fun y14 y15 => k (E_51_1.e2 y14 y15)))
noncomputable def Sp.J_51_1 (p0 : Int × Int × Int × Int × Int × Int × Bool × Int × Unit) (p1 : Int × Int × Int × Int × Int × List Int × Int × Unit) : Option E_51_1 := S_51_1 some p0 p1
noncomputable def O_51_1 {R : Type} : Orc R := orL T_51_1 (fun a => J_51_1 a.1 a.2.1) Y_51_1
theorem OK_51_1 {R : Type} : okF (R := R) sm_51 0 (ni (nf 51 0) 0) O_51_1 := jp noO_ok (os := [O_51_2]) ⟨OK_51_2, trivial⟩ T_51_1 (fun R k a => S_51_1 k a.1 a.2.1) Y_51_1 (fun k a => by kernel_rfl) (fun Y a => by
 unfold S_51_1
 repeat' first | apply gdN | apply condN | (apply Bn_51_2 <;> intros) | rfl) (ok0 _)
noncomputable def T_51_0 : PS := ⟨153, [(2, .hv (.int .i64)), (3, .kc (.ptr 0 [])), (4, .kc (.ptr 1 []))], [.mem (.hv Zy51_2), .mem (.hv Zy51_3)], 0⟩
inductive Sp.E_51_0 where
 | e0
 | e1 (y8 : Zt51_1) (y9 : Zt51_0)
 | e2 (y11 : Zt51_0)
noncomputable def Sp.B_51_0 {R : Type} (r : Option E_51_0) (k0 : Option R) (k1 : Zt51_1 → Zt51_0 → Option R) (k2 : Zt51_0 → Option R) : Option R := match r with
 | none => none
 | some (.e0) => k0
 | some (.e1 y8 y9) => k1 y8 y9
 | some (.e2 y11) => k2 y11
noncomputable def Y_51_0 {R : Type} (k : Ex → St → Option R) : E_51_0 → Option R
 | .e0 => k Ex.ret (sx 153 [(6, CV.bool false)] [])
 | .e1 y8 y9 => k Ex.ret (sx 153 [(6, CV.bool ((↑(length (y9.2.2.2.2.2.1)) : Int) == y8.2.2.2.2.2.2.2.1))] [])
 | .e2 y11 => k Ex.ret (sx 153 [(6, CV.bool ((↑(length (y11.2.2.2.2.2.1)) : Int) == 0))] [])
noncomputable def Sp.S_51_0 {R : Type} (k : E_51_0 → Option R) (p0 : Int) (p1 : Int × Int × Int × Int × Int × Int × Bool × Int × Unit) (p2 : Int × Int × Int × Int × Int × List Int × Int × Unit) : Option R :=
 gd (p_65 p2 1) (bif (v_65 p2 1).1 then gd (p_65 p2 10) (bif !(v_65 p2 10).1 then k (E_51_0.e0) else bif p2.2.2.2.2.2.2.1 != p0 then k (E_51_0.e0) else B_51_1 (J_51_1 p1 p2) (k (E_51_0.e0)) (fun y8 y9 => k (E_51_0.e1 y8 y9)) fun y10 y11 => bif y11.2.2.1 == 0 then bif y11.2.2.2.1 == 0 then bif y11.2.2.2.2.1 == 0 then bif y11.2.2.2.2.2.2.1 == 0 then k (E_51_0.e2 y11) else k (E_51_0.e0) else k (E_51_0.e0) else k (E_51_0.e0) else k (E_51_0.e0)) else B_51_1 (J_51_1 p1 p2) (k (E_51_0.e0)) (fun y12 y13 => k (E_51_0.e1 y12 y13)) fun y14 y15 => bif y15.2.2.1 == 0 then bif y15.2.2.2.1 == 0 then bif y15.2.2.2.2.1 == 0 then bif y15.2.2.2.2.2.2.1 == 0 then k (E_51_0.e2 y15) else k (E_51_0.e0) else k (E_51_0.e0) else k (E_51_0.e0) else k (E_51_0.e0))
noncomputable def Sp.J_51_0 (p0 : Int) (p1 : Int × Int × Int × Int × Int × Int × Bool × Int × Unit) (p2 : Int × Int × Int × Int × Int × List Int × Int × Unit) : Option E_51_0 := S_51_0 some p0 p1 p2
noncomputable def O_51_0 {R : Type} : Orc R := orL T_51_0 (fun a => J_51_0 a.1 a.2.1 a.2.2.1) Y_51_0
theorem OK_51_0 {R : Type} : okF (R := R) sm_51 0 (nf 51 0) O_51_0 := jp noO_ok (os := [O_51_1]) ⟨OK_51_1, trivial⟩ T_51_0 (fun R k a => S_51_0 k a.1 a.2.1 a.2.2.1) Y_51_0 (fun k a => by kernel_rfl) (fun Y a => by
 unfold S_51_0
 repeat' first | apply gdN | apply condN | (apply Bn_51_1 <;> intros) | rfl) (ok0 _)
noncomputable def F_51 (a0 : (Int × (Int × (Int × (Int × (Int × (Int × (Bool × (Int × Unit))))))))) (a1 : (Int × (Int × (Int × (Int × (Int × ((List Int) × (Int × Unit)))))))) (a2 : Int) : Option (Bool × Unit) :=
 gd (p_50 (a1.1) 0 31) (bif !(v_50 (a1.1) 0 31).1 then some (false, PUnit.unit) else gd (p_50 (a1.2.1) (wrap i64 (0 - a0.2.2.1)) (a0.2.1)) (bif !(v_50 (a1.2.1) (wrap i64 (0 - a0.2.2.1)) (a0.2.1)).1 then some (false, PUnit.unit) else gd (p_50 (a1.2.2.1) 0 2) (bif !(v_50 (a1.2.2.1) 0 2).1 then some (false, PUnit.unit) else gd (p_50 (a1.2.2.2.1) 0 (wrap i64 (a0.2.2.2.2.1 - 1))) (bif !(v_50 (a1.2.2.2.1) 0 (wrap i64 (a0.2.2.2.2.1 - 1))).1 then some (false, PUnit.unit) else gd (p_50 (a1.2.2.2.2.1) 0 255) (bif !(v_50 (a1.2.2.2.2.1) 0 255).1 then some (false, PUnit.unit) else gd (p_50 (a1.2.2.2.2.2.2.1) 0 a2) (bif !(v_50 (a1.2.2.2.2.2.2.1) 0 a2).1 then some (false, PUnit.unit) else bif decide ((↑(length (a1.2.2.2.2.2.1)) : Int) > 0) then gd (p_64 a0 (a1.2.2.2.2.2.1)) (bif !(v_64 a0 (a1.2.2.2.2.2.1)).1 then some (false, PUnit.unit) else B_51_0 (J_51_0 a2 a0 a1) (some (false, PUnit.unit)) (fun y14 y15 => some ((↑(length (y15.2.2.2.2.2.1)) : Int) == y14.2.2.2.2.2.2.2.1, PUnit.unit)) fun y16 => some ((↑(length (y16.2.2.2.2.2.1)) : Int) == 0, PUnit.unit)) else B_51_0 (J_51_0 a2 a0 a1) (some (false, PUnit.unit)) (fun y17 y18 => some ((↑(length (y18.2.2.2.2.2.1)) : Int) == y17.2.2.2.2.2.2.2.1, PUnit.unit)) fun y19 => some ((↑(length (y19.2.2.2.2.2.1)) : Int) == 0, PUnit.unit)))))))
noncomputable def Sp.p_51 (a0 : (Int × (Int × (Int × (Int × (Int × (Int × (Bool × (Int × Unit))))))))) (a1 : (Int × (Int × (Int × (Int × (Int × ((List Int) × (Int × Unit)))))))) (a2 : Int) : Bool := (F_51 a0 a1 a2).isSome
noncomputable def Sp.v_51 (a0 : (Int × (Int × (Int × (Int × (Int × (Int × (Bool × (Int × Unit))))))))) (a1 : (Int × (Int × (Int × (Int × (Int × ((List Int) × (Int × Unit)))))))) (a2 : Int) : Bool × Unit := (F_51 a0 a1 a2).getD (dfH R_51)
noncomputable def s_51 : Summ := shN A_51 R_51 (fun x => p_51 x.1 x.2.1 x.2.2.1) (fun x => v_51 x.1 x.2.1 x.2.2.1)
theorem pv_51 (a0 : (Int × (Int × (Int × (Int × (Int × (Int × (Bool × (Int × Unit))))))))) (a1 : (Int × (Int × (Int × (Int × (Int × ((List Int) × (Int × Unit)))))))) (a2 : Int) {y : Bool × Unit} (h : F_51 a0 a1 a2 = some y) : p_51 a0 a1 a2 = true ∧ v_51 a0 a1 a2 = y := pvG h
theorem run_51 (x : HDen A_51) (y : HDen R_51) (h : F_51 x.1 x.2.1 x.2.2.1 = some y) : rnF sm_51 1 51 A_51 R_51 x y := runG noO_ok (os := [O_51_0]) ⟨OK_51_0, trivial⟩ (Eq.trans (by kernel_rfl) h)
end
noncomputable section
abbrev Zy31_0 : Ty := (.pair (.slice (.pair (.int .i64) (.pair (.int .i64) (.pair (.int .i64) (.pair (.int .i64) (.pair (.int .i64) (.pair (.int .i64) (.pair .bool (.pair (.int .i64) .unit))))))))) (.pair (.slice (.pair (.int .i64) (.pair (.int .i64) (.pair (.int .i64) (.pair (.int .i64) (.pair (.int .i64) (.pair (.slice (.int .i64)) (.pair (.int .i64) .unit)))))))) (.pair (.int .i64) (.pair .bool .unit))))
abbrev Zt31_1 : Type := List (Int × Int × Int × Int × Int × Int × Bool × Int × Unit) × List (Int × Int × Int × Int × Int × List Int × Int × Unit) × Int × Bool × Unit
abbrev A_31 : List Ty := [(.pair (.slice (.pair (.int .i64) (.pair (.int .i64) (.pair (.int .i64) (.pair (.int .i64) (.pair (.int .i64) (.pair (.int .i64) (.pair .bool (.pair (.int .i64) .unit))))))))) (.pair (.slice (.pair (.int .i64) (.pair (.int .i64) (.pair (.int .i64) (.pair (.int .i64) (.pair (.int .i64) (.pair (.slice (.int .i64)) (.pair (.int .i64) .unit)))))))) (.pair (.int .i64) (.pair .bool .unit))))]
abbrev R_31 : List Ty := [.bool]
noncomputable def sm_31 : Nat → Option Summ := smL [(47, s_47), (50, s_50), (51, s_51), (62, s_62)]
noncomputable def T_31_61_0_0 : PS := ⟨19, [(0, .hv (.slice (.pair (.int .i64) (.pair (.int .i64) (.pair (.int .i64) (.pair (.int .i64) (.pair (.int .i64) (.pair (.int .i64) (.pair .bool (.pair (.int .i64) .unit)))))))))), (1, .kc (.clo 46 (.pure .unit PUnit.unit))), (7, .hv (.int .i64)), (8, .hv (.int .i64))], [.mem (.hv Zy31_0)], 1⟩
inductive Sp.E_31_61_0_0 where
 | e0 (p2 : Int) (p3 : Zt31_1)
 | e1 (p3 : Zt31_1)
noncomputable def Sp.B_31_61_0_0 {R : Type} (r : Option E_31_61_0_0) (k0 : Int → Zt31_1 → Option R) (k1 : Zt31_1 → Option R) : Option R := match r with
 | none => none
 | some (.e0 p2 p3) => k0 p2 p3
 | some (.e1 p3) => k1 p3
noncomputable def Y_31_61_0_0 {R : Type} (k : Ex → St → Option R) : E_31_61_0_0 → Option R
 | .e0 p2 p3 => k Ex.ret (sx 19 [(4, CV.int i64 p2)] [Blk.mem (CV.pure (Ty.pair (Ty.slice (Ty.pair (Ty.int i64) (Ty.pair (Ty.int i64) (Ty.pair (Ty.int i64) (Ty.pair (Ty.int i64) (Ty.pair (Ty.int i64) (Ty.pair (Ty.int i64) (Ty.pair Ty.bool (Ty.pair (Ty.int i64) Ty.unit))))))))) (Ty.pair (Ty.slice (Ty.pair (Ty.int i64) (Ty.pair (Ty.int i64) (Ty.pair (Ty.int i64) (Ty.pair (Ty.int i64) (Ty.pair (Ty.int i64) (Ty.pair (Ty.slice (Ty.int i64)) (Ty.pair (Ty.int i64) Ty.unit)))))))) (Ty.pair (Ty.int i64) (Ty.pair Ty.bool Ty.unit)))) p3)] 1)
 | .e1 p3 => k (Ex.exit 0) (sx 19 [] [Blk.mem (CV.pure (Ty.pair (Ty.slice (Ty.pair (Ty.int i64) (Ty.pair (Ty.int i64) (Ty.pair (Ty.int i64) (Ty.pair (Ty.int i64) (Ty.pair (Ty.int i64) (Ty.pair (Ty.int i64) (Ty.pair Ty.bool (Ty.pair (Ty.int i64) Ty.unit))))))))) (Ty.pair (Ty.slice (Ty.pair (Ty.int i64) (Ty.pair (Ty.int i64) (Ty.pair (Ty.int i64) (Ty.pair (Ty.int i64) (Ty.pair (Ty.int i64) (Ty.pair (Ty.slice (Ty.int i64)) (Ty.pair (Ty.int i64) Ty.unit)))))))) (Ty.pair (Ty.int i64) (Ty.pair Ty.bool Ty.unit)))) p3)] 1)
noncomputable def Sp.S_31_61_0_0 {R : Type} (K : (List (Int × Int × Int × Int × Int × Int × Bool × Int × Unit)) → Int → Int → (List (Int × Int × Int × Int × Int × Int × Bool × Int × Unit) × List (Int × Int × Int × Int × Int × List Int × Int × Unit) × Int × Bool × Unit) → Option R) (k : E_31_61_0_0 → Option R) (p0 : List (Int × Int × Int × Int × Int × Int × Bool × Int × Unit)) (p1 p2 : Int) (p3 : List (Int × Int × Int × Int × Int × Int × Bool × Int × Unit) × List (Int × Int × Int × Int × Int × List Int × Int × Unit) × Int × Bool × Unit) : Option R :=
 bif decide (p2 < p1) then gd (inB p2 (length p0)) (gd (p_62 (getD p0 (toNat p2) Zd1)) (bif !(v_62 (getD p0 (toNat p2) Zd1)).1 then k (E_31_61_0_0.e0 p2 p3) else K p0 p1 (wrap i64 (p2 + 1)) p3)) else k (E_31_61_0_0.e1 p3)
noncomputable def Sp.L_31_61_0_0 : Nat → (List (Int × Int × Int × Int × Int × Int × Bool × Int × Unit)) → Int → Int → (List (Int × Int × Int × Int × Int × Int × Bool × Int × Unit) × List (Int × Int × Int × Int × Int × List Int × Int × Unit) × Int × Bool × Unit) → Option E_31_61_0_0
 | 0, _, _, _, _ => none
 | m + 1, p0, p1, p2, p3 => S_31_61_0_0 (L_31_61_0_0 m) some p0 p1 p2 p3
noncomputable def l_31_61_0_0 (m : Nat) (a : T_31_61_0_0.E) : Option E_31_61_0_0 := L_31_61_0_0 m a.1 a.2.1 a.2.2.1 a.2.2.2.1
noncomputable def O_31_61_0_0 {R : Type} : Orc R := orL T_31_61_0_0 (l_31_61_0_0 FU) Y_31_61_0_0
theorem OK_31_61_0_0 {R : Type} : okF (R := R) sm_31 2 (nf 61 0) O_31_61_0_0 := lp0 T_31_61_0_0 l_31_61_0_0 (fun R K k a => S_31_61_0_0 (fun p0 p1 p2 p3 => K (p0, p1, p2, p3, ())) k a.1 a.2.1 a.2.2.1 a.2.2.2.1) Y_31_61_0_0 (fun _ _ _ => by kernel_rfl) (fun _ _ _ => by
 unfold S_31_61_0_0
 repeat' first | apply gdN | apply condN | rfl) (ok0 _)
noncomputable def g_31_61 {R : Type} : List CV → List Blk → (CV → List Blk → Option R) → Option R := evFnL sm_31 FU (ovr noO (evFn sm_31 fns FU 2)) (mkT (fB fns 61) [O_31_61_0_0]) (fO fns 61)
theorem g_31_61_ok {R : Type} (args : List CV) (hp : List Blk) (k : CV → List Blk → Option R) (r : R) (h : g_31_61 args hp k = some r) : evFn sm_31 fns FU 3 61 args hp k = some r := runG noO_ok (os := [O_31_61_0_0]) ⟨OK_31_61_0_0, trivial⟩ h
noncomputable def ov_31_45 {R : Type} : Nat → Option (List CV → List Blk → (CV → List Blk → Option R) → Option R) := fun f' => bif Nat.beq f' 61 then some g_31_61 else none
theorem ov_31_45_ok {R : Type} : OvrOK (R := R) ov_31_45 (evFn sm_31 fns FU 3) := by
 intro f' g h args hp k r hg
 dsimp only [ov_31_45] at h
 by_cases h61 : f' = 61
 · subst h61
   injection h with h
   subst h
   exact evFn_le 0 (g_31_61_ok _ _ _ _ hg)
 rw [nbeq_ne h61, cond_false] at h
 cases h
noncomputable def g_31_45 {R : Type} : List CV → List Blk → (CV → List Blk → Option R) → Option R := evFnL sm_31 FU (ovr ov_31_45 (evFn sm_31 fns FU 3)) (mkT (fB fns 45) []) (fO fns 45)
theorem g_31_45_ok {R : Type} (args : List CV) (hp : List Blk) (k : CV → List Blk → Option R) (r : R) (h : g_31_45 args hp k = some r) : evFn sm_31 fns FU 4 45 args hp k = some r := runG ov_31_45_ok (os := []) trivial h
noncomputable def ov_31_31 {R : Type} : Nat → Option (List CV → List Blk → (CV → List Blk → Option R) → Option R) := fun f' => bif Nat.beq f' 45 then some g_31_45 else none
theorem ov_31_31_ok {R : Type} : OvrOK (R := R) ov_31_31 (evFn sm_31 fns FU 4) := by
 intro f' g h args hp k r hg
 dsimp only [ov_31_31] at h
 by_cases h45 : f' = 45
 · subst h45
   injection h with h
   subst h
   exact evFn_le 0 (g_31_45_ok _ _ _ _ hg)
 rw [nbeq_ne h45, cond_false] at h
 cases h
noncomputable def T_31_1 : PS := ⟨63, [(1, .kc (.ptr 0 [])), (45, .hv (.slice (.pair (.int .i64) (.pair (.int .i64) (.pair (.int .i64) (.pair (.int .i64) (.pair (.int .i64) (.pair (.slice (.int .i64)) (.pair (.int .i64) .unit))))))))), (46, .hv (.int .i64)), (47, .hv (.int .i64))], [.mem (.hv Zy31_0)], 0⟩
inductive Sp.E_31_1 where
 | e0
 | e1
noncomputable def Sp.B_31_1 {R : Type} (r : Option E_31_1) (k0 k1 : Option R) : Option R := match r with
 | none => none
 | some (.e0) => k0
 | some (.e1) => k1
theorem Bn_31_1 {A R : Type} {r : Option E_31_1} {f : A → Option R} {k0 : Option A} {k1 : Option A} {l0 : Option R} {l1 : Option R} (h0 : (k0).bind f = l0) (h1 : (k1).bind f = l1) : (B_31_1 r k0 k1).bind f = B_31_1 r l0 l1 := by
 cases r with
 | none => rfl
 | some e => cases e <;> first | apply h0 | apply h1
noncomputable def Y_31_1 {R : Type} (k : Ex → St → Option R) : E_31_1 → Option R
 | .e0 => k Ex.ret (sx 63 [(2, CV.bool false)] [])
 | .e1 => k (Ex.exit 0) (sx 63 [] [])
noncomputable def Sp.S_31_1 {R : Type} (K : (List (Int × Int × Int × Int × Int × List Int × Int × Unit)) → Int → Int → (List (Int × Int × Int × Int × Int × Int × Bool × Int × Unit) × List (Int × Int × Int × Int × Int × List Int × Int × Unit) × Int × Bool × Unit) → Option R) (k : E_31_1 → Option R) (p0 : List (Int × Int × Int × Int × Int × List Int × Int × Unit)) (p1 p2 : Int) (p3 : List (Int × Int × Int × Int × Int × Int × Bool × Int × Unit) × List (Int × Int × Int × Int × Int × List Int × Int × Unit) × Int × Bool × Unit) : Option R :=
 bif decide (p2 < p1) then gd (inB p2 (length p0)) (gd (inB p2 (length (p3.1))) (gd (p_51 (getD (p3.1) (toNat p2) Zd1) (getD p0 (toNat p2) Zd2) (p3.2.2.1)) (bif !(v_51 (getD (p3.1) (toNat p2) Zd1) (getD p0 (toNat p2) Zd2) (p3.2.2.1)).1 then k (E_31_1.e0) else K p0 p1 (wrap i64 (p2 + 1)) p3))) else k (E_31_1.e1)
noncomputable def Sp.L_31_1 : Nat → (List (Int × Int × Int × Int × Int × List Int × Int × Unit)) → Int → Int → (List (Int × Int × Int × Int × Int × Int × Bool × Int × Unit) × List (Int × Int × Int × Int × Int × List Int × Int × Unit) × Int × Bool × Unit) → Option E_31_1
 | 0, _, _, _, _ => none
 | m + 1, p0, p1, p2, p3 => S_31_1 (L_31_1 m) some p0 p1 p2 p3
noncomputable def l_31_1 (m : Nat) (a : T_31_1.E) : Option E_31_1 := L_31_1 m a.1 a.2.1 a.2.2.1 a.2.2.2.1
noncomputable def O_31_1 {R : Type} : Orc R := orL T_31_1 (l_31_1 FU) Y_31_1
theorem OK_31_1 {R : Type} : okF (R := R) sm_31 4 (ni (nf 31 0) 0) O_31_1 := lp ov_31_31_ok (os := []) trivial T_31_1 l_31_1 (fun R K k a => S_31_1 (fun p0 p1 p2 p3 => K (p0, p1, p2, p3, ())) k a.1 a.2.1 a.2.2.1 a.2.2.2.1) Y_31_1 (fun _ => rfl) (fun _ _ => rfl) (fun k K a => by kernel_rfl) (fun Y K a => by
 unfold S_31_1
 repeat' first | apply gdN | apply condN | rfl) (ok0 _)
noncomputable def T_31_0 : PS := ⟨63, [(1, .kc (.ptr 0 []))], [.mem (.hv Zy31_0)], 0⟩
inductive Sp.E_31_0 where
 | e0
 | e1
noncomputable def Sp.B_31_0 {R : Type} (r : Option E_31_0) (k0 k1 : Option R) : Option R := match r with
 | none => none
 | some (.e0) => k0
 | some (.e1) => k1
noncomputable def Y_31_0 {R : Type} (k : Ex → St → Option R) : E_31_0 → Option R
 | .e0 => k Ex.ret (sx 63 [(2, CV.bool false)] [])
 | .e1 => k Ex.ret (sx 63 [(2, CV.bool true)] [])
noncomputable def Sp.S_31_0 {R : Type} (k : E_31_0 → Option R) (p0 : List (Int × Int × Int × Int × Int × Int × Bool × Int × Unit) × List (Int × Int × Int × Int × Int × List Int × Int × Unit) × Int × Bool × Unit) : Option R :=
 B_31_1 (L_31_1 4611686018427387904 (p0.2.1) (↑(length (p0.2.1)) : Int) 0 p0) (k (E_31_0.e0)) (k (E_31_0.e1))
noncomputable def Sp.J_31_0 (p0 : List (Int × Int × Int × Int × Int × Int × Bool × Int × Unit) × List (Int × Int × Int × Int × Int × List Int × Int × Unit) × Int × Bool × Unit) : Option E_31_0 := S_31_0 some p0
noncomputable def O_31_0 {R : Type} : Orc R := orL T_31_0 (fun a => J_31_0 a.1) Y_31_0
theorem OK_31_0 {R : Type} : okF (R := R) sm_31 4 (nf 31 0) O_31_0 := jp ov_31_31_ok (os := [O_31_1]) ⟨OK_31_1, trivial⟩ T_31_0 (fun R k a => S_31_0 k a.1) Y_31_0 (fun k a => by kernel_rfl) (fun Y a => by
 unfold S_31_0
 repeat' first | apply gdN | apply condN | (apply Bn_31_1 <;> intros) | rfl) (ok0 _)
noncomputable def F_31 (a0 : ((List (Int × (Int × (Int × (Int × (Int × (Int × (Bool × (Int × Unit))))))))) × ((List (Int × (Int × (Int × (Int × (Int × ((List Int) × (Int × Unit)))))))) × (Int × (Bool × Unit))))) : Option (Bool × Unit) :=
 bif decide ((↑(length (a0.1)) : Int) > 64) then some (false, PUnit.unit) else B_31_61_0_0 (L_31_61_0_0 4611686018427387904 (a0.1) (↑(length (a0.1)) : Int) 0 a0) (fun y11 y12 => bif decide (y11 ≥ 0) then some (false, PUnit.unit) else bif !Sp.dst (List.map (fun y13 => y13.1) (y12.1)) then some (false, PUnit.unit) else bif (↑(length (y12.2.1)) : Int) != (↑(length (y12.1)) : Int) then some (false, PUnit.unit) else gd (p_50 (y12.2.2.1) 0 1073741824) (bif !(v_50 (y12.2.2.1) 0 1073741824).1 then some (false, PUnit.unit) else bif y12.2.2.2.1 then bif decide (y12.2.2.1 < 1) then some (false, PUnit.unit) else B_31_0 (J_31_0 y12) (some (false, PUnit.unit)) (some (true, PUnit.unit)) else B_31_0 (J_31_0 y12) (some (false, PUnit.unit)) (some (true, PUnit.unit)))) fun y16 => bif !Sp.dst (List.map (fun y17 => y17.1) (y16.1)) then some (false, PUnit.unit) else bif (↑(length (y16.2.1)) : Int) != (↑(length (y16.1)) : Int) then some (false, PUnit.unit) else gd (p_50 (y16.2.2.1) 0 1073741824) (bif !(v_50 (y16.2.2.1) 0 1073741824).1 then some (false, PUnit.unit) else bif y16.2.2.2.1 then bif decide (y16.2.2.1 < 1) then some (false, PUnit.unit) else B_31_0 (J_31_0 y16) (some (false, PUnit.unit)) (some (true, PUnit.unit)) else B_31_0 (J_31_0 y16) (some (false, PUnit.unit)) (some (true, PUnit.unit)))
noncomputable def Sp.p_31 (a0 : ((List (Int × (Int × (Int × (Int × (Int × (Int × (Bool × (Int × Unit))))))))) × ((List (Int × (Int × (Int × (Int × (Int × ((List Int) × (Int × Unit)))))))) × (Int × (Bool × Unit))))) : Bool := (F_31 a0).isSome
noncomputable def Sp.v_31 (a0 : ((List (Int × (Int × (Int × (Int × (Int × (Int × (Bool × (Int × Unit))))))))) × ((List (Int × (Int × (Int × (Int × (Int × ((List Int) × (Int × Unit)))))))) × (Int × (Bool × Unit))))) : Bool × Unit := (F_31 a0).getD (dfH R_31)
noncomputable def s_31 : Summ := shN A_31 R_31 (fun x => p_31 x.1) (fun x => v_31 x.1)
theorem pv_31 (a0 : ((List (Int × (Int × (Int × (Int × (Int × (Int × (Bool × (Int × Unit))))))))) × ((List (Int × (Int × (Int × (Int × (Int × ((List Int) × (Int × Unit)))))))) × (Int × (Bool × Unit))))) {y : Bool × Unit} (h : F_31 a0 = some y) : p_31 a0 = true ∧ v_31 a0 = y := pvG h
theorem run_31 (x : HDen A_31) (y : HDen R_31) (h : F_31 x.1 = some y) : rnF sm_31 5 31 A_31 R_31 x y := runG ov_31_31_ok (os := [O_31_0]) ⟨OK_31_0, trivial⟩ (Eq.trans (by kernel_rfl) h)
end
noncomputable section
abbrev Zt9_0 : Type := List (Int × Int × Int × Int × Int × Int × Bool × Int × Unit)
abbrev Zt9_1 : Type := List (Int × Int × Int × Int × Int × List Int × Int × Unit)
abbrev Zy9_2 : Ty := (.slice (.pair (.int .i64) (.pair (.int .i64) (.pair (.int .i64) (.pair (.int .i64) (.pair (.int .i64) (.pair (.int .i64) (.pair .bool (.pair (.int .i64) .unit)))))))))
abbrev Zy9_3 : Ty := (.pair (.int .i64) (.pair (.int .i64) (.pair (.int .i64) (.pair (.int .i64) (.pair (.int .i64) (.pair (.slice (.int .i64)) (.pair (.int .i64) .unit)))))))
abbrev Zt9_4 : Type := Int × Bool × Unit
abbrev A_9 : List Ty := [(.pair (.pair (.slice (.int .u32)) (.pair (.slice (.int .i64)) (.pair (.int .i64) .unit))) (.pair (.int .i64) (.pair (.int .i64) .unit))), (.slice (.pair (.int .i64) (.pair (.int .i64) (.pair (.int .i64) (.pair (.int .i64) (.pair (.int .i64) (.pair (.int .i64) (.pair .bool (.pair (.int .i64) .unit)))))))))]
abbrev R_9 : List Ty := [(.pair (.slice (.pair (.int .i64) (.pair (.int .i64) (.pair (.int .i64) (.pair (.int .i64) (.pair (.int .i64) (.pair (.int .i64) (.pair .bool (.pair (.int .i64) .unit))))))))) (.pair (.slice (.pair (.int .i64) (.pair (.int .i64) (.pair (.int .i64) (.pair (.int .i64) (.pair (.int .i64) (.pair (.slice (.int .i64)) (.pair (.int .i64) .unit)))))))) (.pair (.int .i64) (.pair .bool .unit)))), (.int .i64)]
noncomputable def sm_9 : Nat → Option Summ := smL [(25, s_25), (26, s_26), (27, s_27), (28, s_28), (29, s_29), (30, s_30), (31, s_31)]
noncomputable def T_9_0 : PS := ⟨86, [(2, .kc (.ptr 0 [])), (4, .kc (.ptr 1 [])), (6, .kc (.ptr 4 [])), (29, .hv Zy9_2), (30, .hv (.int .i64)), (31, .hv (.int .i64))], [.mem (.hv (.pair (.pair (.slice (.int .u32)) (.pair (.slice (.int .i64)) (.pair (.int .i64) .unit))) (.pair (.int .i64) (.pair (.int .i64) .unit)))), .mem (.pr (.kc (.whole 2)) (.pr (.kc (.whole 3)) (.hv (.pair (.int .i64) (.pair .bool .unit))))), .vec 71 (.pair (.int .i64) (.pair (.int .i64) (.pair (.int .i64) (.pair (.int .i64) (.pair (.int .i64) (.pair (.int .i64) (.pair .bool (.pair (.int .i64) .unit)))))))), .vec 52 Zy9_3, .mem (.pr (.hv Zy9_2) (.pr (.kc (.whole 5)) (.hv (.pair (.int .i64) (.pair .bool .unit))))), .vec 52 Zy9_3], 0⟩
inductive Sp.E_9_0 where
 | e0 (p4 : Zt9_4) (p5 : Zt9_0) (p6 : Zt9_1) (p7 : Zt9_0) (p8 : Zt9_4) (p9 : Zt9_1)
noncomputable def Sp.B_9_0 {R : Type} (r : Option E_9_0) (k0 : Zt9_4 → Zt9_0 → Zt9_1 → Zt9_0 → Zt9_4 → Zt9_1 → Option R) : Option R := match r with
 | none => none
 | some (.e0 p4 p5 p6 p7 p8 p9) => k0 p4 p5 p6 p7 p8 p9
noncomputable def Y_9_0 {R : Type} (k : Ex → St → Option R) : E_9_0 → Option R
 | .e0 p4 p5 p6 p7 p8 p9 => k (Ex.exit 0) (sx 86 [(4, CV.ptr 0 []), (6, CV.ptr 3 [])] [Blk.mem (CV.pair (CV.whole 1) (CV.pair (CV.whole 2) (CV.pure (Ty.pair (Ty.int i64) (Ty.pair Ty.bool Ty.unit)) p4))), Blk.vec 71 (Ty.pair (Ty.int i64) (Ty.pair (Ty.int i64) (Ty.pair (Ty.int i64) (Ty.pair (Ty.int i64) (Ty.pair (Ty.int i64) (Ty.pair (Ty.int i64) (Ty.pair Ty.bool (Ty.pair (Ty.int i64) Ty.unit)))))))) p5, Blk.vec 52 (Ty.pair (Ty.int i64) (Ty.pair (Ty.int i64) (Ty.pair (Ty.int i64) (Ty.pair (Ty.int i64) (Ty.pair (Ty.int i64) (Ty.pair (Ty.slice (Ty.int i64)) (Ty.pair (Ty.int i64) Ty.unit))))))) p6, Blk.mem (CV.pair (CV.pure (Ty.slice (Ty.pair (Ty.int i64) (Ty.pair (Ty.int i64) (Ty.pair (Ty.int i64) (Ty.pair (Ty.int i64) (Ty.pair (Ty.int i64) (Ty.pair (Ty.int i64) (Ty.pair Ty.bool (Ty.pair (Ty.int i64) Ty.unit))))))))) p7) (CV.pair (CV.whole 4) (CV.pure (Ty.pair (Ty.int i64) (Ty.pair Ty.bool Ty.unit)) p8))), Blk.vec 52 (Ty.pair (Ty.int i64) (Ty.pair (Ty.int i64) (Ty.pair (Ty.int i64) (Ty.pair (Ty.int i64) (Ty.pair (Ty.int i64) (Ty.pair (Ty.slice (Ty.int i64)) (Ty.pair (Ty.int i64) Ty.unit))))))) p9])
noncomputable def Sp.S_9_0 {R : Type} (K : (List (Int × Int × Int × Int × Int × Int × Bool × Int × Unit)) → Int → Int → ((List Int × List Int × Int × Unit) × Int × Int × Unit) → (Int × Bool × Unit) → (List (Int × Int × Int × Int × Int × Int × Bool × Int × Unit)) → (List (Int × Int × Int × Int × Int × List Int × Int × Unit)) → (List (Int × Int × Int × Int × Int × Int × Bool × Int × Unit)) → (Int × Bool × Unit) → (List (Int × Int × Int × Int × Int × List Int × Int × Unit)) → Option R) (k : E_9_0 → Option R) (p0 : List (Int × Int × Int × Int × Int × Int × Bool × Int × Unit)) (p1 p2 : Int) (p3 : (List Int × List Int × Int × Unit) × Int × Int × Unit) (p4 : Int × Bool × Unit) (p5 : List (Int × Int × Int × Int × Int × Int × Bool × Int × Unit)) (p6 : List (Int × Int × Int × Int × Int × List Int × Int × Unit)) (p7 : List (Int × Int × Int × Int × Int × Int × Bool × Int × Unit)) (p8 : Int × Bool × Unit) (p9 : List (Int × Int × Int × Int × Int × List Int × Int × Unit)) : Option R :=
 bif decide (p2 < p1) then gd (inB p2 (length p0)) (gd (p_28 p3 p2) (bif (v_28 p3 p2).2.1 != 0 then K p0 p1 (wrap i64 (p2 + 1)) p3 p4 p5 p6 p7 p8 p9 else bif decide ((↑(length ((v_28 p3 p2).1)) : Int) < 1) then K p0 p1 (wrap i64 (p2 + 1)) p3 p4 p5 p6 p7 p8 p9 else gd (inB 0 (length ((v_28 p3 p2).1))) (bif wrap i64 (getD ((v_28 p3 p2).1) 0 0) != (getD p0 (toNat p2) Zd1).1 then K p0 p1 (wrap i64 (p2 + 1)) p3 p4 p5 p6 p7 p8 p9 else gd (sl3 1 (↑(length ((v_28 p3 p2).1)) : Int) (↑(length ((v_28 p3 p2).1)) : Int)) (gd (p_29 (drop 1 ((v_28 p3 p2).1))) (bif (v_29 (drop 1 ((v_28 p3 p2).1))).2.1 != 0 then K p0 p1 (wrap i64 (p2 + 1)) p3 p4 p5 p6 p7 p8 p9 else gd (p_30 ((v_29 (drop 1 ((v_28 p3 p2).1))).1)) (bif !(v_30 ((v_29 (drop 1 ((v_28 p3 p2).1))).1)).1 then K p0 p1 (wrap i64 (p2 + 1)) p3 p4 p5 p6 p7 p8 p9 else gd (inB p2 (length p9)) (gd (decide (toNat p2 < length p9) && true && true) (gd (p_31 (p7, List.set p9 (toNat p2) ((v_29 (drop 1 ((v_28 p3 p2).1))).1), p8)) (bif !(v_31 (p7, List.set p9 (toNat p2) ((v_29 (drop 1 ((v_28 p3 p2).1))).1), p8)).1 then gd (inB p2 (length (List.set p9 (toNat p2) ((v_29 (drop 1 ((v_28 p3 p2).1))).1)))) (gd (decide (toNat p2 < length (List.set p9 (toNat p2) ((v_29 (drop 1 ((v_28 p3 p2).1))).1))) && true && true) (K p0 p1 (wrap i64 (p2 + 1)) p3 p4 p5 p6 p7 p8 (List.set (List.set p9 (toNat p2) ((v_29 (drop 1 ((v_28 p3 p2).1))).1)) (toNat p2) (0, 0, 0, 0, 0, [], 0, PUnit.unit)))) else K p0 p1 (wrap i64 (p2 + 1)) p3 p4 p5 p6 p7 p8 (List.set p9 (toNat p2) ((v_29 (drop 1 ((v_28 p3 p2).1))).1))))))))))) else k (E_9_0.e0 p4 p5 p6 p7 p8 p9)
noncomputable def Sp.L_9_0 : Nat → (List (Int × Int × Int × Int × Int × Int × Bool × Int × Unit)) → Int → Int → ((List Int × List Int × Int × Unit) × Int × Int × Unit) → (Int × Bool × Unit) → (List (Int × Int × Int × Int × Int × Int × Bool × Int × Unit)) → (List (Int × Int × Int × Int × Int × List Int × Int × Unit)) → (List (Int × Int × Int × Int × Int × Int × Bool × Int × Unit)) → (Int × Bool × Unit) → (List (Int × Int × Int × Int × Int × List Int × Int × Unit)) → Option E_9_0
 | 0, _, _, _, _, _, _, _, _, _, _ => none
 | m + 1, p0, p1, p2, p3, p4, p5, p6, p7, p8, p9 => S_9_0 (L_9_0 m) some p0 p1 p2 p3 p4 p5 p6 p7 p8 p9
noncomputable def l_9_0 (m : Nat) (a : T_9_0.E) : Option E_9_0 := L_9_0 m a.1 a.2.1 a.2.2.1 a.2.2.2.1 a.2.2.2.2.1 a.2.2.2.2.2.1 a.2.2.2.2.2.2.1 a.2.2.2.2.2.2.2.1 a.2.2.2.2.2.2.2.2.1 a.2.2.2.2.2.2.2.2.2.1
noncomputable def O_9_0 {R : Type} : Orc R := orL T_9_0 (l_9_0 FU) Y_9_0
theorem OK_9_0 {R : Type} : okF (R := R) sm_9 0 (nf 9 0) O_9_0 := lp0 T_9_0 l_9_0 (fun R K k a => S_9_0 (fun p0 p1 p2 p3 p4 p5 p6 p7 p8 p9 => K (p0, p1, p2, p3, p4, p5, p6, p7, p8, p9, ())) k a.1 a.2.1 a.2.2.1 a.2.2.2.1 a.2.2.2.2.1 a.2.2.2.2.2.1 a.2.2.2.2.2.2.1 a.2.2.2.2.2.2.2.1 a.2.2.2.2.2.2.2.2.1 a.2.2.2.2.2.2.2.2.2.1) Y_9_0 (fun _ _ _ => by kernel_rfl) (fun _ _ _ => by
 unfold S_9_0
 repeat' first | apply gdN | apply condN | rfl) (ok0 _)
noncomputable def F_9 (a0 : (((List Int) × ((List Int) × (Int × Unit))) × (Int × (Int × Unit)))) (a1 : (List (Int × (Int × (Int × (Int × (Int × (Int × (Bool × (Int × Unit)))))))))) : Option (((List (Int × (Int × (Int × (Int × (Int × (Int × (Bool × (Int × Unit))))))))) × ((List (Int × (Int × (Int × (Int × (Int × ((List Int) × (Int × Unit)))))))) × (Int × (Bool × Unit)))) × Int × Unit) :=
 gd (p_25 a0) (bif !(v_25 a0).1 then some (([], [], 0, false, PUnit.unit), 1, PUnit.unit) else gd (p_26 a1) (bif (v_26 a1).2.1 != 0 then some (([], [], 0, false, PUnit.unit), (v_26 a1).2.1, PUnit.unit) else gd (p_27 a0) (B_9_0 (L_9_0 4611686018427387904 a1 (↑(length a1) : Int) 0 a0 (0, false, PUnit.unit) [] [] ((v_26 a1).1.1) ((v_27 a0).1, (v_26 a1).1.2.2.2) ((v_26 a1).1.2.1)) fun y6 y7 y8 y9 y10 y11 => some ((y9, y11, y10), 0, PUnit.unit))))
noncomputable def Sp.p_9 (a0 : (((List Int) × ((List Int) × (Int × Unit))) × (Int × (Int × Unit)))) (a1 : (List (Int × (Int × (Int × (Int × (Int × (Int × (Bool × (Int × Unit)))))))))) : Bool := (F_9 a0 a1).isSome
noncomputable def Sp.v_9 (a0 : (((List Int) × ((List Int) × (Int × Unit))) × (Int × (Int × Unit)))) (a1 : (List (Int × (Int × (Int × (Int × (Int × (Int × (Bool × (Int × Unit)))))))))) : ((List (Int × (Int × (Int × (Int × (Int × (Int × (Bool × (Int × Unit))))))))) × ((List (Int × (Int × (Int × (Int × (Int × ((List Int) × (Int × Unit)))))))) × (Int × (Bool × Unit)))) × Int × Unit := (F_9 a0 a1).getD (dfH R_9)
noncomputable def s_9 : Summ := shS A_9 R_9 (fun x => p_9 x.1 x.2.1) (fun x => v_9 x.1 x.2.1)
theorem pv_9 (a0 : (((List Int) × ((List Int) × (Int × Unit))) × (Int × (Int × Unit)))) (a1 : (List (Int × (Int × (Int × (Int × (Int × (Int × (Bool × (Int × Unit)))))))))) {y : ((List (Int × (Int × (Int × (Int × (Int × (Int × (Bool × (Int × Unit))))))))) × ((List (Int × (Int × (Int × (Int × (Int × ((List Int) × (Int × Unit)))))))) × (Int × (Bool × Unit)))) × Int × Unit} (h : F_9 a0 a1 = some y) : p_9 a0 a1 = true ∧ v_9 a0 a1 = y := pvG h
theorem run_9 (x : HDen A_9) (y : HDen R_9) (h : F_9 x.1 x.2.1 = some y) : rnF sm_9 1 9 A_9 R_9 x y := runG noO_ok (os := [O_9_0]) ⟨OK_9_0, trivial⟩ (Eq.trans (by kernel_rfl) h)
end
noncomputable section
abbrev Zt5_0 : Type := List (Int × Int × Int × Int × Int × Int × Bool × Int × Unit)
abbrev Zt5_1 : Type := (List Int × List Int × Int × Unit) × Int × Int × Unit
abbrev A_5 : List Ty := [(.pair (.slice (.int .u32)) (.pair (.slice (.int .i64)) (.pair (.int .i64) .unit))), (.int .i64), (.int .i64), (.slice (.pair (.int .i64) (.pair (.int .i64) (.pair (.int .i64) (.pair (.int .i64) (.pair (.int .i64) (.pair (.int .i64) (.pair .bool (.pair (.int .i64) .unit)))))))))]
abbrev R_5 : List Ty := [(.pair (.pair (.slice (.int .u32)) (.pair (.slice (.int .i64)) (.pair (.int .i64) .unit))) (.pair (.int .i64) (.pair (.int .i64) .unit))), (.pair (.slice (.pair (.int .i64) (.pair (.int .i64) (.pair (.int .i64) (.pair (.int .i64) (.pair (.int .i64) (.pair (.int .i64) (.pair .bool (.pair (.int .i64) .unit))))))))) (.pair (.slice (.pair (.int .i64) (.pair (.int .i64) (.pair (.int .i64) (.pair (.int .i64) (.pair (.int .i64) (.pair (.slice (.int .i64)) (.pair (.int .i64) .unit)))))))) (.pair (.int .i64) (.pair .bool .unit)))), (.int .i64)]
noncomputable def sm_5 : Nat → Option Summ := smL [(6, s_6), (7, s_7), (8, s_8), (9, s_9)]
noncomputable def T_5_0 : PS := ⟨50, [(3, .hv (.slice (.pair (.int .i64) (.pair (.int .i64) (.pair (.int .i64) (.pair (.int .i64) (.pair (.int .i64) (.pair (.int .i64) (.pair .bool (.pair (.int .i64) .unit)))))))))), (8, .kc (.ptr 0 [])), (9, .kc (.ptr 3 [])), (11, .kc (.ptr 6 [])), (12, .hv (.int .i64))], [.mem (.pr (.pr (.kc (.whole 1)) (.pr (.kc (.whole 2)) (.hv (.pair (.int .i64) .unit)))) (.hv (.pair (.int .i64) (.pair (.int .i64) .unit)))), .vec 38 (.int .u32), .vec 3 (.int .i64), .mem (.pr (.kc (.whole 4)) (.pr (.kc (.whole 5)) (.hv (.pair (.int .i64) (.pair .bool .unit))))), .vec 71 (.pair (.int .i64) (.pair (.int .i64) (.pair (.int .i64) (.pair (.int .i64) (.pair (.int .i64) (.pair (.int .i64) (.pair .bool (.pair (.int .i64) .unit)))))))), .vec 52 (.pair (.int .i64) (.pair (.int .i64) (.pair (.int .i64) (.pair (.int .i64) (.pair (.int .i64) (.pair (.slice (.int .i64)) (.pair (.int .i64) .unit))))))), .mem (.hv (.pair (.pair (.slice (.int .u32)) (.pair (.slice (.int .i64)) (.pair (.int .i64) .unit))) (.pair (.int .i64) (.pair (.int .i64) .unit))))], 0⟩
inductive Sp.E_5_0 where
 | e0 (p1 : Int)
 | e1 (p0 : Zt5_0) (p9 : Zt5_1)
 | e2 (p0 : Zt5_0) (p9 : Zt5_1)
noncomputable def Sp.B_5_0 {R : Type} (r : Option E_5_0) (k0 : Int → Option R) (k1 k2 : Zt5_0 → Zt5_1 → Option R) : Option R := match r with
 | none => none
 | some (.e0 p1) => k0 p1
 | some (.e1 p0 p9) => k1 p0 p9
 | some (.e2 p0 p9) => k2 p0 p9
noncomputable def Y_5_0 {R : Type} (k : Ex → St → Option R) : E_5_0 → Option R
 | .e0 p1 => k Ex.ret (sx 50 [(8, CV.ptr 0 []), (9, CV.ptr 3 []), (10, CV.int i64 p1)] [Blk.mem (CV.pair (CV.pair (CV.whole 1) (CV.pair (CV.whole 2) (CV.pure (Ty.pair (Ty.int i64) Ty.unit) ((0, PUnit.unit) : (Int × Unit))))) (CV.pure (Ty.pair (Ty.int i64) (Ty.pair (Ty.int i64) Ty.unit)) ((0, 0, PUnit.unit) : (Int × (Int × Unit))))), Blk.vec 38 (Ty.int u32) [], Blk.vec 3 (Ty.int i64) [], Blk.mem (CV.pair (CV.whole 4) (CV.pair (CV.whole 5) (CV.pure (Ty.pair (Ty.int i64) (Ty.pair Ty.bool Ty.unit)) ((0, false, PUnit.unit) : (Int × (Bool × Unit)))))), Blk.vec 71 (Ty.pair (Ty.int i64) (Ty.pair (Ty.int i64) (Ty.pair (Ty.int i64) (Ty.pair (Ty.int i64) (Ty.pair (Ty.int i64) (Ty.pair (Ty.int i64) (Ty.pair Ty.bool (Ty.pair (Ty.int i64) Ty.unit)))))))) [], Blk.vec 52 (Ty.pair (Ty.int i64) (Ty.pair (Ty.int i64) (Ty.pair (Ty.int i64) (Ty.pair (Ty.int i64) (Ty.pair (Ty.int i64) (Ty.pair (Ty.slice (Ty.int i64)) (Ty.pair (Ty.int i64) Ty.unit))))))) []])
 | .e1 p0 p9 => k Ex.ret (sx 50 [(8, CV.ptr 0 []), (9, CV.ptr 3 []), (10, CV.int i64 ((v_9 p9 p0).2.1))] [Blk.mem (CV.pair (CV.pair (CV.whole 1) (CV.pair (CV.whole 2) (CV.pure (Ty.pair (Ty.int i64) Ty.unit) ((0, PUnit.unit) : (Int × Unit))))) (CV.pure (Ty.pair (Ty.int i64) (Ty.pair (Ty.int i64) Ty.unit)) ((0, 0, PUnit.unit) : (Int × (Int × Unit))))), Blk.vec 38 (Ty.int u32) [], Blk.vec 3 (Ty.int i64) [], Blk.mem (CV.pair (CV.whole 4) (CV.pair (CV.whole 5) (CV.pure (Ty.pair (Ty.int i64) (Ty.pair Ty.bool Ty.unit)) ((0, false, PUnit.unit) : (Int × (Bool × Unit)))))), Blk.vec 71 (Ty.pair (Ty.int i64) (Ty.pair (Ty.int i64) (Ty.pair (Ty.int i64) (Ty.pair (Ty.int i64) (Ty.pair (Ty.int i64) (Ty.pair (Ty.int i64) (Ty.pair Ty.bool (Ty.pair (Ty.int i64) Ty.unit)))))))) [], Blk.vec 52 (Ty.pair (Ty.int i64) (Ty.pair (Ty.int i64) (Ty.pair (Ty.int i64) (Ty.pair (Ty.int i64) (Ty.pair (Ty.int i64) (Ty.pair (Ty.slice (Ty.int i64)) (Ty.pair (Ty.int i64) Ty.unit))))))) []])
 | .e2 p0 p9 => k Ex.ret (sx 50 [(8, CV.ptr 0 []), (9, CV.ptr 1 []), (10, CV.int i64 0)] [Blk.mem (CV.pure (Ty.pair (Ty.pair (Ty.slice (Ty.int u32)) (Ty.pair (Ty.slice (Ty.int i64)) (Ty.pair (Ty.int i64) Ty.unit))) (Ty.pair (Ty.int i64) (Ty.pair (Ty.int i64) Ty.unit))) p9), Blk.mem (CV.pure (Ty.pair (Ty.slice (Ty.pair (Ty.int i64) (Ty.pair (Ty.int i64) (Ty.pair (Ty.int i64) (Ty.pair (Ty.int i64) (Ty.pair (Ty.int i64) (Ty.pair (Ty.int i64) (Ty.pair Ty.bool (Ty.pair (Ty.int i64) Ty.unit))))))))) (Ty.pair (Ty.slice (Ty.pair (Ty.int i64) (Ty.pair (Ty.int i64) (Ty.pair (Ty.int i64) (Ty.pair (Ty.int i64) (Ty.pair (Ty.int i64) (Ty.pair (Ty.slice (Ty.int i64)) (Ty.pair (Ty.int i64) Ty.unit)))))))) (Ty.pair (Ty.int i64) (Ty.pair Ty.bool Ty.unit)))) (((v_9 p9 p0).1) : ((List (Int × (Int × (Int × (Int × (Int × (Int × (Bool × (Int × Unit))))))))) × ((List (Int × (Int × (Int × (Int × (Int × ((List Int) × (Int × Unit)))))))) × (Int × (Bool × Unit))))))])
noncomputable def Sp.S_5_0 {R : Type} (k : E_5_0 → Option R) (p0 : List (Int × Int × Int × Int × Int × Int × Bool × Int × Unit)) (p1 : Int) (p2 : Int × Unit) (p3 : Int × Int × Unit) (p4 p5 : List Int) (p6 : Int × Bool × Unit) (p7 : List (Int × Int × Int × Int × Int × Int × Bool × Int × Unit)) (p8 : List (Int × Int × Int × Int × Int × List Int × Int × Unit)) (p9 : (List Int × List Int × Int × Unit) × Int × Int × Unit) : Option R :=
 bif p1 != 0 then k (E_5_0.e0 p1) else gd (p_9 p9 p0) (bif (v_9 p9 p0).2.1 != 0 then k (E_5_0.e1 p0 p9) else k (E_5_0.e2 p0 p9))
noncomputable def Sp.J_5_0 (p0 : List (Int × Int × Int × Int × Int × Int × Bool × Int × Unit)) (p1 : Int) (p2 : Int × Unit) (p3 : Int × Int × Unit) (p4 p5 : List Int) (p6 : Int × Bool × Unit) (p7 : List (Int × Int × Int × Int × Int × Int × Bool × Int × Unit)) (p8 : List (Int × Int × Int × Int × Int × List Int × Int × Unit)) (p9 : (List Int × List Int × Int × Unit) × Int × Int × Unit) : Option E_5_0 := S_5_0 some p0 p1 p2 p3 p4 p5 p6 p7 p8 p9
noncomputable def O_5_0 {R : Type} : Orc R := orL T_5_0 (fun a => J_5_0 a.1 a.2.1 a.2.2.1 a.2.2.2.1 a.2.2.2.2.1 a.2.2.2.2.2.1 a.2.2.2.2.2.2.1 a.2.2.2.2.2.2.2.1 a.2.2.2.2.2.2.2.2.1 a.2.2.2.2.2.2.2.2.2.1) Y_5_0
theorem OK_5_0 {R : Type} : okF (R := R) sm_5 0 (nf 5 0) O_5_0 := jp noO_ok (os := []) trivial T_5_0 (fun R k a => S_5_0 k a.1 a.2.1 a.2.2.1 a.2.2.2.1 a.2.2.2.2.1 a.2.2.2.2.2.1 a.2.2.2.2.2.2.1 a.2.2.2.2.2.2.2.1 a.2.2.2.2.2.2.2.2.1 a.2.2.2.2.2.2.2.2.2.1) Y_5_0 (fun k a => by kernel_rfl) (fun Y a => by
 unfold S_5_0
 repeat' first | apply gdN | apply condN | rfl) (ok0 _)
noncomputable def F_5 (a0 : ((List Int) × ((List Int) × (Int × Unit)))) (a1 a2 : Int) (a3 : (List (Int × (Int × (Int × (Int × (Int × (Int × (Bool × (Int × Unit)))))))))) : Option ((((List Int) × ((List Int) × (Int × Unit))) × (Int × (Int × Unit))) × ((List (Int × (Int × (Int × (Int × (Int × (Int × (Bool × (Int × Unit))))))))) × ((List (Int × (Int × (Int × (Int × (Int × ((List Int) × (Int × Unit)))))))) × (Int × (Bool × Unit)))) × Int × Unit) :=
 gd (p_6 a0 a1 a2) (bif (v_6 a0 a1 a2).2.1 == 7 then gd p_8 (gd (p_7 a0 a1 a2 (v_8.1)) (B_5_0 (J_5_0 a3 ((v_7 a0 a1 a2 (v_8.1)).2.2.1) (0, PUnit.unit) (0, 0, PUnit.unit) [] [] (0, false, PUnit.unit) [] [] ((v_7 a0 a1 a2 (v_8.1)).1)) (fun y10 => some ((([], [], 0, PUnit.unit), 0, 0, PUnit.unit), ([], [], 0, false, PUnit.unit), y10, PUnit.unit)) (fun y11 y12 => some ((([], [], 0, PUnit.unit), 0, 0, PUnit.unit), ([], [], 0, false, PUnit.unit), (v_9 y12 y11).2.1, PUnit.unit)) fun y13 y14 => some (y14, (v_9 y14 y13).1, 0, PUnit.unit))) else B_5_0 (J_5_0 a3 ((v_6 a0 a1 a2).2.1) (0, PUnit.unit) (0, 0, PUnit.unit) [] [] (0, false, PUnit.unit) [] [] ((v_6 a0 a1 a2).1)) (fun y15 => some ((([], [], 0, PUnit.unit), 0, 0, PUnit.unit), ([], [], 0, false, PUnit.unit), y15, PUnit.unit)) (fun y16 y17 => some ((([], [], 0, PUnit.unit), 0, 0, PUnit.unit), ([], [], 0, false, PUnit.unit), (v_9 y17 y16).2.1, PUnit.unit)) fun y18 y19 => some (y19, (v_9 y19 y18).1, 0, PUnit.unit))
noncomputable def Sp.p_5 (a0 : ((List Int) × ((List Int) × (Int × Unit)))) (a1 a2 : Int) (a3 : (List (Int × (Int × (Int × (Int × (Int × (Int × (Bool × (Int × Unit)))))))))) : Bool := (F_5 a0 a1 a2 a3).isSome
noncomputable def Sp.v_5 (a0 : ((List Int) × ((List Int) × (Int × Unit)))) (a1 a2 : Int) (a3 : (List (Int × (Int × (Int × (Int × (Int × (Int × (Bool × (Int × Unit)))))))))) : (((List Int) × ((List Int) × (Int × Unit))) × (Int × (Int × Unit))) × ((List (Int × (Int × (Int × (Int × (Int × (Int × (Bool × (Int × Unit))))))))) × ((List (Int × (Int × (Int × (Int × (Int × ((List Int) × (Int × Unit)))))))) × (Int × (Bool × Unit)))) × Int × Unit := (F_5 a0 a1 a2 a3).getD (dfH R_5)
noncomputable def s_5 : Summ := shS A_5 R_5 (fun x => p_5 x.1 x.2.1 x.2.2.1 x.2.2.2.1) (fun x => v_5 x.1 x.2.1 x.2.2.1 x.2.2.2.1)
theorem pv_5 (a0 : ((List Int) × ((List Int) × (Int × Unit)))) (a1 a2 : Int) (a3 : (List (Int × (Int × (Int × (Int × (Int × (Int × (Bool × (Int × Unit)))))))))) {y : (((List Int) × ((List Int) × (Int × Unit))) × (Int × (Int × Unit))) × ((List (Int × (Int × (Int × (Int × (Int × (Int × (Bool × (Int × Unit))))))))) × ((List (Int × (Int × (Int × (Int × (Int × ((List Int) × (Int × Unit)))))))) × (Int × (Bool × Unit)))) × Int × Unit} (h : F_5 a0 a1 a2 a3 = some y) : p_5 a0 a1 a2 a3 = true ∧ v_5 a0 a1 a2 a3 = y := pvG h
theorem run_5 (x : HDen A_5) (y : HDen R_5) (h : F_5 x.1 x.2.1 x.2.2.1 x.2.2.2.1 = some y) : rnF sm_5 1 5 A_5 R_5 x y := runG noO_ok (os := [O_5_0]) ⟨OK_5_0, trivial⟩ (Eq.trans (by kernel_rfl) h)
end
noncomputable section
abbrev A_32 : List Ty := [(.slice (.int .u32)), (.slice (.int .u32))]
abbrev R_32 : List Ty := [.bool]
noncomputable def sm_32 : Nat → Option Summ := smL []
noncomputable def T_32_0 : PS := ⟨26, [(0, .hv (.slice (.int .u32))), (1, .hv (.slice (.int .u32))), (5, .hv (.int .i64))], [], 0⟩
inductive Sp.E_32_0 where
 | e0
 | e1
noncomputable def Sp.B_32_0 {R : Type} (r : Option E_32_0) (k0 k1 : Option R) : Option R := match r with
 | none => none
 | some (.e0) => k0
 | some (.e1) => k1
noncomputable def Y_32_0 {R : Type} (k : Ex → St → Option R) : E_32_0 → Option R
 | .e0 => k Ex.ret (sx 26 [(4, CV.bool false)] [])
 | .e1 => k (Ex.exit 0) (sx 26 [] [])
noncomputable def Sp.S_32_0 {R : Type} (K : List Int → List Int → Int → Option R) (k : E_32_0 → Option R) (p0 p1 : List Int) (p2 : Int) : Option R :=
 bif decide (p2 < (↑(length p0) : Int)) then gd (inB p2 (length p0)) (gd (inB p2 (length p1)) (bif getD p0 (toNat p2) 0 != getD p1 (toNat p2) 0 then k (E_32_0.e0) else K p0 p1 (wrap i64 (p2 + 1)))) else k (E_32_0.e1)
noncomputable def Sp.L_32_0 : Nat → List Int → List Int → Int → Option E_32_0
 | 0, _, _, _ => none
 | m + 1, p0, p1, p2 => S_32_0 (L_32_0 m) some p0 p1 p2
noncomputable def l_32_0 (m : Nat) (a : T_32_0.E) : Option E_32_0 := L_32_0 m a.1 a.2.1 a.2.2.1
noncomputable def O_32_0 {R : Type} : Orc R := orL T_32_0 (l_32_0 FU) Y_32_0
theorem OK_32_0 {R : Type} : okF (R := R) sm_32 0 (nf 32 0) O_32_0 := lp0 T_32_0 l_32_0 (fun R K k a => S_32_0 (fun p0 p1 p2 => K (p0, p1, p2, ())) k a.1 a.2.1 a.2.2.1) Y_32_0 (fun _ _ _ => by kernel_rfl) (fun _ _ _ => by
 unfold S_32_0
 repeat' first | apply gdN | apply condN | rfl) (ok0 _)
noncomputable def F_32 (a0 a1 : (List Int)) : Option (Bool × Unit) :=
 bif (↑(length a0) : Int) != (↑(length a1) : Int) then some (false, PUnit.unit) else B_32_0 (L_32_0 4611686018427387904 a0 a1 0) (some (false, PUnit.unit)) (some (true, PUnit.unit))
noncomputable def Sp.p_32 (a0 a1 : (List Int)) : Bool := (F_32 a0 a1).isSome
noncomputable def Sp.v_32 (a0 a1 : (List Int)) : Bool × Unit := (F_32 a0 a1).getD (dfH R_32)
noncomputable def s_32 : Summ := shN A_32 R_32 (fun x => p_32 x.1 x.2.1) (fun x => v_32 x.1 x.2.1)
theorem pv_32 (a0 a1 : (List Int)) {y : Bool × Unit} (h : F_32 a0 a1 = some y) : p_32 a0 a1 = true ∧ v_32 a0 a1 = y := pvG h
theorem run_32 (x : HDen A_32) (y : HDen R_32) (h : F_32 x.1 x.2.1 = some y) : rnF sm_32 1 32 A_32 R_32 x y := runG noO_ok (os := [O_32_0]) ⟨OK_32_0, trivial⟩ (Eq.trans (by kernel_rfl) h)
end
noncomputable section
abbrev A_10 : List Ty := [(.pair (.pair (.slice (.int .u32)) (.pair (.slice (.int .i64)) (.pair (.int .i64) .unit))) (.pair (.int .i64) (.pair (.int .i64) .unit))), (.pair (.pair (.slice (.int .u32)) (.pair (.slice (.int .i64)) (.pair (.int .i64) .unit))) (.pair (.int .i64) (.pair (.int .i64) .unit)))]
abbrev R_10 : List Ty := [.bool]
noncomputable def sm_10 : Nat → Option Summ := smL [(32, s_32)]
noncomputable def T_10_0 : PS := ⟨66, [(2, .kc (.ptr 0 [])), (3, .kc (.ptr 1 [])), (5, .hv (.int .i64))], [.mem (.hv (.pair (.pair (.slice (.int .u32)) (.pair (.slice (.int .i64)) (.pair (.int .i64) .unit))) (.pair (.int .i64) (.pair (.int .i64) .unit)))), .mem (.hv (.pair (.pair (.slice (.int .u32)) (.pair (.slice (.int .i64)) (.pair (.int .i64) .unit))) (.pair (.int .i64) (.pair (.int .i64) .unit))))], 0⟩
inductive Sp.E_10_0 where
 | e0
 | e1 (p1 p2 : (List Int × List Int × Int × Unit) × Int × Int × Unit)
noncomputable def Sp.B_10_0 {R : Type} (r : Option E_10_0) (k0 : Option R) (k1 : ((List Int × List Int × Int × Unit) × Int × Int × Unit) → ((List Int × List Int × Int × Unit) × Int × Int × Unit) → Option R) : Option R := match r with
 | none => none
 | some (.e0) => k0
 | some (.e1 p1 p2) => k1 p1 p2
noncomputable def Y_10_0 {R : Type} (k : Ex → St → Option R) : E_10_0 → Option R
 | .e0 => k Ex.ret (sx 66 [(4, CV.bool false)] [])
 | .e1 p1 p2 => k (Ex.exit 0) (sx 66 [(2, CV.ptr 0 []), (3, CV.ptr 1 [])] [Blk.mem (CV.pure (Ty.pair (Ty.pair (Ty.slice (Ty.int u32)) (Ty.pair (Ty.slice (Ty.int i64)) (Ty.pair (Ty.int i64) Ty.unit))) (Ty.pair (Ty.int i64) (Ty.pair (Ty.int i64) Ty.unit))) p1), Blk.mem (CV.pure (Ty.pair (Ty.pair (Ty.slice (Ty.int u32)) (Ty.pair (Ty.slice (Ty.int i64)) (Ty.pair (Ty.int i64) Ty.unit))) (Ty.pair (Ty.int i64) (Ty.pair (Ty.int i64) Ty.unit))) p2)])
noncomputable def Sp.S_10_0 {R : Type} (K : Int → ((List Int × List Int × Int × Unit) × Int × Int × Unit) → ((List Int × List Int × Int × Unit) × Int × Int × Unit) → Option R) (k : E_10_0 → Option R) (p0 : Int) (p1 p2 : (List Int × List Int × Int × Unit) × Int × Int × Unit) : Option R :=
 bif decide (p0 < (↑(length (p1.1.2.1)) : Int)) then gd (inB p0 (length (p1.1.2.1))) (gd (inB p0 (length (p2.1.2.1))) (bif getD (p1.1.2.1) (toNat p0) 0 != getD (p2.1.2.1) (toNat p0) 0 then k (E_10_0.e0) else K (wrap i64 (p0 + 1)) p1 p2)) else k (E_10_0.e1 p1 p2)
noncomputable def Sp.L_10_0 : Nat → Int → ((List Int × List Int × Int × Unit) × Int × Int × Unit) → ((List Int × List Int × Int × Unit) × Int × Int × Unit) → Option E_10_0
 | 0, _, _, _ => none
 | m + 1, p0, p1, p2 => S_10_0 (L_10_0 m) some p0 p1 p2
noncomputable def l_10_0 (m : Nat) (a : T_10_0.E) : Option E_10_0 := L_10_0 m a.1 a.2.1 a.2.2.1
noncomputable def O_10_0 {R : Type} : Orc R := orL T_10_0 (l_10_0 FU) Y_10_0
theorem OK_10_0 {R : Type} : okF (R := R) sm_10 0 (nf 10 0) O_10_0 := lp0 T_10_0 l_10_0 (fun R K k a => S_10_0 (fun p0 p1 p2 => K (p0, p1, p2, ())) k a.1 a.2.1 a.2.2.1) Y_10_0 (fun _ _ _ => by kernel_rfl) (fun _ _ _ => by
 unfold S_10_0
 repeat' first | apply gdN | apply condN | rfl) (ok0 _)
noncomputable def F_10 (a0 : (((List Int) × ((List Int) × (Int × Unit))) × (Int × (Int × Unit)))) (a1 : (((List Int) × ((List Int) × (Int × Unit))) × (Int × (Int × Unit)))) : Option (Bool × Unit) :=
 bif a0.2.1 != a1.2.1 then some (false, PUnit.unit) else bif a0.2.2.1 != a1.2.2.1 then some (false, PUnit.unit) else bif a0.1.2.2.1 != a1.1.2.2.1 then some (false, PUnit.unit) else bif (↑(length (a0.1.2.1)) : Int) != (↑(length (a1.1.2.1)) : Int) then some (false, PUnit.unit) else B_10_0 (L_10_0 4611686018427387904 0 a0 a1) (some (false, PUnit.unit)) fun y2 y3 => gd (p_32 (y2.1.1) (y3.1.1)) (some ((v_32 (y2.1.1) (y3.1.1)).1, PUnit.unit))
noncomputable def Sp.p_10 (a0 : (((List Int) × ((List Int) × (Int × Unit))) × (Int × (Int × Unit)))) (a1 : (((List Int) × ((List Int) × (Int × Unit))) × (Int × (Int × Unit)))) : Bool := (F_10 a0 a1).isSome
noncomputable def Sp.v_10 (a0 : (((List Int) × ((List Int) × (Int × Unit))) × (Int × (Int × Unit)))) (a1 : (((List Int) × ((List Int) × (Int × Unit))) × (Int × (Int × Unit)))) : Bool × Unit := (F_10 a0 a1).getD (dfH R_10)
noncomputable def s_10 : Summ := shN A_10 R_10 (fun x => p_10 x.1 x.2.1) (fun x => v_10 x.1 x.2.1)
theorem pv_10 (a0 : (((List Int) × ((List Int) × (Int × Unit))) × (Int × (Int × Unit)))) (a1 : (((List Int) × ((List Int) × (Int × Unit))) × (Int × (Int × Unit)))) {y : Bool × Unit} (h : F_10 a0 a1 = some y) : p_10 a0 a1 = true ∧ v_10 a0 a1 = y := pvG h
theorem run_10 (x : HDen A_10) (y : HDen R_10) (h : F_10 x.1 x.2.1 = some y) : rnF sm_10 1 10 A_10 R_10 x y := runG noO_ok (os := [O_10_0]) ⟨OK_10_0, trivial⟩ (Eq.trans (by kernel_rfl) h)
end
noncomputable section
abbrev A_52 : List Ty := [(.slice (.int .i64)), (.slice (.int .i64))]
abbrev R_52 : List Ty := [.bool]
noncomputable def sm_52 : Nat → Option Summ := smL []
noncomputable def T_52_0 : PS := ⟨26, [(0, .hv (.slice (.int .i64))), (1, .hv (.slice (.int .i64))), (5, .hv (.int .i64))], [], 0⟩
inductive Sp.E_52_0 where
 | e0
 | e1
noncomputable def Sp.B_52_0 {R : Type} (r : Option E_52_0) (k0 k1 : Option R) : Option R := match r with
 | none => none
 | some (.e0) => k0
 | some (.e1) => k1
noncomputable def Y_52_0 {R : Type} (k : Ex → St → Option R) : E_52_0 → Option R
 | .e0 => k Ex.ret (sx 26 [(4, CV.bool false)] [])
 | .e1 => k (Ex.exit 0) (sx 26 [] [])
noncomputable def Sp.S_52_0 {R : Type} (K : List Int → List Int → Int → Option R) (k : E_52_0 → Option R) (p0 p1 : List Int) (p2 : Int) : Option R :=
 bif decide (p2 < (↑(length p0) : Int)) then gd (inB p2 (length p0)) (gd (inB p2 (length p1)) (bif getD p0 (toNat p2) 0 != getD p1 (toNat p2) 0 then k (E_52_0.e0) else K p0 p1 (wrap i64 (p2 + 1)))) else k (E_52_0.e1)
noncomputable def Sp.L_52_0 : Nat → List Int → List Int → Int → Option E_52_0
 | 0, _, _, _ => none
 | m + 1, p0, p1, p2 => S_52_0 (L_52_0 m) some p0 p1 p2
noncomputable def l_52_0 (m : Nat) (a : T_52_0.E) : Option E_52_0 := L_52_0 m a.1 a.2.1 a.2.2.1
noncomputable def O_52_0 {R : Type} : Orc R := orL T_52_0 (l_52_0 FU) Y_52_0
theorem OK_52_0 {R : Type} : okF (R := R) sm_52 0 (nf 52 0) O_52_0 := lp0 T_52_0 l_52_0 (fun R K k a => S_52_0 (fun p0 p1 p2 => K (p0, p1, p2, ())) k a.1 a.2.1 a.2.2.1) Y_52_0 (fun _ _ _ => by kernel_rfl) (fun _ _ _ => by
 unfold S_52_0
 repeat' first | apply gdN | apply condN | rfl) (ok0 _)
noncomputable def F_52 (a0 a1 : (List Int)) : Option (Bool × Unit) :=
 bif (↑(length a0) : Int) != (↑(length a1) : Int) then some (false, PUnit.unit) else B_52_0 (L_52_0 4611686018427387904 a0 a1 0) (some (false, PUnit.unit)) (some (true, PUnit.unit))
noncomputable def Sp.p_52 (a0 a1 : (List Int)) : Bool := (F_52 a0 a1).isSome
noncomputable def Sp.v_52 (a0 a1 : (List Int)) : Bool × Unit := (F_52 a0 a1).getD (dfH R_52)
noncomputable def s_52 : Summ := shN A_52 R_52 (fun x => p_52 x.1 x.2.1) (fun x => v_52 x.1 x.2.1)
theorem pv_52 (a0 a1 : (List Int)) {y : Bool × Unit} (h : F_52 a0 a1 = some y) : p_52 a0 a1 = true ∧ v_52 a0 a1 = y := pvG h
theorem run_52 (x : HDen A_52) (y : HDen R_52) (h : F_52 x.1 x.2.1 = some y) : rnF sm_52 1 52 A_52 R_52 x y := runG noO_ok (os := [O_52_0]) ⟨OK_52_0, trivial⟩ (Eq.trans (by kernel_rfl) h)
end
noncomputable section
abbrev A_33 : List Ty := [(.pair (.int .i64) (.pair (.int .i64) (.pair (.int .i64) (.pair (.int .i64) (.pair (.int .i64) (.pair (.slice (.int .i64)) (.pair (.int .i64) .unit))))))), (.pair (.int .i64) (.pair (.int .i64) (.pair (.int .i64) (.pair (.int .i64) (.pair (.int .i64) (.pair (.slice (.int .i64)) (.pair (.int .i64) .unit)))))))]
abbrev R_33 : List Ty := [.bool]
noncomputable def sm_33 : Nat → Option Summ := smL [(52, s_52)]
noncomputable def F_33 (a0 : (Int × (Int × (Int × (Int × (Int × ((List Int) × (Int × Unit)))))))) (a1 : (Int × (Int × (Int × (Int × (Int × ((List Int) × (Int × Unit)))))))) : Option (Bool × Unit) :=
 bif a0.1 == a1.1 then bif a0.2.1 == a1.2.1 then bif a0.2.2.1 == a1.2.2.1 then bif a0.2.2.2.1 == a1.2.2.2.1 then bif a0.2.2.2.2.1 == a1.2.2.2.2.1 then bif a0.2.2.2.2.2.2.1 == a1.2.2.2.2.2.2.1 then gd (p_52 (a0.2.2.2.2.2.1) (a1.2.2.2.2.2.1)) (some ((v_52 (a0.2.2.2.2.2.1) (a1.2.2.2.2.2.1)).1, PUnit.unit)) else some (false, PUnit.unit) else some (false, PUnit.unit) else some (false, PUnit.unit) else some (false, PUnit.unit) else some (false, PUnit.unit) else some (false, PUnit.unit)
noncomputable def Sp.p_33 (a0 : (Int × (Int × (Int × (Int × (Int × ((List Int) × (Int × Unit)))))))) (a1 : (Int × (Int × (Int × (Int × (Int × ((List Int) × (Int × Unit)))))))) : Bool := (F_33 a0 a1).isSome
noncomputable def Sp.v_33 (a0 : (Int × (Int × (Int × (Int × (Int × ((List Int) × (Int × Unit)))))))) (a1 : (Int × (Int × (Int × (Int × (Int × ((List Int) × (Int × Unit)))))))) : Bool × Unit := (F_33 a0 a1).getD (dfH R_33)
noncomputable def s_33 : Summ := shN A_33 R_33 (fun x => p_33 x.1 x.2.1) (fun x => v_33 x.1 x.2.1)
theorem pv_33 (a0 : (Int × (Int × (Int × (Int × (Int × ((List Int) × (Int × Unit)))))))) (a1 : (Int × (Int × (Int × (Int × (Int × ((List Int) × (Int × Unit)))))))) {y : Bool × Unit} (h : F_33 a0 a1 = some y) : p_33 a0 a1 = true ∧ v_33 a0 a1 = y := pvG h
theorem run_33 (x : HDen A_33) (y : HDen R_33) (h : F_33 x.1 x.2.1 = some y) : rnF sm_33 1 33 A_33 R_33 x y := runG noO_ok (os := []) trivial (Eq.trans (by kernel_rfl) h)
end
noncomputable section
abbrev Zy11_0 : Ty := (.pair (.slice (.pair (.int .i64) (.pair (.int .i64) (.pair (.int .i64) (.pair (.int .i64) (.pair (.int .i64) (.pair (.int .i64) (.pair .bool (.pair (.int .i64) .unit))))))))) (.pair (.slice (.pair (.int .i64) (.pair (.int .i64) (.pair (.int .i64) (.pair (.int .i64) (.pair (.int .i64) (.pair (.slice (.int .i64)) (.pair (.int .i64) .unit)))))))) (.pair (.int .i64) (.pair .bool .unit))))
abbrev Zt11_1 : Type := List (Int × Int × Int × Int × Int × Int × Bool × Int × Unit) × List (Int × Int × Int × Int × Int × List Int × Int × Unit) × Int × Bool × Unit
abbrev A_11 : List Ty := [(.pair (.slice (.pair (.int .i64) (.pair (.int .i64) (.pair (.int .i64) (.pair (.int .i64) (.pair (.int .i64) (.pair (.int .i64) (.pair .bool (.pair (.int .i64) .unit))))))))) (.pair (.slice (.pair (.int .i64) (.pair (.int .i64) (.pair (.int .i64) (.pair (.int .i64) (.pair (.int .i64) (.pair (.slice (.int .i64)) (.pair (.int .i64) .unit)))))))) (.pair (.int .i64) (.pair .bool .unit)))), (.pair (.slice (.pair (.int .i64) (.pair (.int .i64) (.pair (.int .i64) (.pair (.int .i64) (.pair (.int .i64) (.pair (.int .i64) (.pair .bool (.pair (.int .i64) .unit))))))))) (.pair (.slice (.pair (.int .i64) (.pair (.int .i64) (.pair (.int .i64) (.pair (.int .i64) (.pair (.int .i64) (.pair (.slice (.int .i64)) (.pair (.int .i64) .unit)))))))) (.pair (.int .i64) (.pair .bool .unit))))]
abbrev R_11 : List Ty := [.bool]
noncomputable def sm_11 : Nat → Option Summ := smL [(33, s_33)]
noncomputable def T_11_0 : PS := ⟨74, [(2, .kc (.ptr 0 [])), (3, .kc (.ptr 1 [])), (5, .hv (.int .i64))], [.mem (.hv Zy11_0), .mem (.hv Zy11_0)], 0⟩
inductive Sp.E_11_0 where
 | e0
 | e1 (p1 p2 : Zt11_1)
noncomputable def Sp.B_11_0 {R : Type} (r : Option E_11_0) (k0 : Option R) (k1 : Zt11_1 → Zt11_1 → Option R) : Option R := match r with
 | none => none
 | some (.e0) => k0
 | some (.e1 p1 p2) => k1 p1 p2
noncomputable def Y_11_0 {R : Type} (k : Ex → St → Option R) : E_11_0 → Option R
 | .e0 => k Ex.ret (sx 74 [(4, CV.bool false)] [])
 | .e1 p1 p2 => k (Ex.exit 0) (sx 74 [(2, CV.ptr 0 []), (3, CV.ptr 1 [])] [Blk.mem (CV.pure (Ty.pair (Ty.slice (Ty.pair (Ty.int i64) (Ty.pair (Ty.int i64) (Ty.pair (Ty.int i64) (Ty.pair (Ty.int i64) (Ty.pair (Ty.int i64) (Ty.pair (Ty.int i64) (Ty.pair Ty.bool (Ty.pair (Ty.int i64) Ty.unit))))))))) (Ty.pair (Ty.slice (Ty.pair (Ty.int i64) (Ty.pair (Ty.int i64) (Ty.pair (Ty.int i64) (Ty.pair (Ty.int i64) (Ty.pair (Ty.int i64) (Ty.pair (Ty.slice (Ty.int i64)) (Ty.pair (Ty.int i64) Ty.unit)))))))) (Ty.pair (Ty.int i64) (Ty.pair Ty.bool Ty.unit)))) p1), Blk.mem (CV.pure (Ty.pair (Ty.slice (Ty.pair (Ty.int i64) (Ty.pair (Ty.int i64) (Ty.pair (Ty.int i64) (Ty.pair (Ty.int i64) (Ty.pair (Ty.int i64) (Ty.pair (Ty.int i64) (Ty.pair Ty.bool (Ty.pair (Ty.int i64) Ty.unit))))))))) (Ty.pair (Ty.slice (Ty.pair (Ty.int i64) (Ty.pair (Ty.int i64) (Ty.pair (Ty.int i64) (Ty.pair (Ty.int i64) (Ty.pair (Ty.int i64) (Ty.pair (Ty.slice (Ty.int i64)) (Ty.pair (Ty.int i64) Ty.unit)))))))) (Ty.pair (Ty.int i64) (Ty.pair Ty.bool Ty.unit)))) p2)])
noncomputable def Sp.S_11_0 {R : Type} (K : Int → (List (Int × Int × Int × Int × Int × Int × Bool × Int × Unit) × List (Int × Int × Int × Int × Int × List Int × Int × Unit) × Int × Bool × Unit) → (List (Int × Int × Int × Int × Int × Int × Bool × Int × Unit) × List (Int × Int × Int × Int × Int × List Int × Int × Unit) × Int × Bool × Unit) → Option R) (k : E_11_0 → Option R) (p0 : Int) (p1 p2 : List (Int × Int × Int × Int × Int × Int × Bool × Int × Unit) × List (Int × Int × Int × Int × Int × List Int × Int × Unit) × Int × Bool × Unit) : Option R :=
 bif decide (p0 < (↑(length (p1.1)) : Int)) then gd (inB p0 (length (p1.1))) (gd (inB p0 (length (p2.1))) (bif !Ty.beq (Ty.pair (Ty.int i64) (Ty.pair (Ty.int i64) (Ty.pair (Ty.int i64) (Ty.pair (Ty.int i64) (Ty.pair (Ty.int i64) (Ty.pair (Ty.int i64) (Ty.pair Ty.bool (Ty.pair (Ty.int i64) Ty.unit)))))))) (getD (p1.1) (toNat p0) Zd1) (getD (p2.1) (toNat p0) Zd1) then k (E_11_0.e0) else K (wrap i64 (p0 + 1)) p1 p2)) else k (E_11_0.e1 p1 p2)
noncomputable def Sp.L_11_0 : Nat → Int → (List (Int × Int × Int × Int × Int × Int × Bool × Int × Unit) × List (Int × Int × Int × Int × Int × List Int × Int × Unit) × Int × Bool × Unit) → (List (Int × Int × Int × Int × Int × Int × Bool × Int × Unit) × List (Int × Int × Int × Int × Int × List Int × Int × Unit) × Int × Bool × Unit) → Option E_11_0
 | 0, _, _, _ => none
 | m + 1, p0, p1, p2 => S_11_0 (L_11_0 m) some p0 p1 p2
noncomputable def l_11_0 (m : Nat) (a : T_11_0.E) : Option E_11_0 := L_11_0 m a.1 a.2.1 a.2.2.1
noncomputable def O_11_0 {R : Type} : Orc R := orL T_11_0 (l_11_0 FU) Y_11_0
theorem OK_11_0 {R : Type} : okF (R := R) sm_11 0 (nf 11 0) O_11_0 := lp0 T_11_0 l_11_0 (fun R K k a => S_11_0 (fun p0 p1 p2 => K (p0, p1, p2, ())) k a.1 a.2.1 a.2.2.1) Y_11_0 (fun _ _ _ => by kernel_rfl) (fun _ _ _ => by
 unfold S_11_0
 repeat' first | apply gdN | apply condN | rfl) (ok0 _)
noncomputable def T_11_1 : PS := ⟨74, [(2, .kc (.ptr 0 [])), (3, .kc (.ptr 1 [])), (6, .hv (.int .i64))], [.mem (.hv Zy11_0), .mem (.hv Zy11_0)], 0⟩
inductive Sp.E_11_1 where
 | e0
 | e1
noncomputable def Sp.B_11_1 {R : Type} (r : Option E_11_1) (k0 k1 : Option R) : Option R := match r with
 | none => none
 | some (.e0) => k0
 | some (.e1) => k1
noncomputable def Y_11_1 {R : Type} (k : Ex → St → Option R) : E_11_1 → Option R
 | .e0 => k Ex.ret (sx 74 [(4, CV.bool false)] [])
 | .e1 => k (Ex.exit 2) (sx 74 [] [])
noncomputable def Sp.S_11_1 {R : Type} (K : Int → (List (Int × Int × Int × Int × Int × Int × Bool × Int × Unit) × List (Int × Int × Int × Int × Int × List Int × Int × Unit) × Int × Bool × Unit) → (List (Int × Int × Int × Int × Int × Int × Bool × Int × Unit) × List (Int × Int × Int × Int × Int × List Int × Int × Unit) × Int × Bool × Unit) → Option R) (k : E_11_1 → Option R) (p0 : Int) (p1 p2 : List (Int × Int × Int × Int × Int × Int × Bool × Int × Unit) × List (Int × Int × Int × Int × Int × List Int × Int × Unit) × Int × Bool × Unit) : Option R :=
 bif decide (p0 < (↑(length (p1.2.1)) : Int)) then gd (inB p0 (length (p1.2.1))) (gd (inB p0 (length (p2.2.1))) (gd (p_33 (getD (p1.2.1) (toNat p0) Zd2) (getD (p2.2.1) (toNat p0) Zd2)) (bif !(v_33 (getD (p1.2.1) (toNat p0) Zd2) (getD (p2.2.1) (toNat p0) Zd2)).1 then k (E_11_1.e0) else K (wrap i64 (p0 + 1)) p1 p2))) else k (E_11_1.e1)
noncomputable def Sp.L_11_1 : Nat → Int → (List (Int × Int × Int × Int × Int × Int × Bool × Int × Unit) × List (Int × Int × Int × Int × Int × List Int × Int × Unit) × Int × Bool × Unit) → (List (Int × Int × Int × Int × Int × Int × Bool × Int × Unit) × List (Int × Int × Int × Int × Int × List Int × Int × Unit) × Int × Bool × Unit) → Option E_11_1
 | 0, _, _, _ => none
 | m + 1, p0, p1, p2 => S_11_1 (L_11_1 m) some p0 p1 p2
noncomputable def l_11_1 (m : Nat) (a : T_11_1.E) : Option E_11_1 := L_11_1 m a.1 a.2.1 a.2.2.1
noncomputable def O_11_1 {R : Type} : Orc R := orL T_11_1 (l_11_1 FU) Y_11_1
theorem OK_11_1 {R : Type} : okF (R := R) sm_11 0 (nf 11 1) O_11_1 := lp0 T_11_1 l_11_1 (fun R K k a => S_11_1 (fun p0 p1 p2 => K (p0, p1, p2, ())) k a.1 a.2.1 a.2.2.1) Y_11_1 (fun _ _ _ => by kernel_rfl) (fun _ _ _ => by
 unfold S_11_1
 repeat' first | apply gdN | apply condN | rfl) (ok0 _)
noncomputable def F_11 (a0 : ((List (Int × (Int × (Int × (Int × (Int × (Int × (Bool × (Int × Unit))))))))) × ((List (Int × (Int × (Int × (Int × (Int × ((List Int) × (Int × Unit)))))))) × (Int × (Bool × Unit))))) (a1 : ((List (Int × (Int × (Int × (Int × (Int × (Int × (Bool × (Int × Unit))))))))) × ((List (Int × (Int × (Int × (Int × (Int × ((List Int) × (Int × Unit)))))))) × (Int × (Bool × Unit))))) : Option (Bool × Unit) :=
 bif (↑(length (a0.1)) : Int) != (↑(length (a1.1)) : Int) then some (false, PUnit.unit) else bif (↑(length (a0.2.1)) : Int) != (↑(length (a1.2.1)) : Int) then some (false, PUnit.unit) else bif a0.2.2.1 != a1.2.2.1 then some (false, PUnit.unit) else bif !a0.2.2.2.1 == a1.2.2.2.1 then some (false, PUnit.unit) else B_11_0 (L_11_0 4611686018427387904 0 a0 a1) (some (false, PUnit.unit)) fun y2 y3 => B_11_1 (L_11_1 4611686018427387904 0 y2 y3) (some (false, PUnit.unit)) (some (true, PUnit.unit))
noncomputable def Sp.p_11 (a0 : ((List (Int × (Int × (Int × (Int × (Int × (Int × (Bool × (Int × Unit))))))))) × ((List (Int × (Int × (Int × (Int × (Int × ((List Int) × (Int × Unit)))))))) × (Int × (Bool × Unit))))) (a1 : ((List (Int × (Int × (Int × (Int × (Int × (Int × (Bool × (Int × Unit))))))))) × ((List (Int × (Int × (Int × (Int × (Int × ((List Int) × (Int × Unit)))))))) × (Int × (Bool × Unit))))) : Bool := (F_11 a0 a1).isSome
noncomputable def Sp.v_11 (a0 : ((List (Int × (Int × (Int × (Int × (Int × (Int × (Bool × (Int × Unit))))))))) × ((List (Int × (Int × (Int × (Int × (Int × ((List Int) × (Int × Unit)))))))) × (Int × (Bool × Unit))))) (a1 : ((List (Int × (Int × (Int × (Int × (Int × (Int × (Bool × (Int × Unit))))))))) × ((List (Int × (Int × (Int × (Int × (Int × ((List Int) × (Int × Unit)))))))) × (Int × (Bool × Unit))))) : Bool × Unit := (F_11 a0 a1).getD (dfH R_11)
noncomputable def s_11 : Summ := shN A_11 R_11 (fun x => p_11 x.1 x.2.1) (fun x => v_11 x.1 x.2.1)
theorem pv_11 (a0 : ((List (Int × (Int × (Int × (Int × (Int × (Int × (Bool × (Int × Unit))))))))) × ((List (Int × (Int × (Int × (Int × (Int × ((List Int) × (Int × Unit)))))))) × (Int × (Bool × Unit))))) (a1 : ((List (Int × (Int × (Int × (Int × (Int × (Int × (Bool × (Int × Unit))))))))) × ((List (Int × (Int × (Int × (Int × (Int × ((List Int) × (Int × Unit)))))))) × (Int × (Bool × Unit))))) {y : Bool × Unit} (h : F_11 a0 a1 = some y) : p_11 a0 a1 = true ∧ v_11 a0 a1 = y := pvG h
theorem run_11 (x : HDen A_11) (y : HDen R_11) (h : F_11 x.1 x.2.1 = some y) : rnF sm_11 1 11 A_11 R_11 x y := runG noO_ok (os := [O_11_0, O_11_1]) ⟨OK_11_0, OK_11_1, trivial⟩ (Eq.trans (by kernel_rfl) h)
end
noncomputable section
abbrev Zy3_0 : Ty := (.pair (.slice (.pair (.int .i64) (.pair (.int .i64) (.pair (.int .i64) (.pair (.int .i64) (.pair (.int .i64) (.pair (.int .i64) (.pair .bool (.pair (.int .i64) .unit))))))))) (.pair (.slice (.pair (.int .i64) (.pair (.int .i64) (.pair (.int .i64) (.pair (.int .i64) (.pair (.int .i64) (.pair (.slice (.int .i64)) (.pair (.int .i64) .unit)))))))) (.pair (.int .i64) (.pair .bool .unit))))
abbrev Zy3_1 : Ty := (.pair (.pair (.slice (.int .u32)) (.pair (.slice (.int .i64)) (.pair (.int .i64) .unit))) (.pair (.int .i64) (.pair (.int .i64) .unit)))
abbrev A_3 : List Ty := [(.pair (.slice (.int .u32)) (.pair (.slice (.int .i64)) (.pair (.int .i64) .unit))), (.int .i64), (.int .i64), (.slice (.pair (.int .i64) (.pair (.int .i64) (.pair (.int .i64) (.pair (.int .i64) (.pair (.int .i64) (.pair (.int .i64) (.pair .bool (.pair (.int .i64) .unit)))))))))]
abbrev R_3 : List Ty := [.bool]
noncomputable def sm_3 : Nat → Option Summ := smL [(4, s_4), (5, s_5), (6, s_6), (7, s_7), (8, s_8), (9, s_9), (10, s_10), (11, s_11)]
noncomputable def T_3_1 : PS := ⟨104, [(9, .kc (.ptr 0 [])), (10, .kc (.ptr 1 [])), (11, .hv (.int .i64)), (12, .kc (.ptr 2 [])), (13, .hv (.int .i64)), (14, .kc (.ptr 3 []))], [.mem (.hv Zy3_1), .mem (.hv Zy3_0), .mem (.hv Zy3_1), .mem (.hv Zy3_0)], 0⟩
inductive Sp.E_3_1 where
 | e0 (p0 p1 : Int)
 | e1
 | e2 (p0 : Int)
noncomputable def Sp.B_3_1 {R : Type} (r : Option E_3_1) (k0 : Int → Int → Option R) (k1 : Option R) (k2 : Int → Option R) : Option R := match r with
 | none => none
 | some (.e0 p0 p1) => k0 p0 p1
 | some (.e1) => k1
 | some (.e2 p0) => k2 p0
theorem Bn_3_1 {A R : Type} {r : Option E_3_1} {f : A → Option R} {k0 : Int → Int → Option A} {k1 : Option A} {k2 : Int → Option A} {l0 : Int → Int → Option R} {l1 : Option R} {l2 : Int → Option R} (h0 : ∀ p0 p1, (k0 p0 p1).bind f = l0 p0 p1) (h1 : (k1).bind f = l1) (h2 : ∀ p0, (k2 p0).bind f = l2 p0) : (B_3_1 r k0 k1 k2).bind f = B_3_1 r l0 l1 l2 := by
 cases r with
 | none => rfl
 | some e => cases e <;> first | apply h0 | apply h1 | apply h2
noncomputable def Y_3_1 {R : Type} (k : Ex → St → Option R) : E_3_1 → Option R
 | .e0 p0 p1 => k Ex.ret (sx 104 [(8, CV.bool (p0 == p1))] [])
 | .e1 => k Ex.ret (sx 104 [(8, CV.bool false)] [])
 | .e2 p0 => k Ex.ret (sx 104 [(8, CV.bool (p0 == 0))] [])
noncomputable def Sp.S_3_1 {R : Type} (k : E_3_1 → Option R) (p0 p1 : Int) (p2 : (List Int × List Int × Int × Unit) × Int × Int × Unit) (p3 : List (Int × Int × Int × Int × Int × Int × Bool × Int × Unit) × List (Int × Int × Int × Int × Int × List Int × Int × Unit) × Int × Bool × Unit) (p4 : (List Int × List Int × Int × Unit) × Int × Int × Unit) (p5 : List (Int × Int × Int × Int × Int × Int × Bool × Int × Unit) × List (Int × Int × Int × Int × Int × List Int × Int × Unit) × Int × Bool × Unit) : Option R :=
 bif p1 != 0 then gd (p_10 p2 (([], [], 0, PUnit.unit), 0, 0, PUnit.unit)) (bif (v_10 p2 (([], [], 0, PUnit.unit), 0, 0, PUnit.unit)).1 then bif (↑(length (p3.2.1)) : Int) == 0 then bif (↑(length (p3.1)) : Int) == 0 then k (E_3_1.e0 p0 p1) else k (E_3_1.e1) else k (E_3_1.e1) else k (E_3_1.e1)) else gd (p_10 p2 p4) (bif (v_10 p2 p4).1 then gd (p_11 p3 p5) (bif (v_11 p3 p5).1 then k (E_3_1.e2 p0) else k (E_3_1.e1)) else k (E_3_1.e1))
noncomputable def Sp.J_3_1 (p0 p1 : Int) (p2 : (List Int × List Int × Int × Unit) × Int × Int × Unit) (p3 : List (Int × Int × Int × Int × Int × Int × Bool × Int × Unit) × List (Int × Int × Int × Int × Int × List Int × Int × Unit) × Int × Bool × Unit) (p4 : (List Int × List Int × Int × Unit) × Int × Int × Unit) (p5 : List (Int × Int × Int × Int × Int × Int × Bool × Int × Unit) × List (Int × Int × Int × Int × Int × List Int × Int × Unit) × Int × Bool × Unit) : Option E_3_1 := S_3_1 some p0 p1 p2 p3 p4 p5
noncomputable def O_3_1 {R : Type} : Orc R := orL T_3_1 (fun a => J_3_1 a.1 a.2.1 a.2.2.1 a.2.2.2.1 a.2.2.2.2.1 a.2.2.2.2.2.1) Y_3_1
theorem OK_3_1 {R : Type} : okF (R := R) sm_3 0 (ni (nf 3 0) 0) O_3_1 := jp noO_ok (os := []) trivial T_3_1 (fun R k a => S_3_1 k a.1 a.2.1 a.2.2.1 a.2.2.2.1 a.2.2.2.2.1 a.2.2.2.2.2.1) Y_3_1 (fun k a => by kernel_rfl) (fun Y a => by
 unfold S_3_1
 repeat' first | apply gdN | apply condN | rfl) (ok0 _)
noncomputable def T_3_1_1 : PS := ⟨104, [(9, .kc (.ptr 0 [])), (10, .kc (.ptr 1 [])), (11, .hv (.int .i64)), (12, .kc (.ptr 2 [])), (13, .hv (.int .i64)), (14, .kc (.ptr 3 []))], [.mem (.hv Zy3_1), .mem (.hv Zy3_0), .mem (.hv Zy3_1), .mem (.pr (.kc (.whole 4)) (.pr (.kc (.whole 5)) (.hv (.pair (.int .i64) (.pair .bool .unit))))), .vec 71 (.pair (.int .i64) (.pair (.int .i64) (.pair (.int .i64) (.pair (.int .i64) (.pair (.int .i64) (.pair (.int .i64) (.pair .bool (.pair (.int .i64) .unit)))))))), .vec 52 (.pair (.int .i64) (.pair (.int .i64) (.pair (.int .i64) (.pair (.int .i64) (.pair (.int .i64) (.pair (.slice (.int .i64)) (.pair (.int .i64) .unit)))))))], 0⟩
inductive Sp.E_3_1_1 where
 | e0 (p0 p1 : Int)
 | e1
 | e2 (p0 : Int)
noncomputable def Sp.B_3_1_1 {R : Type} (r : Option E_3_1_1) (k0 : Int → Int → Option R) (k1 : Option R) (k2 : Int → Option R) : Option R := match r with
 | none => none
 | some (.e0 p0 p1) => k0 p0 p1
 | some (.e1) => k1
 | some (.e2 p0) => k2 p0
theorem Bn_3_1_1 {A R : Type} {r : Option E_3_1_1} {f : A → Option R} {k0 : Int → Int → Option A} {k1 : Option A} {k2 : Int → Option A} {l0 : Int → Int → Option R} {l1 : Option R} {l2 : Int → Option R} (h0 : ∀ p0 p1, (k0 p0 p1).bind f = l0 p0 p1) (h1 : (k1).bind f = l1) (h2 : ∀ p0, (k2 p0).bind f = l2 p0) : (B_3_1_1 r k0 k1 k2).bind f = B_3_1_1 r l0 l1 l2 := by
 cases r with
 | none => rfl
 | some e => cases e <;> first | apply h0 | apply h1 | apply h2
noncomputable def Y_3_1_1 {R : Type} (k : Ex → St → Option R) : E_3_1_1 → Option R
 | .e0 p0 p1 => k Ex.ret (sx 104 [(8, CV.bool (p0 == p1))] [])
 | .e1 => k Ex.ret (sx 104 [(8, CV.bool false)] [])
 | .e2 p0 => k Ex.ret (sx 104 [(8, CV.bool (p0 == 0))] [])
noncomputable def Sp.S_3_1_1 {R : Type} (k : E_3_1_1 → Option R) (p0 p1 : Int) (p2 : (List Int × List Int × Int × Unit) × Int × Int × Unit) (p3 : List (Int × Int × Int × Int × Int × Int × Bool × Int × Unit) × List (Int × Int × Int × Int × Int × List Int × Int × Unit) × Int × Bool × Unit) (p4 : (List Int × List Int × Int × Unit) × Int × Int × Unit) (p5 : Int × Bool × Unit) (p6 : List (Int × Int × Int × Int × Int × Int × Bool × Int × Unit)) (p7 : List (Int × Int × Int × Int × Int × List Int × Int × Unit)) : Option R :=
 bif p1 != 0 then gd (p_10 p2 (([], [], 0, PUnit.unit), 0, 0, PUnit.unit)) (bif (v_10 p2 (([], [], 0, PUnit.unit), 0, 0, PUnit.unit)).1 then bif (↑(length (p3.2.1)) : Int) == 0 then bif (↑(length (p3.1)) : Int) == 0 then k (E_3_1_1.e0 p0 p1) else k (E_3_1_1.e1) else k (E_3_1_1.e1) else k (E_3_1_1.e1)) else gd (p_10 p2 p4) (bif (v_10 p2 p4).1 then gd (p_11 p3 (p6, p7, p5)) (bif (v_11 p3 (p6, p7, p5)).1 then k (E_3_1_1.e2 p0) else k (E_3_1_1.e1)) else k (E_3_1_1.e1))
noncomputable def Sp.J_3_1_1 (p0 p1 : Int) (p2 : (List Int × List Int × Int × Unit) × Int × Int × Unit) (p3 : List (Int × Int × Int × Int × Int × Int × Bool × Int × Unit) × List (Int × Int × Int × Int × Int × List Int × Int × Unit) × Int × Bool × Unit) (p4 : (List Int × List Int × Int × Unit) × Int × Int × Unit) (p5 : Int × Bool × Unit) (p6 : List (Int × Int × Int × Int × Int × Int × Bool × Int × Unit)) (p7 : List (Int × Int × Int × Int × Int × List Int × Int × Unit)) : Option E_3_1_1 := S_3_1_1 some p0 p1 p2 p3 p4 p5 p6 p7
noncomputable def O_3_1_1 {R : Type} : Orc R := orL T_3_1_1 (fun a => J_3_1_1 a.1 a.2.1 a.2.2.1 a.2.2.2.1 a.2.2.2.2.1 a.2.2.2.2.2.1 a.2.2.2.2.2.2.1 a.2.2.2.2.2.2.2.1) Y_3_1_1 O_3_1
theorem OK_3_1_1 {R : Type} : okF (R := R) sm_3 0 (ni (nf 3 0) 0) O_3_1_1 := jp noO_ok (os := []) trivial T_3_1_1 (fun R k a => S_3_1_1 k a.1 a.2.1 a.2.2.1 a.2.2.2.1 a.2.2.2.2.1 a.2.2.2.2.2.1 a.2.2.2.2.2.2.1 a.2.2.2.2.2.2.2.1) Y_3_1_1 (fun k a => by kernel_rfl) (fun Y a => by
 unfold S_3_1_1
 repeat' first | apply gdN | apply condN | rfl) OK_3_1
noncomputable def T_3_0 : PS := ⟨104, [(3, .hv (.slice (.pair (.int .i64) (.pair (.int .i64) (.pair (.int .i64) (.pair (.int .i64) (.pair (.int .i64) (.pair (.int .i64) (.pair .bool (.pair (.int .i64) .unit)))))))))), (9, .kc (.ptr 0 [])), (10, .kc (.ptr 1 [])), (11, .hv (.int .i64)), (12, .kc (.ptr 2 [])), (13, .hv (.int .i64))], [.mem (.hv Zy3_1), .mem (.hv Zy3_0), .mem (.hv Zy3_1)], 0⟩
inductive Sp.E_3_0 where
 | e0 (y6 y7 : Int)
 | e1
 | e2 (y8 : Int)
noncomputable def Sp.B_3_0 {R : Type} (r : Option E_3_0) (k0 : Int → Int → Option R) (k1 : Option R) (k2 : Int → Option R) : Option R := match r with
 | none => none
 | some (.e0 y6 y7) => k0 y6 y7
 | some (.e1) => k1
 | some (.e2 y8) => k2 y8
noncomputable def Y_3_0 {R : Type} (k : Ex → St → Option R) : E_3_0 → Option R
 | .e0 y6 y7 => k Ex.ret (sx 104 [(8, CV.bool (y6 == y7))] [])
 | .e1 => k Ex.ret (sx 104 [(8, CV.bool false)] [])
 | .e2 y8 => k Ex.ret (sx 104 [(8, CV.bool (y8 == 0))] [])
noncomputable def Sp.S_3_0 {R : Type} (k : E_3_0 → Option R) (p0 : List (Int × Int × Int × Int × Int × Int × Bool × Int × Unit)) (p1 p2 : Int) (p3 : (List Int × List Int × Int × Unit) × Int × Int × Unit) (p4 : List (Int × Int × Int × Int × Int × Int × Bool × Int × Unit) × List (Int × Int × Int × Int × Int × List Int × Int × Unit) × Int × Bool × Unit) (p5 : (List Int × List Int × Int × Unit) × Int × Int × Unit) : Option R :=
 bif p2 == 0 then gd (p_9 p5 p0) (B_3_1 (J_3_1 p1 ((v_9 p5 p0).2.1) p3 p4 p5 ((v_9 p5 p0).1)) (fun y6 y7 => k (E_3_0.e0 y6 y7)) (k (E_3_0.e1)) fun y8 => k (E_3_0.e2 y8)) else B_3_1_1 (J_3_1_1 p1 p2 p3 p4 p5 (0, false, PUnit.unit) [] []) (fun y9 y10 => k (E_3_0.e0 y9 y10)) (k (E_3_0.e1)) fun y11 => k (E_3_0.e2 y11)
noncomputable def Sp.J_3_0 (p0 : List (Int × Int × Int × Int × Int × Int × Bool × Int × Unit)) (p1 p2 : Int) (p3 : (List Int × List Int × Int × Unit) × Int × Int × Unit) (p4 : List (Int × Int × Int × Int × Int × Int × Bool × Int × Unit) × List (Int × Int × Int × Int × Int × List Int × Int × Unit) × Int × Bool × Unit) (p5 : (List Int × List Int × Int × Unit) × Int × Int × Unit) : Option E_3_0 := S_3_0 some p0 p1 p2 p3 p4 p5
noncomputable def O_3_0 {R : Type} : Orc R := orL T_3_0 (fun a => J_3_0 a.1 a.2.1 a.2.2.1 a.2.2.2.1 a.2.2.2.2.1 a.2.2.2.2.2.1) Y_3_0
theorem OK_3_0 {R : Type} : okF (R := R) sm_3 0 (nf 3 0) O_3_0 := jp noO_ok (os := [O_3_1_1]) ⟨OK_3_1_1, trivial⟩ T_3_0 (fun R k a => S_3_0 k a.1 a.2.1 a.2.2.1 a.2.2.2.1 a.2.2.2.2.1 a.2.2.2.2.2.1) Y_3_0 (fun k a => by kernel_rfl) (fun Y a => by
 unfold S_3_0
 repeat' first | apply gdN | apply condN | (apply Bn_3_1 <;> intros) | (apply Bn_3_1_1 <;> intros) | rfl) (ok0 _)
noncomputable def F_3 (a0 : ((List Int) × ((List Int) × (Int × Unit)))) (a1 a2 : Int) (a3 : (List (Int × (Int × (Int × (Int × (Int × (Int × (Bool × (Int × Unit)))))))))) : Option (Bool) :=
 gd p_4 (bif !v_4.1 then gd p_4 (some (v_4.1)) else bif decide ((↑(length (a0.1)) : Int) > 1024) then gd p_4 (some (v_4.1)) else bif decide ((↑(length (a0.2.1)) : Int) > 16) then gd p_4 (some (v_4.1)) else bif decide ((↑(length a3) : Int) > 70) then gd p_4 (some (v_4.1)) else gd (p_5 a0 a1 a2 a3) (gd (p_6 a0 a1 a2) (bif (v_6 a0 a1 a2).2.1 == 7 then gd p_8 (gd (p_7 a0 a1 a2 (v_8.1)) (B_3_0 (J_3_0 a3 ((v_5 a0 a1 a2 a3).2.2.1) ((v_7 a0 a1 a2 (v_8.1)).2.2.1) ((v_5 a0 a1 a2 a3).1) ((v_5 a0 a1 a2 a3).2.1) ((v_7 a0 a1 a2 (v_8.1)).1)) (fun y26 y27 => some (y26 == y27)) (some false) fun y28 => some (y28 == 0))) else B_3_0 (J_3_0 a3 ((v_5 a0 a1 a2 a3).2.2.1) ((v_6 a0 a1 a2).2.1) ((v_5 a0 a1 a2 a3).1) ((v_5 a0 a1 a2 a3).2.1) ((v_6 a0 a1 a2).1)) (fun y29 y30 => some (y29 == y30)) (some false) fun y31 => some (y31 == 0))))
theorem run_3 (a0 : ((List Int) × ((List Int) × (Int × Unit)))) (a1 a2 : Int) (a3 : (List (Int × (Int × (Int × (Int × (Int × (Int × (Bool × (Int × Unit)))))))))) {b : Bool} (h : F_3 a0 a1 a2 a3 = some b) : evFn sm_3 fns FU 1 3 (ofH A_3 (a0, a1, a2, a3, ())) [] bk = some b := runG noO_ok (os := [O_3_0]) ⟨OK_3_0, trivial⟩ (Eq.trans (by kernel_rfl) h)
end
end Go.Ev
namespace Go.Proofs
open Go.Shelf
noncomputable def Try.clone40_ren : Go.Shelf.Ren := ⟨fun | 41 => 40 | n => n, fun | 22 => 22 | 23 => 38 | 4 => 4 | n => n, fun | n => n⟩
theorem Try.clone40 : Go.Proofs.SlLaysE0.n41 Try.prog Try.clone40_ren := {
 mixed := by kernel_rfl
 f41 := ⟨Try.f40.name, by decide, Try.func40.trans (congrArg some (by kernel_rfl))⟩
 t4 := Try.underlying4
 a4 := Try.isAgg4
 z4 := Try.sizeOf4
 v4 := Try.zeroValue4
 t22 := Try.underlying22
 a22 := Try.isAgg22
 z22 := Try.sizeOf22
 v22 := Try.zeroValue22 }
noncomputable def Try.clone41_ren : Go.Shelf.Ren := ⟨fun | 41 => 41 | n => n, fun | 22 => 23 | 23 => 3 | 4 => 4 | n => n, fun | n => n⟩
theorem Try.clone41 : Go.Proofs.SlLaysE0.n41 Try.prog Try.clone41_ren := {
 mixed := by kernel_rfl
 f41 := ⟨Try.f41.name, by decide, Try.func41.trans (congrArg some (by kernel_rfl))⟩
 t4 := Try.underlying4
 a4 := Try.isAgg4
 z4 := Try.sizeOf4
 v4 := Try.zeroValue4
 t22 := Try.underlying23
 a22 := Try.isAgg23
 z22 := Try.sizeOf23
 v22 := Try.zeroValue23 }
noncomputable def Try.clone48_ren : Go.Shelf.Ren := ⟨fun | 41 => 48 | n => n, fun | 22 => 26 | 23 => 71 | 4 => 4 | n => n, fun | n => n⟩
theorem Try.clone48 : Go.Proofs.SlLaysE0.n41 Try.prog Try.clone48_ren := {
 mixed := by kernel_rfl
 f41 := ⟨Try.f48.name, by decide, Try.func48.trans (congrArg some (by kernel_rfl))⟩
 t4 := Try.underlying4
 a4 := Try.isAgg4
 z4 := Try.sizeOf4
 v4 := Try.zeroValue4
 t22 := Try.underlying26
 a22 := Try.isAgg26
 z22 := Try.sizeOf26
 v22 := Try.zeroValue26 }
end Go.Proofs
namespace Go.Ev
open Go Go.Proofs Go.RowKit
set_option maxRecDepth 100000
set_option maxHeartbeats 4000000
theorem info40 : ∃ i, Try.prog.info? 38 = some i ∧ i.zero = some (.int .u32 0) ∧ i.size = 1 ∧ i.bytes = 4 := ⟨_, rfl, by kernel_rfl, by kernel_rfl, by kernel_rfl⟩
theorem sok_40 : SummOK Try.prog 40 (vecS (.int .u32) 38 4) := by
 obtain ⟨i, hi, h0, h1, h2⟩ := info40
 exact clone_vec (by kernel_rfl) (by decide)
   (fun b off n c news w hl hn hb hc h3 => AnyE.slices_Clone Try.clone40 i _ 1 4 hi h0 h1 h2 (by kernel_rfl) (by decide) Try.sizeOf38 b off n c news w hl hn hb hc h3)
   (fun n c w => AnyE.slices_Clone_nil Try.clone40 n c w)
   (fun a c w => clone_zero Try.clone40 i _ 1 4 hi h0 h1 h2 (by kernel_rfl) (by decide) Try.sizeOf38 a c w)
theorem info41 : ∃ i, Try.prog.info? 3 = some i ∧ i.zero = some (.int .i64 0) ∧ i.size = 1 ∧ i.bytes = 8 := ⟨_, rfl, by kernel_rfl, by kernel_rfl, by kernel_rfl⟩
theorem sok_41 : SummOK Try.prog 41 (vecS (.int .i64) 3 8) := by
 obtain ⟨i, hi, h0, h1, h2⟩ := info41
 exact clone_vec (by kernel_rfl) (by decide)
   (fun b off n c news w hl hn hb hc h3 => AnyE.slices_Clone Try.clone41 i _ 1 8 hi h0 h1 h2 (by kernel_rfl) (by decide) Try.sizeOf3 b off n c news w hl hn hb hc h3)
   (fun n c w => AnyE.slices_Clone_nil Try.clone41 n c w)
   (fun a c w => clone_zero Try.clone41 i _ 1 8 hi h0 h1 h2 (by kernel_rfl) (by decide) Try.sizeOf3 a c w)
theorem info48 : ∃ i, Try.prog.info? 71 = some i ∧ i.zero = some (.agg #[.int .i64 0, .int .i64 0, .int .i64 0, .int .i64 0, .int .i64 0, .int .i64 0, .bool false, .int .i64 0]) ∧ i.size = 8 ∧ i.bytes = 64 := ⟨_, rfl, by kernel_rfl, by kernel_rfl, by kernel_rfl⟩
theorem sok_48 : SummOK Try.prog 48 (vecS (.pair (.int .i64) (.pair (.int .i64) (.pair (.int .i64) (.pair (.int .i64) (.pair (.int .i64) (.pair (.int .i64) (.pair .bool (.pair (.int .i64) .unit)))))))) 71 64) := by
 obtain ⟨i, hi, h0, h1, h2⟩ := info48
 exact clone_vec (by kernel_rfl) (by decide)
   (fun b off n c news w hl hn hb hc h3 => AnyE.slices_Clone Try.clone48 i _ 8 64 hi h0 h1 h2 (by kernel_rfl) (by decide) Try.sizeOf71 b off n c news w hl hn hb hc h3)
   (fun n c w => AnyE.slices_Clone_nil Try.clone48 n c w)
   (fun a c w => clone_zero Try.clone48 i _ 8 64 hi h0 h1 h2 (by kernel_rfl) (by decide) Try.sizeOf71 a c w)
noncomputable def ins78_ren : Go.Shelf.Ren := ⟨fun | 22 => 78 | 29 => 80 | 30 => 81 | n => n, fun | 9 => 99 | 24 => 95 | n => n, fun | n => n⟩
theorem ins78_lay : InsL Try.prog ins78_ren (.agg #[.int .i64 0, .slice none 0 0]) 32 := {
 mixed := by kernel_rfl
 f22 := ⟨Try.f78.name, by decide, Try.func78.trans (congrArg some (by kernel_rfl))⟩
 f29 := ⟨_, Try.func80, by decide, by kernel_rfl, by kernel_rfl, by kernel_rfl⟩
 t0 := Try.underlying0
 a0 := Try.isAgg0
 z0 := Try.sizeOf0
 v0 := Try.zeroValue0
 t3 := Try.underlying3
 a3 := Try.isAgg3
 z3 := Try.sizeOf3
 v3 := Try.zeroValue3
 t4 := Try.underlying4
 a4 := Try.isAgg4
 z4 := Try.sizeOf4
 v4 := Try.zeroValue4
 t24 := Try.underlying95
 a24 := Try.isAgg95
 z24 := Try.sizeOf95
 v24 := Try.zeroValue95
 z9 := Try.sizeOf99
 i9 := by kernel_rfl
 c9 := by kernel_rfl }
theorem sok_78 : SummOK Try.prog 78 (insS (.pair (.int .i64) (.pair (.slice (.int .u32)) .unit)) 99 32) := ins_sum ins78_lay rfl rfl (by kernel_rfl) (by decide) (by decide)
theorem sok_34 : SummOK Try.prog 34 s_34 := sokN hm0 run_34 trivial
theorem sok_37 : SummOK Try.prog 37 s_37 := sokN hm0 run_37 trivial
theorem sok_12 : SummOK Try.prog 12 s_12 := sokS hm0 run_12 ⟨sok_34, sok_37, trivial⟩
theorem sok_13 : SummOK Try.prog 13 s_13 := sokN hm0 run_13 trivial
theorem sok_4 : SummOK Try.prog 4 s_4 := sokN hm0 run_4 ⟨sok_12, sok_13, trivial⟩
theorem sok_14 : SummOK Try.prog 14 s_14 := sokN hm0 run_14 trivial
theorem sok_15 : SummOK Try.prog 15 s_15 := sokS hm0 run_15 ⟨sok_40, sok_41, trivial⟩
theorem sok_16 : SummOK Try.prog 16 s_16 := sokN hm0 run_16 trivial
theorem sok_24 : SummOK Try.prog 24 s_24 := sokN hm0 run_24 trivial
theorem sok_54 : SummOK Try.prog 54 s_54 := sokN hm0 run_54 ⟨sok_24, trivial⟩
theorem sok_23 : SummOK Try.prog 23 s_23 := sokN hm0 run_23 trivial
theorem sok_67 : SummOK Try.prog 67 s_67 := sokN hm0 run_67 trivial
theorem sok_55 : SummOK Try.prog 55 s_55 := sokS hm0 run_55 ⟨sok_23, sok_67, trivial⟩
theorem sok_42 : SummOK Try.prog 42 s_42 := sokN hm0 run_42 ⟨sok_54, sok_55, trivial⟩
theorem sok_17 : SummOK Try.prog 17 s_17 := sokN hm0 run_17 ⟨sok_42, trivial⟩
theorem sok_6 : SummOK Try.prog 6 s_6 := sokS hm0 run_6 ⟨sok_14, sok_15, sok_16, sok_17, trivial⟩
theorem sok_19 : SummOK Try.prog 19 s_19 := sokN hm0 run_19 trivial
theorem sok_20 : SummOK Try.prog 20 s_20 := sokO hm0 run_20 trivial
theorem sok_56 : SummOK Try.prog 56 s_56 := sokN hm0 run_56 ⟨sok_14, trivial⟩
theorem sok_43 : SummOK Try.prog 43 s_43 := sokS hm0 run_43 ⟨sok_40, sok_41, sok_56, trivial⟩
theorem sok_44 : SummOK Try.prog 44 s_44 := sokS hm0 run_44 ⟨sok_40, sok_41, sok_56, trivial⟩
theorem sok_21 : SummOK Try.prog 21 s_21 := sokS hm0 run_21 ⟨sok_15, sok_43, sok_44, trivial⟩
theorem sok_22 : SummOK Try.prog 22 s_22 := sokS hm0 run_22 trivial
theorem sok_7 : SummOK Try.prog 7 s_7 := sokS hm0 run_7 ⟨sok_14, sok_16, sok_19, sok_20, sok_21, sok_22, sok_23, sok_24, trivial⟩
theorem sok_8 : SummOK Try.prog 8 s_8 := sokN hm0 run_8 trivial
theorem sok_25 : SummOK Try.prog 25 s_25 := sokN hm0 run_25 ⟨sok_14, sok_16, sok_17, trivial⟩
theorem sok_50 : SummOK Try.prog 50 s_50 := sokN hm0 run_50 trivial
theorem sok_62 : SummOK Try.prog 62 s_62 := sokN hm0 run_62 ⟨sok_50, trivial⟩
theorem sok_26 : SummOK Try.prog 26 s_26 := sokO hm0 run_26 ⟨sok_47, sok_48, sok_62, trivial⟩
theorem sok_75 : SummOK Try.prog 75 s_75 := sokN hm0 run_75 trivial
theorem sok_63 : SummOK Try.prog 63 s_63 := sokO hm0 run_63 ⟨sok_40, sok_54, sok_55, sok_75, sok_78, trivial⟩
theorem sok_49 : SummOK Try.prog 49 s_49 := sokS hm0 run_49 ⟨sok_17, sok_25, sok_63, trivial⟩
theorem sok_28 : SummOK Try.prog 28 s_28 := sokS hm0 run_28 ⟨sok_49, trivial⟩
theorem sok_27 : SummOK Try.prog 27 s_27 := sokN hm0 run_27 ⟨sok_28, trivial⟩
theorem sok_29 : SummOK Try.prog 29 s_29 := sokS hm0 run_29 ⟨sok_12, trivial⟩
theorem sok_30 : SummOK Try.prog 30 s_30 := sokN hm0 run_30 trivial
theorem sok_73 : SummOK Try.prog 73 s_73 := sokN hm0 run_73 ⟨sok_50, trivial⟩
theorem sok_64 : SummOK Try.prog 64 s_64 := sokN hm0 run_64 ⟨sok_73, trivial⟩
theorem sok_65 : SummOK Try.prog 65 s_65 := sokN hm0 run_65 trivial
theorem sok_66 : SummOK Try.prog 66 s_66 := sokN hm0 run_66 trivial
theorem sok_51 : SummOK Try.prog 51 s_51 := sokN hm0 run_51 ⟨sok_50, sok_64, sok_65, sok_66, trivial⟩
theorem sok_31 : SummOK Try.prog 31 s_31 := sokN hm0 run_31 ⟨sok_47, sok_50, sok_51, sok_62, trivial⟩
theorem sok_9 : SummOK Try.prog 9 s_9 := sokS hm0 run_9 ⟨sok_25, sok_26, sok_27, sok_28, sok_29, sok_30, sok_31, trivial⟩
theorem sok_5 : SummOK Try.prog 5 s_5 := sokS hm0 run_5 ⟨sok_6, sok_7, sok_8, sok_9, trivial⟩
theorem sok_32 : SummOK Try.prog 32 s_32 := sokN hm0 run_32 trivial
theorem sok_10 : SummOK Try.prog 10 s_10 := sokN hm0 run_10 ⟨sok_32, trivial⟩
theorem sok_52 : SummOK Try.prog 52 s_52 := sokN hm0 run_52 trivial
theorem sok_33 : SummOK Try.prog 33 s_33 := sokN hm0 run_33 ⟨sok_52, trivial⟩
theorem sok_11 : SummOK Try.prog 11 s_11 := sokN hm0 run_11 ⟨sok_33, trivial⟩
theorem call_3 {R : Type} (n base : Nat) : CallOK Try.prog base (rokOf Try.prog smB fns) (evFn (R := R) sm_3 fns FU n) := callG hm0 (l := [(4, s_4), (5, s_5), (6, s_6), (7, s_7), (8, s_8), (9, s_9), (10, s_10), (11, s_11)]) ⟨sok_4, sok_5, sok_6, sok_7, sok_8, sok_9, sok_10, sok_11, trivial⟩ n base
end Go.Ev
