/- Helpers: functions of the program as Lean functions, and what they compute. No condition. -/
import Derived.Test.YtaaagikcbnbncaaG7P1
import Derived.Test.YtaaagikcbnbncaaProg
import Derived.Test.YtaaagikcbnbncaaE7P2
import Derived.Test.YtaaagikcbnbncaaG7P0
set_option maxRecDepth 10000
set_option linter.unusedVariables false
set_option linter.unusedSimpArgs false
open Go.IntKind (wrap i64 i32 i16 i8 u64 u32 u16 u8)
open List (getD length take drop replicate)
open Int (toNat)
open Go.Ev.Sp
namespace Go.Ev
open Go
set_option maxRecDepth 100000
set_option maxHeartbeats 4000000
set_option linter.unusedVariables false
noncomputable section
abbrev Zt31_0 : Type := Int × Int × Int × (Int × Int × List Int × (Int × List (List Int) × List (List Int) × Unit) × Unit) × Unit
abbrev Zt31_1 : Type := (List Int × List Int × Int × Unit) × List Int × Unit
abbrev Zt31_2 : Type := Int × Int × List Int × (Int × List (List Int) × List (List Int) × Unit) × Unit
abbrev Zy31_3 : Ty := (.pair (.int .i64) (.pair (.int .i64) (.pair (.int .i64) (.pair (.pair (.int .i64) (.pair (.int .i64) (.pair (.arr 32 (.int .u8)) (.pair (.pair (.int .i64) (.pair (.slice (.arr 32 (.int .u8))) (.pair (.slice (.arr 32 (.int .u8))) .unit))) .unit)))) .unit))))
abbrev Zt31_4 : Type := Int × Int × Unit
abbrev Zy31_5 : Ty := (.pair (.pair (.slice (.int .u32)) (.pair (.slice (.int .i64)) (.pair (.int .i64) .unit))) (.pair (.arr 32 (.int .u8)) .unit))
abbrev Zy31_6 : Ty := (.pair (.int .i64) (.pair (.int .u32) .unit))
abbrev Zt31_7 : Type := List Int × Unit
abbrev A_31 : List Ty := [(.pair (.pair (.slice (.int .u32)) (.pair (.slice (.int .i64)) (.pair (.int .i64) .unit))) (.pair (.arr 32 (.int .u8)) .unit)), (.pair (.int .i64) (.pair (.int .i64) (.pair (.arr 32 (.int .u8)) (.pair (.pair (.int .i64) (.pair (.slice (.arr 32 (.int .u8))) (.pair (.slice (.arr 32 (.int .u8))) .unit))) .unit)))), (.slice (.int .u32)), (.pair (.int .i64) (.pair (.int .u32) .unit))]
abbrev R_31 : List Ty := [(.pair (.pair (.slice (.int .u32)) (.pair (.slice (.int .i64)) (.pair (.int .i64) .unit))) (.pair (.arr 32 (.int .u8)) .unit)), (.pair (.int .i64) (.pair (.int .u32) .unit)), (.int .i64)]
noncomputable def sm_31 : Nat → Option Summ := smL [(11, s_11), (27, s_27), (33, s_33), (38, s_38), (44, s_44), (61, s_61)]
noncomputable def T_31_94_0_0 : PS := ⟨31, [(0, .yl 16 31 (.kc (.pair .junk (.pair .junk (.pair .junk (.pair .junk (.pair (.ptr 0 []) (.pair .junk (.pair .junk (.pair (.ptr 2 []) (.pair .junk (.pair .junk (.pair .junk (.pair (.ptr 11 []) (.pair (.ptr 12 []) (.pair (.ptr 13 []) (.pair .junk (.pair .junk (.pair .junk (.pair .junk (.pair .junk (.pair .junk (.pair .junk (.pair .junk (.pair .junk (.pair .junk (.pair .junk (.pair .junk (.pair .junk (.pair .junk (.pair .junk (.pair .junk (.pair .junk (.pair .junk (.pair .junk (.pair .junk (.pair .junk (.pair .junk (.pair .junk (.pair .junk (.pair .junk (.pair .junk (.pair .junk (.pair .junk (.pair .junk (.pair .junk (.pair .junk (.pair .junk (.pair .junk (.pair .junk (.pair .junk (.pair .junk (.pair .junk (.pair .junk (.pair .junk (.pair .junk (.pair .junk (.pair .junk (.pair .junk (.pair .junk (.pair .junk (.pair .junk (.pair .junk (.pair .junk (.pair .junk (.pair .junk (.pair .junk (.pair .junk (.pair .junk (.pair .junk (.pair .junk (.pair .junk (.pair .junk (.pair .junk (.pair .junk (.pair .junk (.pair .junk (.pair .junk (.pair .junk (.pair .junk (.pair .junk (.pair .junk (.pair .junk (.pair .junk (.pure .unit PUnit.unit))))))))))))))))))))))))))))))))))))))))))))))))))))))))))))))))))))))))))))))))))))), (1, .kc (.ptr 14 [])), (2, .kc (.ptr 15 [])), (4, .hv (.int .i64))], [.mem (.hv Zy31_5), .mem (.hv (.pair (.int .i64) (.pair (.int .i64) (.pair (.arr 32 (.int .u8)) (.pair (.pair (.int .i64) (.pair (.slice (.arr 32 (.int .u8))) (.pair (.slice (.arr 32 (.int .u8))) .unit))) .unit))))), .mem (.hv Zy31_6), .mem (.pr (.pr (.kc (.nil 42 (.int .u32))) (.pr (.kc (.nil 3 (.int .i64))) (.hv (.pair (.int .i64) .unit)))) (.hv (.pair (.arr 32 (.int .u8)) .unit))), .mem (.hv Zy31_6), .fresh, .fresh, .fresh, .fresh, .fresh, .fresh, .mem (.hv Zy31_3), .mem (.hv (.int .i64)), .mem (.hv (.int .i64)), .mem (.hv (.slice (.int .u32))), .mem (.hv (.int .i64)), .gh 0], 17⟩
inductive Sp.E_31_94_0_0 where
 | e0 (p1 : Zt31_1) (p2 : Zt31_2) (p3 : Zt31_4) (p4 : Int × Unit) (p5 : Zt31_7) (p6 : Zt31_4) (p7 : Zt31_0) (p8 p9 : Int) (p10 : List Int) (p11 : Int)
 | e1 (p1 : Zt31_1) (p2 : Zt31_2) (p3 : Zt31_4) (p4 : Int × Unit) (p5 : Zt31_7) (p6 : Zt31_4) (p7 : Zt31_0) (p8 p9 : Int) (p10 : List Int) (p11 : Int)
noncomputable def Sp.B_31_94_0_0 {R : Type} (r : Option E_31_94_0_0) (k0 k1 : Zt31_1 → Zt31_2 → Zt31_4 → (Int × Unit) → Zt31_7 → Zt31_4 → Zt31_0 → Int → Int → List Int → Int → Option R) : Option R := match r with
 | none => none
 | some (.e0 p1 p2 p3 p4 p5 p6 p7 p8 p9 p10 p11) => k0 p1 p2 p3 p4 p5 p6 p7 p8 p9 p10 p11
 | some (.e1 p1 p2 p3 p4 p5 p6 p7 p8 p9 p10 p11) => k1 p1 p2 p3 p4 p5 p6 p7 p8 p9 p10 p11
noncomputable def Y_31_94_0_0 {R : Type} (k : Ex → St → Option R) : E_31_94_0_0 → Option R
 | .e0 p1 p2 p3 p4 p5 p6 p7 p8 p9 p10 p11 => k Ex.ret (sx 31 [] [Blk.mem (CV.pure (Ty.pair (Ty.pair (Ty.slice (Ty.int u32)) (Ty.pair (Ty.slice (Ty.int i64)) (Ty.pair (Ty.int i64) Ty.unit))) (Ty.pair (Ty.arr 32 (Ty.int u8)) Ty.unit)) p1), Blk.mem (CV.pure (Ty.pair (Ty.int i64) (Ty.pair (Ty.int i64) (Ty.pair (Ty.arr 32 (Ty.int u8)) (Ty.pair (Ty.pair (Ty.int i64) (Ty.pair (Ty.slice (Ty.arr 32 (Ty.int u8))) (Ty.pair (Ty.slice (Ty.arr 32 (Ty.int u8))) Ty.unit))) Ty.unit)))) p2), Blk.mem (CV.pure (Ty.pair (Ty.int i64) (Ty.pair (Ty.int u32) Ty.unit)) p3), Blk.mem (CV.pair (CV.pair (CV.nil 42 (Ty.int u32)) (CV.pair (CV.nil 3 (Ty.int i64)) (CV.pure (Ty.pair (Ty.int i64) Ty.unit) p4))) (CV.pure (Ty.pair (Ty.arr 32 (Ty.int u8)) Ty.unit) p5)), Blk.mem (CV.pure (Ty.pair (Ty.int i64) (Ty.pair (Ty.int u32) Ty.unit)) p6), Blk.fresh, Blk.fresh, Blk.fresh, Blk.fresh, Blk.fresh, Blk.fresh, Blk.mem (CV.pure (Ty.pair (Ty.int i64) (Ty.pair (Ty.int i64) (Ty.pair (Ty.int i64) (Ty.pair (Ty.pair (Ty.int i64) (Ty.pair (Ty.int i64) (Ty.pair (Ty.arr 32 (Ty.int u8)) (Ty.pair (Ty.pair (Ty.int i64) (Ty.pair (Ty.slice (Ty.arr 32 (Ty.int u8))) (Ty.pair (Ty.slice (Ty.arr 32 (Ty.int u8))) Ty.unit))) Ty.unit)))) Ty.unit)))) p7), Blk.mem (CV.int i64 p8), Blk.mem (CV.int i64 p9), Blk.mem (CV.pure (Ty.slice (Ty.int u32)) p10), Blk.mem (CV.int i64 p11), Blk.ghost 3] 17)
 | .e1 p1 p2 p3 p4 p5 p6 p7 p8 p9 p10 p11 => k (Ex.exit 0) (sx 31 [] [Blk.mem (CV.pure (Ty.pair (Ty.pair (Ty.slice (Ty.int u32)) (Ty.pair (Ty.slice (Ty.int i64)) (Ty.pair (Ty.int i64) Ty.unit))) (Ty.pair (Ty.arr 32 (Ty.int u8)) Ty.unit)) p1), Blk.mem (CV.pure (Ty.pair (Ty.int i64) (Ty.pair (Ty.int i64) (Ty.pair (Ty.arr 32 (Ty.int u8)) (Ty.pair (Ty.pair (Ty.int i64) (Ty.pair (Ty.slice (Ty.arr 32 (Ty.int u8))) (Ty.pair (Ty.slice (Ty.arr 32 (Ty.int u8))) Ty.unit))) Ty.unit)))) p2), Blk.mem (CV.pure (Ty.pair (Ty.int i64) (Ty.pair (Ty.int u32) Ty.unit)) p3), Blk.mem (CV.pair (CV.pair (CV.nil 42 (Ty.int u32)) (CV.pair (CV.nil 3 (Ty.int i64)) (CV.pure (Ty.pair (Ty.int i64) Ty.unit) p4))) (CV.pure (Ty.pair (Ty.arr 32 (Ty.int u8)) Ty.unit) p5)), Blk.mem (CV.pure (Ty.pair (Ty.int i64) (Ty.pair (Ty.int u32) Ty.unit)) p6), Blk.fresh, Blk.fresh, Blk.fresh, Blk.fresh, Blk.fresh, Blk.fresh, Blk.mem (CV.pure (Ty.pair (Ty.int i64) (Ty.pair (Ty.int i64) (Ty.pair (Ty.int i64) (Ty.pair (Ty.pair (Ty.int i64) (Ty.pair (Ty.int i64) (Ty.pair (Ty.arr 32 (Ty.int u8)) (Ty.pair (Ty.pair (Ty.int i64) (Ty.pair (Ty.slice (Ty.arr 32 (Ty.int u8))) (Ty.pair (Ty.slice (Ty.arr 32 (Ty.int u8))) Ty.unit))) Ty.unit)))) Ty.unit)))) p7), Blk.mem (CV.int i64 p8), Blk.mem (CV.int i64 p9), Blk.mem (CV.pure (Ty.slice (Ty.int u32)) p10), Blk.mem (CV.int i64 p11), Blk.ghost 0] 17)
noncomputable def Sp.S_31_94_0_0 {R : Type} (K : Int → ((List Int × List Int × Int × Unit) × List Int × Unit) → (Int × Int × List Int × (Int × List (List Int) × List (List Int) × Unit) × Unit) → (Int × Int × Unit) → (Int × Unit) → (List Int × Unit) → (Int × Int × Unit) → (Int × Int × Int × (Int × Int × List Int × (Int × List (List Int) × List (List Int) × Unit) × Unit) × Unit) → Int → Int → List Int → Int → Option R) (k : E_31_94_0_0 → Option R) (p0 : Int) (p1 : (List Int × List Int × Int × Unit) × List Int × Unit) (p2 : Int × Int × List Int × (Int × List (List Int) × List (List Int) × Unit) × Unit) (p3 : Int × Int × Unit) (p4 : Int × Unit) (p5 : List Int × Unit) (p6 : Int × Int × Unit) (p7 : Int × Int × Int × (Int × Int × List Int × (Int × List (List Int) × List (List Int) × Unit) × Unit) × Unit) (p8 p9 : Int) (p10 : List Int) (p11 : Int) : Option R :=
 bif decide (p0 < (↑(length p10) : Int)) then gd (sl3 p0 (↑(length p10) : Int) (↑(length p10) : Int)) (gd (sl3 p0 (wrap i64 (p0 + if (↑(length (drop (toNat p0) p10)) : Int) < p11 then (↑(length (drop (toNat p0) p10)) : Int) else p11)) (wrap i64 (p0 + if (↑(length (drop (toNat p0) p10)) : Int) < p11 then (↑(length (drop (toNat p0) p10)) : Int) else p11)) && decide (wrap i64 (p0 + if (↑(length (drop (toNat p0) p10)) : Int) < p11 then (↑(length (drop (toNat p0) p10)) : Int) else p11) ≤ (↑(length p10) : Int))) (gd (p8 != 0) (k (E_31_94_0_0.e0 p1 p2 p3 p4 p5 p6 p7 p8 p9 p10 p11)))) else k (E_31_94_0_0.e1 p1 p2 p3 p4 p5 p6 p7 p8 p9 p10 p11)
noncomputable def Sp.L_31_94_0_0 : Nat → Int → ((List Int × List Int × Int × Unit) × List Int × Unit) → (Int × Int × List Int × (Int × List (List Int) × List (List Int) × Unit) × Unit) → (Int × Int × Unit) → (Int × Unit) → (List Int × Unit) → (Int × Int × Unit) → (Int × Int × Int × (Int × Int × List Int × (Int × List (List Int) × List (List Int) × Unit) × Unit) × Unit) → Int → Int → List Int → Int → Option E_31_94_0_0
 | 0, _, _, _, _, _, _, _, _, _, _, _, _ => none
 | m + 1, p0, p1, p2, p3, p4, p5, p6, p7, p8, p9, p10, p11 => S_31_94_0_0 (L_31_94_0_0 m) some p0 p1 p2 p3 p4 p5 p6 p7 p8 p9 p10 p11
noncomputable def l_31_94_0_0 (m : Nat) (a : T_31_94_0_0.E) : Option E_31_94_0_0 := L_31_94_0_0 m a.1 a.2.1 a.2.2.1 a.2.2.2.1 a.2.2.2.2.1 a.2.2.2.2.2.1 a.2.2.2.2.2.2.1 a.2.2.2.2.2.2.2.1 a.2.2.2.2.2.2.2.2.1 a.2.2.2.2.2.2.2.2.2.1 a.2.2.2.2.2.2.2.2.2.2.1 a.2.2.2.2.2.2.2.2.2.2.2.1
noncomputable def O_31_94_0_0 {R : Type} : Orc R := orL T_31_94_0_0 (l_31_94_0_0 FU) Y_31_94_0_0
theorem OK_31_94_0_0 {R : Type} : okF (R := R) sm_31 1 (nf 94 0) O_31_94_0_0 := lp0 T_31_94_0_0 l_31_94_0_0 (fun R K k a => S_31_94_0_0 (fun p0 p1 p2 p3 p4 p5 p6 p7 p8 p9 p10 p11 => K (p0, p1, p2, p3, p4, p5, p6, p7, p8, p9, p10, p11, ())) k a.1 a.2.1 a.2.2.1 a.2.2.2.1 a.2.2.2.2.1 a.2.2.2.2.2.1 a.2.2.2.2.2.2.1 a.2.2.2.2.2.2.2.1 a.2.2.2.2.2.2.2.2.1 a.2.2.2.2.2.2.2.2.2.1 a.2.2.2.2.2.2.2.2.2.2.1 a.2.2.2.2.2.2.2.2.2.2.2.1) Y_31_94_0_0 (fun _ _ _ => by kernel_rfl) (fun _ _ _ => by
 unfold S_31_94_0_0
 repeat' first | apply gdN | apply condN | rfl) (ok0 _)
noncomputable def g_31_94 {R : Type} : List CV → List Blk → (CV → List Blk → Option R) → Option R := evFnL sm_31 FU (ovr noO (evFn sm_31 fns FU 1)) (mkT (fB fns 94) [O_31_94_0_0]) (fO fns 94)
theorem g_31_94_ok {R : Type} (args : List CV) (hp : List Blk) (k : CV → List Blk → Option R) (r : R) (h : g_31_94 args hp k = some r) : evFn sm_31 fns FU 2 94 args hp k = some r := runG noO_ok (os := [O_31_94_0_0]) ⟨OK_31_94_0_0, trivial⟩ h
noncomputable def ov_31_67 {R : Type} : Nat → Option (List CV → List Blk → (CV → List Blk → Option R) → Option R) := fun f' => bif Nat.beq f' 94 then some g_31_94 else none
theorem ov_31_67_ok {R : Type} : OvrOK (R := R) ov_31_67 (evFn sm_31 fns FU 2) := by
 intro f' g h args hp k r hg
 dsimp only [ov_31_67] at h
 by_cases h94 : f' = 94
 · subst h94
   injection h with h
   subst h
   exact evFn_le 0 (g_31_94_ok _ _ _ _ hg)
 rw [nbeq_ne h94, cond_false] at h
 cases h
noncomputable def g_31_67 {R : Type} : List CV → List Blk → (CV → List Blk → Option R) → Option R := evFnL sm_31 FU (ovr ov_31_67 (evFn sm_31 fns FU 2)) (mkT (fB fns 67) []) (fO fns 67)
theorem g_31_67_ok {R : Type} (args : List CV) (hp : List Blk) (k : CV → List Blk → Option R) (r : R) (h : g_31_67 args hp k = some r) : evFn sm_31 fns FU 3 67 args hp k = some r := runG ov_31_67_ok (os := []) trivial h
noncomputable def ov_31_31 {R : Type} : Nat → Option (List CV → List Blk → (CV → List Blk → Option R) → Option R) := fun f' => bif Nat.beq f' 67 then some g_31_67 else bif Nat.beq f' 94 then some g_31_94 else none
theorem ov_31_31_ok {R : Type} : OvrOK (R := R) ov_31_31 (evFn sm_31 fns FU 3) := by
 intro f' g h args hp k r hg
 dsimp only [ov_31_31] at h
 by_cases h67 : f' = 67
 · subst h67
   injection h with h
   subst h
   exact evFn_le 0 (g_31_67_ok _ _ _ _ hg)
 rw [nbeq_ne h67, cond_false] at h
 by_cases h94 : f' = 94
 · subst h94
   injection h with h
   subst h
   exact evFn_le 1 (g_31_94_ok _ _ _ _ hg)
 rw [nbeq_ne h94, cond_false] at h
 cases h
noncomputable def T_31_0 : PS := ⟨82, [(4, .kc (.ptr 0 [])), (7, .kc (.ptr 1 [])), (8, .kc (.ptr 2 [])), (9, .kc (.ptr 5 [])), (11, .kc (.ptr 6 [])), (12, .kc (.ptr 7 []))], [.mem (.hv Zy31_5), .mem (.hv Zy31_6), .mem (.pr (.pr (.kc (.whole 3)) (.pr (.kc (.whole 4)) (.hv (.pair (.int .i64) .unit)))) (.hv (.pair (.arr 32 (.int .u8)) .unit))), .vec 42 (.int .u32), .vec 3 (.int .i64), .mem (.hv Zy31_6), .mem (.hv Zy31_3), .mem (.hv (.int .i64))], 0⟩
inductive Sp.E_31_0 where
 | e0 (p0 : Zt31_1) (p1 : Zt31_4) (p8 : Int)
noncomputable def Sp.B_31_0 {R : Type} (r : Option E_31_0) (k0 : Zt31_1 → Zt31_4 → Int → Option R) : Option R := match r with
 | none => none
 | some (.e0 p0 p1 p8) => k0 p0 p1 p8
noncomputable def Y_31_0 {R : Type} (k : Ex → St → Option R) : E_31_0 → Option R
 | .e0 p0 p1 p8 => k Ex.ret (sx 82 [(8, CV.ptr 0 []), (9, CV.ptr 1 []), (10, CV.int i64 p8)] [Blk.mem (CV.pure (Ty.pair (Ty.pair (Ty.slice (Ty.int u32)) (Ty.pair (Ty.slice (Ty.int i64)) (Ty.pair (Ty.int i64) Ty.unit))) (Ty.pair (Ty.arr 32 (Ty.int u8)) Ty.unit)) p0), Blk.mem (CV.pure (Ty.pair (Ty.int i64) (Ty.pair (Ty.int u32) Ty.unit)) p1)])
noncomputable def Sp.S_31_0 {R : Type} (k : E_31_0 → Option R) (p0 : (List Int × List Int × Int × Unit) × List Int × Unit) (p1 : Int × Int × Unit) (p2 : Int × Unit) (p3 : List Int × Unit) (p4 p5 : List Int) (p6 : Int × Int × Unit) (p7 : Int × Int × Int × (Int × Int × List Int × (Int × List (List Int) × List (List Int) × Unit) × Unit) × Unit) (p8 : Int) : Option R :=
 bif p8 == 0 then none else k (E_31_0.e0 p0 p1 p8)
noncomputable def Sp.J_31_0 (p0 : (List Int × List Int × Int × Unit) × List Int × Unit) (p1 : Int × Int × Unit) (p2 : Int × Unit) (p3 : List Int × Unit) (p4 p5 : List Int) (p6 : Int × Int × Unit) (p7 : Int × Int × Int × (Int × Int × List Int × (Int × List (List Int) × List (List Int) × Unit) × Unit) × Unit) (p8 : Int) : Option E_31_0 := S_31_0 some p0 p1 p2 p3 p4 p5 p6 p7 p8
noncomputable def O_31_0 {R : Type} : Orc R := orL T_31_0 (fun a => J_31_0 a.1 a.2.1 a.2.2.1 a.2.2.2.1 a.2.2.2.2.1 a.2.2.2.2.2.1 a.2.2.2.2.2.2.1 a.2.2.2.2.2.2.2.1 a.2.2.2.2.2.2.2.2.1) Y_31_0
theorem OK_31_0 {R : Type} : okF (R := R) sm_31 3 (nf 31 0) O_31_0 := jp ov_31_31_ok (os := []) trivial T_31_0 (fun R k a => S_31_0 k a.1 a.2.1 a.2.2.1 a.2.2.2.1 a.2.2.2.2.1 a.2.2.2.2.2.1 a.2.2.2.2.2.2.1 a.2.2.2.2.2.2.2.1 a.2.2.2.2.2.2.2.2.1) Y_31_0 (fun k a => by kernel_rfl) (fun Y a => by
 unfold S_31_0
 repeat' first | apply gdN | apply condN | rfl) (ok0 _)
noncomputable def F_31 (a0 : (((List Int) × ((List Int) × (Int × Unit))) × ((List Int) × Unit))) (a1 : (Int × (Int × ((List Int) × ((Int × ((List (List Int)) × ((List (List Int)) × Unit))) × Unit))))) (a2 : (List Int)) (a3 : (Int × (Int × Unit))) : Option ((((List Int) × ((List Int) × (Int × Unit))) × ((List Int) × Unit)) × (Int × (Int × Unit)) × Int × Unit) :=
 gd (p_33 a0) (bif !(v_33 a0).1 then some ((([], [], 0, PUnit.unit), replicate 32 (0 :Int), PUnit.unit), (0, 0, PUnit.unit), 1, PUnit.unit) else gd (p_61 a3) (bif !(v_61 a3).1 then some ((([], [], 0, PUnit.unit), replicate 32 (0 :Int), PUnit.unit), (0, 0, PUnit.unit), 1, PUnit.unit) else gd (p_44 a0) (gd (p_38 a1 (wrap i64 ((v_44 a0).1 - 564))) (bif !(v_38 a1 (wrap i64 ((v_44 a0).1 - 564))).1 then some ((([], [], 0, PUnit.unit), replicate 32 (0 :Int), PUnit.unit), (0, 0, PUnit.unit), 1, PUnit.unit) else bif (↑(length a2) : Int) != a1.2.1 then some ((([], [], 0, PUnit.unit), replicate 32 (0 :Int), PUnit.unit), (0, 0, PUnit.unit), 1, PUnit.unit) else gd p_11 (gd (p_27 (v_11.1) a0 a1 a3) (B_31_94_0_0 (L_31_94_0_0 4611686018427387904 0 ((v_27 (v_11.1) a0 a1 a3).2.1) a1 ((v_27 (v_11.1) a0 a1 a3).2.2.1) (0, PUnit.unit) (replicate 32 (0 :Int), PUnit.unit) (0, 0, PUnit.unit) ((v_27 (v_11.1) a0 a1 a3).1) ((v_27 (v_11.1) a0 a1 a3).2.2.2.1) 0 a2 32) (fun y28 y29 y30 y31 y32 y33 y34 y35 y36 y37 y38 => B_31_0 (J_31_0 y28 y30 y31 y32 [] [] y33 y34 y35) fun y39 y40 y41 => some (y39, y40, y41, PUnit.unit)) fun y42 y43 y44 y45 y46 y47 y48 y49 y50 y51 y52 => B_31_0 (J_31_0 y42 y44 y45 y46 [] [] y47 y48 y49) fun y53 y54 y55 => some (y53, y54, y55, PUnit.unit)))))))
noncomputable def Sp.p_31 (a0 : (((List Int) × ((List Int) × (Int × Unit))) × ((List Int) × Unit))) (a1 : (Int × (Int × ((List Int) × ((Int × ((List (List Int)) × ((List (List Int)) × Unit))) × Unit))))) (a2 : (List Int)) (a3 : (Int × (Int × Unit))) : Bool := (F_31 a0 a1 a2 a3).isSome
noncomputable def Sp.v_31 (a0 : (((List Int) × ((List Int) × (Int × Unit))) × ((List Int) × Unit))) (a1 : (Int × (Int × ((List Int) × ((Int × ((List (List Int)) × ((List (List Int)) × Unit))) × Unit))))) (a2 : (List Int)) (a3 : (Int × (Int × Unit))) : (((List Int) × ((List Int) × (Int × Unit))) × ((List Int) × Unit)) × (Int × (Int × Unit)) × Int × Unit := (F_31 a0 a1 a2 a3).getD (dfH R_31)
noncomputable def s_31 : Summ := shS A_31 R_31 (fun x => p_31 x.1 x.2.1 x.2.2.1 x.2.2.2.1) (fun x => v_31 x.1 x.2.1 x.2.2.1 x.2.2.2.1)
theorem pv_31 (a0 : (((List Int) × ((List Int) × (Int × Unit))) × ((List Int) × Unit))) (a1 : (Int × (Int × ((List Int) × ((Int × ((List (List Int)) × ((List (List Int)) × Unit))) × Unit))))) (a2 : (List Int)) (a3 : (Int × (Int × Unit))) {y : (((List Int) × ((List Int) × (Int × Unit))) × ((List Int) × Unit)) × (Int × (Int × Unit)) × Int × Unit} (h : F_31 a0 a1 a2 a3 = some y) : p_31 a0 a1 a2 a3 = true ∧ v_31 a0 a1 a2 a3 = y := pvG h
theorem run_31 (x : HDen A_31) (y : HDen R_31) (h : F_31 x.1 x.2.1 x.2.2.1 x.2.2.2.1 = some y) : rnF sm_31 4 31 A_31 R_31 x y := runG ov_31_31_ok (os := [O_31_0]) ⟨OK_31_0, trivial⟩ (Eq.trans (by kernel_rfl) h)
end
noncomputable section
abbrev A_7 : List Ty := [(.pair (.pair (.slice (.int .u32)) (.pair (.slice (.int .i64)) (.pair (.int .i64) .unit))) (.pair (.arr 32 (.int .u8)) .unit)), (.pair (.int .i64) (.pair (.int .i64) (.pair (.arr 32 (.int .u8)) (.pair (.pair (.int .i64) (.pair (.slice (.arr 32 (.int .u8))) (.pair (.slice (.arr 32 (.int .u8))) .unit))) .unit)))), (.slice (.int .u32)), (.pair (.int .i64) (.pair (.int .u32) .unit)), (.int .u32)]
abbrev R_7 : List Ty := [.bool]
noncomputable def sm_7 : Nat → Option Summ := smL [(8, s_8), (9, s_9), (15, s_15), (31, s_31), (32, s_32), (33, s_33), (34, s_34)]
noncomputable def F_7 (a0 : (((List Int) × ((List Int) × (Int × Unit))) × ((List Int) × Unit))) (a1 : (Int × (Int × ((List Int) × ((Int × ((List (List Int)) × ((List (List Int)) × Unit))) × Unit))))) (a2 : (List Int)) (a3 : (Int × (Int × Unit))) (a4 : Int) : Option (Bool) :=
 gd p_8 (bif !v_8.1 then some false else gd (p_15 a0) (bif (v_15 a0).1 then some true else gd (p_9 a1) (bif (v_9 a1).1 then some true else bif decide ((↑(length a2) : Int) > 100) then some true else gd (p_33 a0) (bif !(v_33 a0).1 then some true else gd (p_34 a0) (gd (p_31 a0 (wrap i64 ((v_34 a0).1 - wrap i64 a4), a1.2) a2 a3) (bif (v_31 a0 (wrap i64 ((v_34 a0).1 - wrap i64 a4), a1.2) a2 a3).2.2.1 == 1 then gd (p_32 ((v_31 a0 (wrap i64 ((v_34 a0).1 - wrap i64 a4), a1.2) a2 a3).1) (([], [], 0, PUnit.unit), replicate 32 (0 :Int), PUnit.unit)) (bif (v_32 ((v_31 a0 (wrap i64 ((v_34 a0).1 - wrap i64 a4), a1.2) a2 a3).1) (([], [], 0, PUnit.unit), replicate 32 (0 :Int), PUnit.unit)).1 then some (Ty.beq (Ty.pair (Ty.int i64) (Ty.pair (Ty.int u32) Ty.unit)) ((v_31 a0 (wrap i64 ((v_34 a0).1 - wrap i64 a4), a1.2) a2 a3).2.1) (0, 0, PUnit.unit)) else some false) else bif (v_31 a0 (wrap i64 ((v_34 a0).1 - wrap i64 a4), a1.2) a2 a3).2.2.1 == 20 then gd (p_32 ((v_31 a0 (wrap i64 ((v_34 a0).1 - wrap i64 a4), a1.2) a2 a3).1) (([], [], 0, PUnit.unit), replicate 32 (0 :Int), PUnit.unit)) (bif (v_32 ((v_31 a0 (wrap i64 ((v_34 a0).1 - wrap i64 a4), a1.2) a2 a3).1) (([], [], 0, PUnit.unit), replicate 32 (0 :Int), PUnit.unit)).1 then some (Ty.beq (Ty.pair (Ty.int i64) (Ty.pair (Ty.int u32) Ty.unit)) ((v_31 a0 (wrap i64 ((v_34 a0).1 - wrap i64 a4), a1.2) a2 a3).2.1) (0, 0, PUnit.unit)) else some false) else some false))))))
theorem run_7 (a0 : (((List Int) × ((List Int) × (Int × Unit))) × ((List Int) × Unit))) (a1 : (Int × (Int × ((List Int) × ((Int × ((List (List Int)) × ((List (List Int)) × Unit))) × Unit))))) (a2 : (List Int)) (a3 : (Int × (Int × Unit))) (a4 : Int) {b : Bool} (h : F_7 a0 a1 a2 a3 a4 = some b) : evFn sm_7 fns FU 1 7 (ofH A_7 (a0, a1, a2, a3, a4, ())) [] bk = some b := runG noO_ok (os := []) trivial (Eq.trans (by kernel_rfl) h)
end
end Go.Ev
namespace Go.Proofs
open Go.Shelf
noncomputable def Try.clone25_ren : Go.Shelf.Ren := ⟨fun | 41 => 25 | n => n, fun | 22 => 36 | 23 => 42 | 4 => 4 | n => n, fun | n => n⟩
theorem Try.clone25 : Go.Proofs.SlLaysE0.n41 Try.prog Try.clone25_ren := {
 mixed := by kernel_rfl
 f41 := ⟨Try.f25.name, by decide, Try.func25.trans (congrArg some (by kernel_rfl))⟩
 t4 := Try.underlying4
 a4 := Try.isAgg4
 z4 := Try.sizeOf4
 v4 := Try.zeroValue4
 t22 := Try.underlying36
 a22 := Try.isAgg36
 z22 := Try.sizeOf36
 v22 := Try.zeroValue36 }
noncomputable def Try.clone75_ren : Go.Shelf.Ren := ⟨fun | 41 => 75 | n => n, fun | 22 => 37 | 23 => 3 | 4 => 4 | n => n, fun | n => n⟩
theorem Try.clone75 : Go.Proofs.SlLaysE0.n41 Try.prog Try.clone75_ren := {
 mixed := by kernel_rfl
 f41 := ⟨Try.f75.name, by decide, Try.func75.trans (congrArg some (by kernel_rfl))⟩
 t4 := Try.underlying4
 a4 := Try.isAgg4
 z4 := Try.sizeOf4
 v4 := Try.zeroValue4
 t22 := Try.underlying37
 a22 := Try.isAgg37
 z22 := Try.sizeOf37
 v22 := Try.zeroValue37 }
end Go.Proofs
namespace Go.Ev
open Go Go.Proofs Go.RowKit
set_option maxRecDepth 100000
set_option maxHeartbeats 4000000
theorem info25 : ∃ i, Try.prog.info? 42 = some i ∧ i.zero = some (.int .u32 0) ∧ i.size = 1 ∧ i.bytes = 4 := ⟨_, rfl, by kernel_rfl, by kernel_rfl, by kernel_rfl⟩
theorem sok_25 : SummOK Try.prog 25 (vecS (.int .u32) 42 4) := by
 obtain ⟨i, hi, h0, h1, h2⟩ := info25
 exact clone_vec (by kernel_rfl) (by decide)
   (fun b off n c news w hl hn hb hc h3 => AnyE.slices_Clone Try.clone25 i _ 1 4 hi h0 h1 h2 (by kernel_rfl) (by decide) Try.sizeOf42 b off n c news w hl hn hb hc h3)
   (fun n c w => AnyE.slices_Clone_nil Try.clone25 n c w)
   (fun a c w => clone_zero Try.clone25 i _ 1 4 hi h0 h1 h2 (by kernel_rfl) (by decide) Try.sizeOf42 a c w)
theorem info75 : ∃ i, Try.prog.info? 3 = some i ∧ i.zero = some (.int .i64 0) ∧ i.size = 1 ∧ i.bytes = 8 := ⟨_, rfl, by kernel_rfl, by kernel_rfl, by kernel_rfl⟩
theorem sok_75 : SummOK Try.prog 75 (vecS (.int .i64) 3 8) := by
 obtain ⟨i, hi, h0, h1, h2⟩ := info75
 exact clone_vec (by kernel_rfl) (by decide)
   (fun b off n c news w hl hn hb hc h3 => AnyE.slices_Clone Try.clone75 i _ 1 8 hi h0 h1 h2 (by kernel_rfl) (by decide) Try.sizeOf3 b off n c news w hl hn hb hc h3)
   (fun n c w => AnyE.slices_Clone_nil Try.clone75 n c w)
   (fun a c w => clone_zero Try.clone75 i _ 1 8 hi h0 h1 h2 (by kernel_rfl) (by decide) Try.sizeOf3 a c w)
noncomputable def grow126_ren : Go.Shelf.Ren := ⟨fun | 4 => 126 | n => n, fun | 25 => 42 | 22 => 36 | 20 => 20 | n => n, fun | n => n⟩
theorem grow126_lay : Go.Proofs.Lays8.n4 Try.prog grow126_ren := {
 mixed := by kernel_rfl
 f4 := ⟨Try.f126.name, by decide, Try.func126.trans (congrArg some (by kernel_rfl))⟩
 t0 := Try.underlying0
 a0 := Try.isAgg0
 z0 := Try.sizeOf0
 v0 := Try.zeroValue0
 t3 := Try.underlying3
 a3 := Try.isAgg3
 z3 := Try.sizeOf3
 v3 := Try.zeroValue3
 t4 := Try.underlying4
 a4 := Try.isAgg4
 z4 := Try.sizeOf4
 v4 := Try.zeroValue4
 t9 := Try.underlying9
 a9 := Try.isAgg9
 z9 := Try.sizeOf9
 v9 := Try.zeroValue9
 t20 := Try.underlying20
 a20 := Try.isAgg20
 z20 := Try.sizeOf20
 v20 := Try.zeroValue20
 t22 := Try.underlying36
 a22 := Try.isAgg36
 z22 := Try.sizeOf36
 v22 := Try.zeroValue36 }
theorem growinfo126 : ∃ i, Try.prog.info? 42 = some i ∧ i.zero = some (.int .u32 0) ∧ i.size = 1 ∧ i.bytes = 4 := ⟨_, rfl, by kernel_rfl, by kernel_rfl, by kernel_rfl⟩
theorem sok_126 : SummOK Try.prog 126 (growS (.int .u32) 42 4) := by
 obtain ⟨i, hi, h0, h1, h2⟩ := growinfo126
 exact grow_vec (by kernel_rfl) (by decide) (fun n w hn hb => grow_calls grow126_lay i _ 1 4 hi h0 h1 h2 (by decide) (by decide) (by rfl) n w hn hb)
theorem sok_73 : SummOK Try.prog 73 s_73 := sokN hm0 run_73 trivial
theorem sok_36 : SummOK Try.prog 36 s_36 := sokN hm0 run_36 ⟨sok_73, trivial⟩
theorem sok_10 : SummOK Try.prog 10 s_10 := sokN hm0 run_10 ⟨sok_36, trivial⟩
theorem sok_11 : SummOK Try.prog 11 s_11 := sokS hm0 run_11 trivial
theorem sok_37 : SummOK Try.prog 37 s_37 := sokN hm0 run_37 trivial
theorem sok_85 : SummOK Try.prog 85 s_85 := sokN hm0 run_85 trivial
theorem sok_100 : SummOK Try.prog 100 s_100 := sokN hm0 run_100 trivial
theorem sok_74 : SummOK Try.prog 74 s_74 := sokS hm0 run_74 ⟨sok_85, sok_100, trivial⟩
theorem sok_38 : SummOK Try.prog 38 s_38 := sokN hm0 run_38 ⟨sok_74, trivial⟩
theorem sok_13 : SummOK Try.prog 13 s_13 := sokN hm0 run_13 ⟨sok_37, sok_38, trivial⟩
theorem sok_69 : SummOK Try.prog 69 s_69 := sokN hm0 run_69 trivial
theorem sok_70 : SummOK Try.prog 70 s_70 := sokN hm0 run_70 trivial
theorem sok_33 : SummOK Try.prog 33 s_33 := sokN hm0 run_33 ⟨sok_69, sok_70, trivial⟩
theorem sok_84 : SummOK Try.prog 84 s_84 := sokS hm0 run_84 trivial
theorem sok_97 : SummOK Try.prog 97 s_97 := sokN hm0 run_97 trivial
theorem sok_116 : SummOK Try.prog 116 s_116 := sokS hm0 run_116 trivial
theorem sok_117 : SummOK Try.prog 117 s_117 := sokS hm0 run_117 trivial
theorem sok_98 : SummOK Try.prog 98 s_98 := sokS hm0 run_98 ⟨sok_116, sok_117, sok_123, trivial⟩
theorem sok_71 : SummOK Try.prog 71 s_71 := sokS hm0 run_71 ⟨sok_33, sok_84, sok_97, sok_98, trivial⟩
theorem sok_93 : SummOK Try.prog 93 s_93 := sokN hm0 run_93 ⟨sok_84, trivial⟩
theorem sok_86 : SummOK Try.prog 86 s_86 := sokS hm0 run_86 trivial
theorem sok_120 : SummOK Try.prog 120 s_120 := sokN hm0 run_120 trivial
theorem sok_128 : SummOK Try.prog 128 s_128 := sokN hm0 run_128 trivial
theorem sok_127 : SummOK Try.prog 127 s_127 := sokN hm0 run_127 ⟨sok_128, trivial⟩
theorem sok_110 : SummOK Try.prog 110 s_110 := sokN hm0 run_110 ⟨sok_100, sok_120, sok_127, trivial⟩
theorem sok_87 : SummOK Try.prog 87 s_87 := sokN hm0 run_87 ⟨sok_110, trivial⟩
theorem sok_88 : SummOK Try.prog 88 s_88 := sokN hm0 run_88 ⟨sok_110, trivial⟩
theorem sok_89 : SummOK Try.prog 89 s_89 := sokN hm0 run_89 ⟨sok_110, trivial⟩
theorem sok_62 : SummOK Try.prog 62 s_62 := sokN hm0 run_62 ⟨sok_85, sok_86, sok_87, sok_88, sok_89, trivial⟩
theorem sok_119 : SummOK Try.prog 119 s_119 := sokS hm0 run_119 ⟨sok_126, trivial⟩
theorem sok_109 : SummOK Try.prog 109 s_109 := sokN hm0 run_109 ⟨sok_62, sok_71, sok_84, sok_110, sok_116, sok_119, trivial⟩
theorem sok_82 : SummOK Try.prog 82 s_82 := sokN hm0 run_82 ⟨sok_33, sok_71, sok_93, sok_109, trivial⟩
theorem sok_54 : SummOK Try.prog 54 s_54 := sokN hm0 run_54 ⟨sok_82, trivial⟩
theorem sok_34 : SummOK Try.prog 34 s_34 := sokN hm0 run_34 ⟨sok_54, sok_71, trivial⟩
theorem sok_41 : SummOK Try.prog 41 s_41 := sokS hm0 run_41 trivial
theorem sok_44 : SummOK Try.prog 44 s_44 := sokN hm0 run_44 trivial
theorem sok_61 : SummOK Try.prog 61 s_61 := sokN hm0 run_61 trivial
theorem sok_90 : SummOK Try.prog 90 s_90 := sokN hm0 run_90 trivial
theorem sok_63 : SummOK Try.prog 63 s_63 := sokN hm0 run_63 ⟨sok_90, trivial⟩
theorem sok_101 : SummOK Try.prog 101 s_101 := sokN hm0 run_101 ⟨sok_69, trivial⟩
theorem sok_76 : SummOK Try.prog 76 s_76 := sokS hm0 run_76 ⟨sok_25, sok_75, sok_101, trivial⟩
theorem sok_27 : SummOK Try.prog 27 s_27 := sokS hm0 run_27 ⟨sok_13, sok_25, sok_33, sok_34, sok_37, sok_38, sok_41, sok_44, sok_54, sok_61, sok_62, sok_63, sok_75, sok_76, trivial⟩
theorem sok_28 : SummOK Try.prog 28 s_28 := sokN hm0 run_28 trivial
theorem sok_68 : SummOK Try.prog 68 s_68 := sokN hm0 run_68 trivial
theorem sok_32 : SummOK Try.prog 32 s_32 := sokN hm0 run_32 ⟨sok_68, trivial⟩
theorem sok_124 : SummOK Try.prog 124 s_124 := sokN hm0 run_124 trivial
theorem sok_125 : SummOK Try.prog 125 s_125 := sokN hm0 run_125 trivial
theorem sok_118 : SummOK Try.prog 118 s_118 := sokN hm0 run_118 ⟨sok_124, sok_125, trivial⟩
theorem sok_99 : SummOK Try.prog 99 s_99 := sokS hm0 run_99 ⟨sok_118, trivial⟩
theorem sok_72 : SummOK Try.prog 72 s_72 := sokS hm0 run_72 ⟨sok_99, trivial⟩
theorem sok_35 : SummOK Try.prog 35 s_35 := sokS hm0 run_35 ⟨sok_70, sok_72, trivial⟩
theorem sok_8 : SummOK Try.prog 8 s_8 := sokN hm0 run_8 ⟨sok_10, sok_11, sok_13, sok_27, sok_28, sok_32, sok_35, trivial⟩
theorem sok_9 : SummOK Try.prog 9 s_9 := sokN hm0 run_9 trivial
theorem sok_15 : SummOK Try.prog 15 s_15 := sokN hm0 run_15 trivial
theorem sok_31 : SummOK Try.prog 31 s_31 := sokS hm0 run_31 ⟨sok_11, sok_27, sok_33, sok_38, sok_44, sok_61, trivial⟩
theorem call_7 {R : Type} (n base : Nat) : CallOK Try.prog base (rokOf Try.prog smB fns) (evFn (R := R) sm_7 fns FU n) := callG hm0 (l := [(8, s_8), (9, s_9), (15, s_15), (31, s_31), (32, s_32), (33, s_33), (34, s_34)]) ⟨sok_8, sok_9, sok_15, sok_31, sok_32, sok_33, sok_34, trivial⟩ n base
end Go.Ev
