/- Helpers: functions of the program as Lean functions, and what they compute. No condition. -/
import Derived.Test.YtfbegeikpjdpiaaG4P0
import Derived.Test.YtfbegeikpjdpiaaProg
import Derived.Test.YtfbegeikpjdpiaaE4P2
set_option maxRecDepth 10000
set_option linter.unusedVariables false
set_option linter.unusedSimpArgs false
open Go.IntKind (wrap i64 i32 i16 i8 u64 u32 u16 u8)
open List (getD length take drop replicate)
open Int (toNat)
open Go.Ev.Sp
namespace Go.Ev
open Go
set_option maxRecDepth 100000
set_option maxHeartbeats 4000000
set_option linter.unusedVariables false
noncomputable section
abbrev Zt98_0 : Type := Int × Int × Unit
abbrev Zt98_1 : Type := List Int × List Int × Int × Unit
abbrev Zy98_2 : Ty := (.pair (.int .i64) (.pair (.int .u32) .unit))
abbrev Zy98_3 : Ty := (.pair (.slice (.int .u32)) (.pair (.slice (.int .i64)) (.pair (.int .i64) .unit)))
abbrev A_98 : List Ty := [(.pair (.slice (.int .u32)) (.pair (.slice (.int .i64)) (.pair (.int .i64) .unit))), (.int .i64), (.pair (.int .i64) (.pair (.int .u32) .unit))]
abbrev R_98 : List Ty := [(.pair (.slice (.int .u32)) (.pair (.slice (.int .i64)) (.pair (.int .i64) .unit))), (.pair (.int .i64) (.pair (.int .u32) .unit)), (.int .i64)]
noncomputable def sm_98 : Nat → Option Summ := smL [(12, s_12), (13, s_13), (106, s_106)]
noncomputable def T_98_30_0_0 : PS := ⟨44, [(1, .kc (.ptr 5 [])), (2, .kc (.ptr 6 [])), (3, .kc (.ptr 9 [])), (4, .hv (.int .i64))], [.mem (.hv Zy98_3), .mem (.hv Zy98_2), .mem (.pr (.kc (.nil 26 (.int .u32))) (.pr (.kc (.nil 3 (.int .i64))) (.hv (.pair (.int .i64) .unit)))), .mem (.hv Zy98_2), .mem (.hv Zy98_2), .mem (.hv Zy98_3), .mem (.pr (.kc (.whole 7)) (.pr (.kc (.whole 8)) (.hv (.pair (.int .i64) .unit)))), .vec 26 (.int .u32), .vec 3 (.int .i64), .mem (.pr (.kc (.whole 10)) (.pr (.kc (.whole 11)) (.hv (.pair (.int .i64) .unit)))), .vec 26 (.int .u32), .vec 3 (.int .i64)], 5⟩
inductive Sp.E_98_30_0_0 where
 | e0 (p1 : Zt98_1) (p2 : Zt98_0) (p3 : Int × Unit) (p4 p5 : Zt98_0) (p6 : Zt98_1) (p7 : Int × Unit) (p8 p9 : List Int) (p10 : Int × Unit) (p11 p12 : List Int)
noncomputable def Sp.B_98_30_0_0 {R : Type} (r : Option E_98_30_0_0) (k0 : Zt98_1 → Zt98_0 → (Int × Unit) → Zt98_0 → Zt98_0 → Zt98_1 → (Int × Unit) → List Int → List Int → (Int × Unit) → List Int → List Int → Option R) : Option R := match r with
 | none => none
 | some (.e0 p1 p2 p3 p4 p5 p6 p7 p8 p9 p10 p11 p12) => k0 p1 p2 p3 p4 p5 p6 p7 p8 p9 p10 p11 p12
noncomputable def Y_98_30_0_0 {R : Type} (k : Ex → St → Option R) : E_98_30_0_0 → Option R
 | .e0 p1 p2 p3 p4 p5 p6 p7 p8 p9 p10 p11 p12 => k (Ex.exit 0) (sx 44 [(1, CV.ptr 5 []), (2, CV.ptr 6 []), (3, CV.ptr 9 [])] [Blk.mem (CV.pure (Ty.pair (Ty.slice (Ty.int u32)) (Ty.pair (Ty.slice (Ty.int i64)) (Ty.pair (Ty.int i64) Ty.unit))) p1), Blk.mem (CV.pure (Ty.pair (Ty.int i64) (Ty.pair (Ty.int u32) Ty.unit)) p2), Blk.mem (CV.pair (CV.nil 26 (Ty.int u32)) (CV.pair (CV.nil 3 (Ty.int i64)) (CV.pure (Ty.pair (Ty.int i64) Ty.unit) p3))), Blk.mem (CV.pure (Ty.pair (Ty.int i64) (Ty.pair (Ty.int u32) Ty.unit)) p4), Blk.mem (CV.pure (Ty.pair (Ty.int i64) (Ty.pair (Ty.int u32) Ty.unit)) p5), Blk.mem (CV.pure (Ty.pair (Ty.slice (Ty.int u32)) (Ty.pair (Ty.slice (Ty.int i64)) (Ty.pair (Ty.int i64) Ty.unit))) p6), Blk.mem (CV.pair (CV.whole 7) (CV.pair (CV.whole 8) (CV.pure (Ty.pair (Ty.int i64) Ty.unit) p7))), Blk.vec 26 (Ty.int u32) p8, Blk.vec 3 (Ty.int i64) p9, Blk.mem (CV.pair (CV.whole 10) (CV.pair (CV.whole 11) (CV.pure (Ty.pair (Ty.int i64) Ty.unit) p10))), Blk.vec 26 (Ty.int u32) p11, Blk.vec 3 (Ty.int i64) p12] 5)
noncomputable def Sp.S_98_30_0_0 {R : Type} (K : Int → (List Int × List Int × Int × Unit) → (Int × Int × Unit) → (Int × Unit) → (Int × Int × Unit) → (Int × Int × Unit) → (List Int × List Int × Int × Unit) → (Int × Unit) → List Int → List Int → (Int × Unit) → List Int → List Int → Option R) (k : E_98_30_0_0 → Option R) (p0 : Int) (p1 : List Int × List Int × Int × Unit) (p2 : Int × Int × Unit) (p3 : Int × Unit) (p4 p5 : Int × Int × Unit) (p6 : List Int × List Int × Int × Unit) (p7 : Int × Unit) (p8 p9 : List Int) (p10 : Int × Unit) (p11 p12 : List Int) : Option R :=
 bif decide (p0 < (↑(length (p6.1)) : Int)) then gd (inB p0 (length (p6.1))) (gd (room (length p11 + 1) 4) (K (wrap i64 (p0 + 1)) p1 p2 p3 p4 p5 p6 p7 p8 p9 p10 (p11 ++ [getD (p6.1) (toNat p0) 0]) p12)) else k (E_98_30_0_0.e0 p1 p2 p3 p4 p5 p6 p7 p8 p9 p10 p11 p12)
noncomputable def Sp.L_98_30_0_0 : Nat → Int → (List Int × List Int × Int × Unit) → (Int × Int × Unit) → (Int × Unit) → (Int × Int × Unit) → (Int × Int × Unit) → (List Int × List Int × Int × Unit) → (Int × Unit) → List Int → List Int → (Int × Unit) → List Int → List Int → Option E_98_30_0_0
 | 0, _, _, _, _, _, _, _, _, _, _, _, _, _ => none
 | m + 1, p0, p1, p2, p3, p4, p5, p6, p7, p8, p9, p10, p11, p12 => S_98_30_0_0 (L_98_30_0_0 m) some p0 p1 p2 p3 p4 p5 p6 p7 p8 p9 p10 p11 p12
noncomputable def l_98_30_0_0 (m : Nat) (a : T_98_30_0_0.E) : Option E_98_30_0_0 := L_98_30_0_0 m a.1 a.2.1 a.2.2.1 a.2.2.2.1 a.2.2.2.2.1 a.2.2.2.2.2.1 a.2.2.2.2.2.2.1 a.2.2.2.2.2.2.2.1 a.2.2.2.2.2.2.2.2.1 a.2.2.2.2.2.2.2.2.2.1 a.2.2.2.2.2.2.2.2.2.2.1 a.2.2.2.2.2.2.2.2.2.2.2.1 a.2.2.2.2.2.2.2.2.2.2.2.2.1
noncomputable def O_98_30_0_0 {R : Type} : Orc R := orL T_98_30_0_0 (l_98_30_0_0 FU) Y_98_30_0_0
theorem OK_98_30_0_0 {R : Type} : okF (R := R) sm_98 0 (nf 30 0) O_98_30_0_0 := lp0 T_98_30_0_0 l_98_30_0_0 (fun R K k a => S_98_30_0_0 (fun p0 p1 p2 p3 p4 p5 p6 p7 p8 p9 p10 p11 p12 => K (p0, p1, p2, p3, p4, p5, p6, p7, p8, p9, p10, p11, p12, ())) k a.1 a.2.1 a.2.2.1 a.2.2.2.1 a.2.2.2.2.1 a.2.2.2.2.2.1 a.2.2.2.2.2.2.1 a.2.2.2.2.2.2.2.1 a.2.2.2.2.2.2.2.2.1 a.2.2.2.2.2.2.2.2.2.1 a.2.2.2.2.2.2.2.2.2.2.1 a.2.2.2.2.2.2.2.2.2.2.2.1 a.2.2.2.2.2.2.2.2.2.2.2.2.1) Y_98_30_0_0 (fun _ _ _ => by kernel_rfl) (fun _ _ _ => by
 unfold S_98_30_0_0
 repeat' first | apply gdN | apply condN | rfl) (ok0 _)
noncomputable def T_98_30_1_0 : PS := ⟨44, [(1, .kc (.ptr 5 [])), (2, .kc (.ptr 6 [])), (3, .kc (.ptr 9 [])), (5, .hv (.int .i64))], [.mem (.hv Zy98_3), .mem (.hv Zy98_2), .mem (.pr (.kc (.nil 26 (.int .u32))) (.pr (.kc (.nil 3 (.int .i64))) (.hv (.pair (.int .i64) .unit)))), .mem (.hv Zy98_2), .mem (.hv Zy98_2), .mem (.hv Zy98_3), .mem (.pr (.kc (.whole 7)) (.pr (.kc (.whole 8)) (.hv (.pair (.int .i64) .unit)))), .vec 26 (.int .u32), .vec 3 (.int .i64), .mem (.pr (.kc (.whole 10)) (.pr (.kc (.whole 11)) (.hv (.pair (.int .i64) .unit)))), .vec 26 (.int .u32), .vec 3 (.int .i64)], 5⟩
inductive Sp.E_98_30_1_0 where
 | e0 (p1 : Zt98_1) (p2 : Zt98_0) (p3 : Int × Unit) (p4 p5 : Zt98_0) (p7 : Int × Unit) (p8 p9 : List Int) (p10 : Int × Unit) (p11 p12 : List Int)
noncomputable def Sp.B_98_30_1_0 {R : Type} (r : Option E_98_30_1_0) (k0 : Zt98_1 → Zt98_0 → (Int × Unit) → Zt98_0 → Zt98_0 → (Int × Unit) → List Int → List Int → (Int × Unit) → List Int → List Int → Option R) : Option R := match r with
 | none => none
 | some (.e0 p1 p2 p3 p4 p5 p7 p8 p9 p10 p11 p12) => k0 p1 p2 p3 p4 p5 p7 p8 p9 p10 p11 p12
noncomputable def Y_98_30_1_0 {R : Type} (k : Ex → St → Option R) : E_98_30_1_0 → Option R
 | .e0 p1 p2 p3 p4 p5 p7 p8 p9 p10 p11 p12 => k (Ex.exit 2) (sx 44 [(2, CV.ptr 5 []), (3, CV.ptr 8 [])] [Blk.mem (CV.pure (Ty.pair (Ty.slice (Ty.int u32)) (Ty.pair (Ty.slice (Ty.int i64)) (Ty.pair (Ty.int i64) Ty.unit))) p1), Blk.mem (CV.pure (Ty.pair (Ty.int i64) (Ty.pair (Ty.int u32) Ty.unit)) p2), Blk.mem (CV.pair (CV.nil 26 (Ty.int u32)) (CV.pair (CV.nil 3 (Ty.int i64)) (CV.pure (Ty.pair (Ty.int i64) Ty.unit) p3))), Blk.mem (CV.pure (Ty.pair (Ty.int i64) (Ty.pair (Ty.int u32) Ty.unit)) p4), Blk.mem (CV.pure (Ty.pair (Ty.int i64) (Ty.pair (Ty.int u32) Ty.unit)) p5), Blk.mem (CV.pair (CV.whole 6) (CV.pair (CV.whole 7) (CV.pure (Ty.pair (Ty.int i64) Ty.unit) p7))), Blk.vec 26 (Ty.int u32) p8, Blk.vec 3 (Ty.int i64) p9, Blk.mem (CV.pair (CV.whole 9) (CV.pair (CV.whole 10) (CV.pure (Ty.pair (Ty.int i64) Ty.unit) p10))), Blk.vec 26 (Ty.int u32) p11, Blk.vec 3 (Ty.int i64) p12] 5)
noncomputable def Sp.S_98_30_1_0 {R : Type} (K : Int → (List Int × List Int × Int × Unit) → (Int × Int × Unit) → (Int × Unit) → (Int × Int × Unit) → (Int × Int × Unit) → (List Int × List Int × Int × Unit) → (Int × Unit) → List Int → List Int → (Int × Unit) → List Int → List Int → Option R) (k : E_98_30_1_0 → Option R) (p0 : Int) (p1 : List Int × List Int × Int × Unit) (p2 : Int × Int × Unit) (p3 : Int × Unit) (p4 p5 : Int × Int × Unit) (p6 : List Int × List Int × Int × Unit) (p7 : Int × Unit) (p8 p9 : List Int) (p10 : Int × Unit) (p11 p12 : List Int) : Option R :=
 bif decide (p0 < (↑(length (p6.2.1)) : Int)) then gd (inB p0 (length (p6.2.1))) (gd (room (length p12 + 1) 8) (K (wrap i64 (p0 + 1)) p1 p2 p3 p4 p5 p6 p7 p8 p9 p10 p11 (p12 ++ [getD (p6.2.1) (toNat p0) 0]))) else k (E_98_30_1_0.e0 p1 p2 p3 p4 p5 p7 p8 p9 p10 p11 p12)
noncomputable def Sp.L_98_30_1_0 : Nat → Int → (List Int × List Int × Int × Unit) → (Int × Int × Unit) → (Int × Unit) → (Int × Int × Unit) → (Int × Int × Unit) → (List Int × List Int × Int × Unit) → (Int × Unit) → List Int → List Int → (Int × Unit) → List Int → List Int → Option E_98_30_1_0
 | 0, _, _, _, _, _, _, _, _, _, _, _, _, _ => none
 | m + 1, p0, p1, p2, p3, p4, p5, p6, p7, p8, p9, p10, p11, p12 => S_98_30_1_0 (L_98_30_1_0 m) some p0 p1 p2 p3 p4 p5 p6 p7 p8 p9 p10 p11 p12
noncomputable def l_98_30_1_0 (m : Nat) (a : T_98_30_1_0.E) : Option E_98_30_1_0 := L_98_30_1_0 m a.1 a.2.1 a.2.2.1 a.2.2.2.1 a.2.2.2.2.1 a.2.2.2.2.2.1 a.2.2.2.2.2.2.1 a.2.2.2.2.2.2.2.1 a.2.2.2.2.2.2.2.2.1 a.2.2.2.2.2.2.2.2.2.1 a.2.2.2.2.2.2.2.2.2.2.1 a.2.2.2.2.2.2.2.2.2.2.2.1 a.2.2.2.2.2.2.2.2.2.2.2.2.1
noncomputable def O_98_30_1_0 {R : Type} : Orc R := orL T_98_30_1_0 (l_98_30_1_0 FU) Y_98_30_1_0
theorem OK_98_30_1_0 {R : Type} : okF (R := R) sm_98 0 (nf 30 1) O_98_30_1_0 := lp0 T_98_30_1_0 l_98_30_1_0 (fun R K k a => S_98_30_1_0 (fun p0 p1 p2 p3 p4 p5 p6 p7 p8 p9 p10 p11 p12 => K (p0, p1, p2, p3, p4, p5, p6, p7, p8, p9, p10, p11, p12, ())) k a.1 a.2.1 a.2.2.1 a.2.2.2.1 a.2.2.2.2.1 a.2.2.2.2.2.1 a.2.2.2.2.2.2.1 a.2.2.2.2.2.2.2.1 a.2.2.2.2.2.2.2.2.1 a.2.2.2.2.2.2.2.2.2.1 a.2.2.2.2.2.2.2.2.2.2.1 a.2.2.2.2.2.2.2.2.2.2.2.1 a.2.2.2.2.2.2.2.2.2.2.2.2.1) Y_98_30_1_0 (fun _ _ _ => by kernel_rfl) (fun _ _ _ => by
 unfold S_98_30_1_0
 repeat' first | apply gdN | apply condN | rfl) (ok0 _)
noncomputable def g_98_30 {R : Type} : List CV → List Blk → (CV → List Blk → Option R) → Option R := evFnL sm_98 FU (ovr noO (evFn sm_98 fns FU 0)) (mkT (fB fns 30) [O_98_30_0_0, O_98_30_1_0]) (fO fns 30)
theorem g_98_30_ok {R : Type} (args : List CV) (hp : List Blk) (k : CV → List Blk → Option R) (r : R) (h : g_98_30 args hp k = some r) : evFn sm_98 fns FU 1 30 args hp k = some r := runG noO_ok (os := [O_98_30_0_0, O_98_30_1_0]) ⟨OK_98_30_0_0, OK_98_30_1_0, trivial⟩ h
noncomputable def ov_98_98 {R : Type} : Nat → Option (List CV → List Blk → (CV → List Blk → Option R) → Option R) := fun f' => bif Nat.beq f' 30 then some g_98_30 else none
theorem ov_98_98_ok {R : Type} : OvrOK (R := R) ov_98_98 (evFn sm_98 fns FU 1) := by
 intro f' g h args hp k r hg
 dsimp only [ov_98_98] at h
 by_cases h30 : f' = 30
 · subst h30
   injection h with h
   subst h
   exact evFn_le 0 (g_98_30_ok _ _ _ _ hg)
 rw [nbeq_ne h30, cond_false] at h
 cases h
noncomputable def T_98_0 : PS := ⟨87, [(1, .hv (.int .i64)), (6, .kc (.ptr 0 [])), (7, .kc (.ptr 3 [])), (9, .hv (.int .u32)), (10, .kc (.ptr 4 [])), (11, .hv (.int .i64)), (12, .kc (.ptr 5 [])), (13, .hv (.int .i64))], [.mem (.pr (.kc (.whole 1)) (.pr (.kc (.whole 2)) (.hv (.pair (.int .i64) .unit)))), .vec 26 (.int .u32), .vec 3 (.int .i64), .mem (.hv Zy98_2), .mem (.hv Zy98_2), .mem (.pr (.kc (.whole 6)) (.pr (.kc (.whole 7)) (.hv (.pair (.int .i64) .unit)))), .vec 26 (.int .u32), .vec 3 (.int .i64)], 0⟩
inductive Sp.E_98_0 where
 | e0 (p2 : Int) (p4 : Int × Unit) (p5 p6 : List Int) (p7 p8 : Zt98_0) (p9 : Int × Unit) (p10 p11 : List Int)
noncomputable def Sp.B_98_0 {R : Type} (r : Option E_98_0) (k0 : Int → (Int × Unit) → List Int → List Int → Zt98_0 → Zt98_0 → (Int × Unit) → List Int → List Int → Option R) : Option R := match r with
 | none => none
 | some (.e0 p2 p4 p5 p6 p7 p8 p9 p10 p11) => k0 p2 p4 p5 p6 p7 p8 p9 p10 p11
noncomputable def Y_98_0 {R : Type} (k : Ex → St → Option R) : E_98_0 → Option R
 | .e0 p2 p4 p5 p6 p7 p8 p9 p10 p11 => k (Ex.exit 0) (sx 87 [(6, CV.ptr 0 []), (7, CV.ptr 3 []), (10, CV.ptr 4 []), (11, CV.int i64 p2), (12, CV.ptr 5 [])] [Blk.mem (CV.pair (CV.whole 1) (CV.pair (CV.whole 2) (CV.pure (Ty.pair (Ty.int i64) Ty.unit) p4))), Blk.vec 26 (Ty.int u32) p5, Blk.vec 3 (Ty.int i64) p6, Blk.mem (CV.pure (Ty.pair (Ty.int i64) (Ty.pair (Ty.int u32) Ty.unit)) p7), Blk.mem (CV.pure (Ty.pair (Ty.int i64) (Ty.pair (Ty.int u32) Ty.unit)) p8), Blk.mem (CV.pair (CV.whole 6) (CV.pair (CV.whole 7) (CV.pure (Ty.pair (Ty.int i64) Ty.unit) p9))), Blk.vec 26 (Ty.int u32) p10, Blk.vec 3 (Ty.int i64) p11])
noncomputable def Sp.S_98_0 {R : Type} (K : Int → Int → Int → Int → (Int × Unit) → List Int → List Int → (Int × Int × Unit) → (Int × Int × Unit) → (Int × Unit) → List Int → List Int → Option R) (k : E_98_0 → Option R) (p0 p1 p2 p3 : Int) (p4 : Int × Unit) (p5 p6 : List Int) (p7 p8 : Int × Int × Unit) (p9 : Int × Unit) (p10 p11 : List Int) : Option R :=
 bif decide (p3 < 64) then gd (inB (wrap i64 (wrap i64 (p0 * 64) + p3)) (length p10)) (gd (decide (toNat (wrap i64 (wrap i64 (p0 * 64) + p3)) < length p10) && true) (gd (inB (wrap i64 (wrap i64 (p0 * 64) + p3)) (length p10)) (gd (decide (toNat (wrap i64 (wrap i64 (p0 * 64) + p3)) < length p10) && true && true) (K p0 p1 p2 (wrap i64 (p3 + 1)) p4 p5 p6 p7 p8 p9 (List.set p10 (toNat (wrap i64 (wrap i64 (p0 * 64) + p3))) (Sp.orI u32 (getD p10 (toNat (wrap i64 (wrap i64 (p0 * 64) + p3))) 0) p1)) p11)))) else k (E_98_0.e0 p2 p4 p5 p6 p7 p8 p9 p10 p11)
noncomputable def Sp.L_98_0 : Nat → Int → Int → Int → Int → (Int × Unit) → List Int → List Int → (Int × Int × Unit) → (Int × Int × Unit) → (Int × Unit) → List Int → List Int → Option E_98_0
 | 0, _, _, _, _, _, _, _, _, _, _, _, _ => none
 | m + 1, p0, p1, p2, p3, p4, p5, p6, p7, p8, p9, p10, p11 => S_98_0 (L_98_0 m) some p0 p1 p2 p3 p4 p5 p6 p7 p8 p9 p10 p11
noncomputable def l_98_0 (m : Nat) (a : T_98_0.E) : Option E_98_0 := L_98_0 m a.1 a.2.1 a.2.2.1 a.2.2.2.1 a.2.2.2.2.1 a.2.2.2.2.2.1 a.2.2.2.2.2.2.1 a.2.2.2.2.2.2.2.1 a.2.2.2.2.2.2.2.2.1 a.2.2.2.2.2.2.2.2.2.1 a.2.2.2.2.2.2.2.2.2.2.1 a.2.2.2.2.2.2.2.2.2.2.2.1
noncomputable def O_98_0 {R : Type} : Orc R := orL T_98_0 (l_98_0 FU) Y_98_0
theorem OK_98_0 {R : Type} : okF (R := R) sm_98 1 (nf 98 0) O_98_0 := lp ov_98_98_ok (os := []) trivial T_98_0 l_98_0 (fun R K k a => S_98_0 (fun p0 p1 p2 p3 p4 p5 p6 p7 p8 p9 p10 p11 => K (p0, p1, p2, p3, p4, p5, p6, p7, p8, p9, p10, p11, ())) k a.1 a.2.1 a.2.2.1 a.2.2.2.1 a.2.2.2.2.1 a.2.2.2.2.2.1 a.2.2.2.2.2.2.1 a.2.2.2.2.2.2.2.1 a.2.2.2.2.2.2.2.2.1 a.2.2.2.2.2.2.2.2.2.1 a.2.2.2.2.2.2.2.2.2.2.1 a.2.2.2.2.2.2.2.2.2.2.2.1) Y_98_0 (fun _ => rfl) (fun _ _ => rfl) (fun k K a => by kernel_rfl) (fun Y K a => by
 unfold S_98_0
 repeat' first | apply gdN | apply condN | rfl) (ok0 _)
noncomputable def F_98 (a0 : ((List Int) × ((List Int) × (Int × Unit)))) (a1 : Int) (a2 : (Int × (Int × Unit))) : Option (((List Int) × ((List Int) × (Int × Unit))) × (Int × (Int × Unit)) × Int × Unit) :=
 gd (p_12 a0) (bif !(v_12 a0).1 then some (([], [], 0, PUnit.unit), (0, 0, PUnit.unit), 1, PUnit.unit) else gd (p_13 a2) (bif !(v_13 a2).1 then some (([], [], 0, PUnit.unit), (0, 0, PUnit.unit), 1, PUnit.unit) else bif decide (a1 < 0) then some (([], [], 0, PUnit.unit), (0, 0, PUnit.unit), 2, PUnit.unit) else bif decide (a1 ≥ (↑(length (a0.2.1)) : Int)) then some (([], [], 0, PUnit.unit), (0, 0, PUnit.unit), 2, PUnit.unit) else gd (inB a1 (length (a0.2.1))) (bif getD (a0.2.1) (toNat a1) 0 == a0.2.2.1 then some (([], [], 0, PUnit.unit), (0, 0, PUnit.unit), 19, PUnit.unit) else gd (p_106 a2) (B_98_30_0_0 (L_98_30_0_0 4611686018427387904 0 a0 a2 (0, PUnit.unit) (0, 0, PUnit.unit) ((v_106 a2).2.1) a0 (0, PUnit.unit) [] [] (a0.2.2.1, PUnit.unit) [] []) fun y40 y41 y42 y43 y44 y45 y46 y47 y48 y49 y50 y51 => B_98_30_1_0 (L_98_30_1_0 4611686018427387904 0 y40 y41 y42 y43 y44 y45 y46 y47 y48 y49 y50 y51) fun y52 y53 y54 y55 y56 y57 y58 y59 y60 y61 y62 => bif decide (y53.1 > 0) then gd (inB a1 (length y62)) (gd (decide (toNat a1 < length y62) && true) (gd (inB a1 (length y62)) (gd (decide (toNat a1 < length y62) && true && true) (B_98_0 (L_98_0 4611686018427387904 a1 ((v_106 a2).1) ((v_106 a2).2.2.1) 0 y54 [] [] y55 y56 y60 y61 (List.set y62 (toNat a1) (wrap i64 (getD y62 (toNat a1) (0 :Int) + (1 :Int))))) fun y65 y66 y67 y68 y69 y70 y71 y72 y73 => some ((y72, y73, y71), y70, y65, PUnit.unit))))) else some ((y61, y62, y60), y56, (v_106 a2).2.2.1, PUnit.unit)))))
noncomputable def Sp.p_98 (a0 : ((List Int) × ((List Int) × (Int × Unit)))) (a1 : Int) (a2 : (Int × (Int × Unit))) : Bool := (F_98 a0 a1 a2).isSome
noncomputable def Sp.v_98 (a0 : ((List Int) × ((List Int) × (Int × Unit)))) (a1 : Int) (a2 : (Int × (Int × Unit))) : ((List Int) × ((List Int) × (Int × Unit))) × (Int × (Int × Unit)) × Int × Unit := (F_98 a0 a1 a2).getD (dfH R_98)
noncomputable def s_98 : Summ := shS A_98 R_98 (fun x => p_98 x.1 x.2.1 x.2.2.1) (fun x => v_98 x.1 x.2.1 x.2.2.1)
theorem pv_98 (a0 : ((List Int) × ((List Int) × (Int × Unit)))) (a1 : Int) (a2 : (Int × (Int × Unit))) {y : ((List Int) × ((List Int) × (Int × Unit))) × (Int × (Int × Unit)) × Int × Unit} (h : F_98 a0 a1 a2 = some y) : p_98 a0 a1 a2 = true ∧ v_98 a0 a1 a2 = y := pvG h
theorem run_98 (x : HDen A_98) (y : HDen R_98) (h : F_98 x.1 x.2.1 x.2.2.1 = some y) : rnF sm_98 2 98 A_98 R_98 x y := runG ov_98_98_ok (os := [O_98_0]) ⟨OK_98_0, trivial⟩ (Eq.trans (by kernel_rfl) h)
end
noncomputable section
abbrev A_75 : List Ty := [(.pair (.slice (.int .u32)) (.pair (.slice (.int .i64)) (.pair (.int .i64) .unit))), (.int .i64), (.pair (.int .i64) (.pair (.int .u32) .unit))]
abbrev R_75 : List Ty := [(.pair (.slice (.int .u32)) (.pair (.slice (.int .i64)) (.pair (.int .i64) .unit))), (.pair (.int .i64) (.pair (.int .u32) .unit)), (.int .i64)]
noncomputable def sm_75 : Nat → Option Summ := smL [(98, s_98)]
noncomputable def F_75 (a0 : ((List Int) × ((List Int) × (Int × Unit)))) (a1 : Int) (a2 : (Int × (Int × Unit))) : Option (((List Int) × ((List Int) × (Int × Unit))) × (Int × (Int × Unit)) × Int × Unit) :=
 gd (p_98 a0 a1 a2) (some ((v_98 a0 a1 a2).1, (v_98 a0 a1 a2).2.1, (v_98 a0 a1 a2).2.2.1, PUnit.unit))
noncomputable def Sp.p_75 (a0 : ((List Int) × ((List Int) × (Int × Unit)))) (a1 : Int) (a2 : (Int × (Int × Unit))) : Bool := (F_75 a0 a1 a2).isSome
noncomputable def Sp.v_75 (a0 : ((List Int) × ((List Int) × (Int × Unit)))) (a1 : Int) (a2 : (Int × (Int × Unit))) : ((List Int) × ((List Int) × (Int × Unit))) × (Int × (Int × Unit)) × Int × Unit := (F_75 a0 a1 a2).getD (dfH R_75)
noncomputable def s_75 : Summ := shS A_75 R_75 (fun x => p_75 x.1 x.2.1 x.2.2.1) (fun x => v_75 x.1 x.2.1 x.2.2.1)
theorem pv_75 (a0 : ((List Int) × ((List Int) × (Int × Unit)))) (a1 : Int) (a2 : (Int × (Int × Unit))) {y : ((List Int) × ((List Int) × (Int × Unit))) × (Int × (Int × Unit)) × Int × Unit} (h : F_75 a0 a1 a2 = some y) : p_75 a0 a1 a2 = true ∧ v_75 a0 a1 a2 = y := pvG h
theorem run_75 (x : HDen A_75) (y : HDen R_75) (h : F_75 x.1 x.2.1 x.2.2.1 = some y) : rnF sm_75 1 75 A_75 R_75 x y := runG noO_ok (os := []) trivial (Eq.trans (by kernel_rfl) h)
end
noncomputable section
abbrev Zt99_0 : Type := List Int × List Int × Int × Unit
abbrev Zt99_1 : Type := Int × Int × Unit
abbrev Zy99_2 : Ty := (.pair (.slice (.int .u32)) (.pair (.slice (.int .i64)) (.pair (.int .i64) .unit)))
abbrev Zy99_3 : Ty := (.pair (.int .i64) (.pair (.int .u32) .unit))
abbrev A_99 : List Ty := [(.pair (.slice (.int .u32)) (.pair (.slice (.int .i64)) (.pair (.int .i64) .unit))), (.int .i64), (.int .u32), (.pair (.int .i64) (.pair (.int .u32) .unit))]
abbrev R_99 : List Ty := [(.pair (.slice (.int .u32)) (.pair (.slice (.int .i64)) (.pair (.int .i64) .unit))), (.pair (.int .i64) (.pair (.int .u32) .unit)), (.int .i64)]
noncomputable def sm_99 : Nat → Option Summ := smL [(12, s_12), (13, s_13), (106, s_106)]
noncomputable def T_99_30_0_0 : PS := ⟨44, [(1, .kc (.ptr 5 [])), (2, .kc (.ptr 6 [])), (3, .kc (.ptr 9 [])), (4, .hv (.int .i64))], [.mem (.hv Zy99_2), .mem (.hv Zy99_3), .mem (.pr (.kc (.nil 26 (.int .u32))) (.pr (.kc (.nil 3 (.int .i64))) (.hv (.pair (.int .i64) .unit)))), .mem (.hv Zy99_3), .mem (.hv Zy99_3), .mem (.hv Zy99_2), .mem (.pr (.kc (.whole 7)) (.pr (.kc (.whole 8)) (.hv (.pair (.int .i64) .unit)))), .vec 26 (.int .u32), .vec 3 (.int .i64), .mem (.pr (.kc (.whole 10)) (.pr (.kc (.whole 11)) (.hv (.pair (.int .i64) .unit)))), .vec 26 (.int .u32), .vec 3 (.int .i64)], 5⟩
inductive Sp.E_99_30_0_0 where
 | e0 (p1 : Zt99_0) (p2 : Zt99_1) (p3 : Int × Unit) (p4 p5 : Zt99_1) (p6 : Zt99_0) (p7 : Int × Unit) (p8 p9 : List Int) (p10 : Int × Unit) (p11 p12 : List Int)
noncomputable def Sp.B_99_30_0_0 {R : Type} (r : Option E_99_30_0_0) (k0 : Zt99_0 → Zt99_1 → (Int × Unit) → Zt99_1 → Zt99_1 → Zt99_0 → (Int × Unit) → List Int → List Int → (Int × Unit) → List Int → List Int → Option R) : Option R := match r with
 | none => none
 | some (.e0 p1 p2 p3 p4 p5 p6 p7 p8 p9 p10 p11 p12) => k0 p1 p2 p3 p4 p5 p6 p7 p8 p9 p10 p11 p12
noncomputable def Y_99_30_0_0 {R : Type} (k : Ex → St → Option R) : E_99_30_0_0 → Option R
 | .e0 p1 p2 p3 p4 p5 p6 p7 p8 p9 p10 p11 p12 => k (Ex.exit 0) (sx 44 [(1, CV.ptr 5 []), (2, CV.ptr 6 []), (3, CV.ptr 9 [])] [Blk.mem (CV.pure (Ty.pair (Ty.slice (Ty.int u32)) (Ty.pair (Ty.slice (Ty.int i64)) (Ty.pair (Ty.int i64) Ty.unit))) p1), Blk.mem (CV.pure (Ty.pair (Ty.int i64) (Ty.pair (Ty.int u32) Ty.unit)) p2), Blk.mem (CV.pair (CV.nil 26 (Ty.int u32)) (CV.pair (CV.nil 3 (Ty.int i64)) (CV.pure (Ty.pair (Ty.int i64) Ty.unit) p3))), Blk.mem (CV.pure (Ty.pair (Ty.int i64) (Ty.pair (Ty.int u32) Ty.unit)) p4), Blk.mem (CV.pure (Ty.pair (Ty.int i64) (Ty.pair (Ty.int u32) Ty.unit)) p5), Blk.mem (CV.pure (Ty.pair (Ty.slice (Ty.int u32)) (Ty.pair (Ty.slice (Ty.int i64)) (Ty.pair (Ty.int i64) Ty.unit))) p6), Blk.mem (CV.pair (CV.whole 7) (CV.pair (CV.whole 8) (CV.pure (Ty.pair (Ty.int i64) Ty.unit) p7))), Blk.vec 26 (Ty.int u32) p8, Blk.vec 3 (Ty.int i64) p9, Blk.mem (CV.pair (CV.whole 10) (CV.pair (CV.whole 11) (CV.pure (Ty.pair (Ty.int i64) Ty.unit) p10))), Blk.vec 26 (Ty.int u32) p11, Blk.vec 3 (Ty.int i64) p12] 5)
noncomputable def Sp.S_99_30_0_0 {R : Type} (K : Int → (List Int × List Int × Int × Unit) → (Int × Int × Unit) → (Int × Unit) → (Int × Int × Unit) → (Int × Int × Unit) → (List Int × List Int × Int × Unit) → (Int × Unit) → List Int → List Int → (Int × Unit) → List Int → List Int → Option R) (k : E_99_30_0_0 → Option R) (p0 : Int) (p1 : List Int × List Int × Int × Unit) (p2 : Int × Int × Unit) (p3 : Int × Unit) (p4 p5 : Int × Int × Unit) (p6 : List Int × List Int × Int × Unit) (p7 : Int × Unit) (p8 p9 : List Int) (p10 : Int × Unit) (p11 p12 : List Int) : Option R :=
 bif decide (p0 < (↑(length (p6.1)) : Int)) then gd (inB p0 (length (p6.1))) (gd (room (length p11 + 1) 4) (K (wrap i64 (p0 + 1)) p1 p2 p3 p4 p5 p6 p7 p8 p9 p10 (p11 ++ [getD (p6.1) (toNat p0) 0]) p12)) else k (E_99_30_0_0.e0 p1 p2 p3 p4 p5 p6 p7 p8 p9 p10 p11 p12)
noncomputable def Sp.L_99_30_0_0 : Nat → Int → (List Int × List Int × Int × Unit) → (Int × Int × Unit) → (Int × Unit) → (Int × Int × Unit) → (Int × Int × Unit) → (List Int × List Int × Int × Unit) → (Int × Unit) → List Int → List Int → (Int × Unit) → List Int → List Int → Option E_99_30_0_0
 | 0, _, _, _, _, _, _, _, _, _, _, _, _, _ => none
 | m + 1, p0, p1, p2, p3, p4, p5, p6, p7, p8, p9, p10, p11, p12 => S_99_30_0_0 (L_99_30_0_0 m) some p0 p1 p2 p3 p4 p5 p6 p7 p8 p9 p10 p11 p12
noncomputable def l_99_30_0_0 (m : Nat) (a : T_99_30_0_0.E) : Option E_99_30_0_0 := L_99_30_0_0 m a.1 a.2.1 a.2.2.1 a.2.2.2.1 a.2.2.2.2.1 a.2.2.2.2.2.1 a.2.2.2.2.2.2.1 a.2.2.2.2.2.2.2.1 a.2.2.2.2.2.2.2.2.1 a.2.2.2.2.2.2.2.2.2.1 a.2.2.2.2.2.2.2.2.2.2.1 a.2.2.2.2.2.2.2.2.2.2.2.1 a.2.2.2.2.2.2.2.2.2.2.2.2.1
noncomputable def O_99_30_0_0 {R : Type} : Orc R := orL T_99_30_0_0 (l_99_30_0_0 FU) Y_99_30_0_0
theorem OK_99_30_0_0 {R : Type} : okF (R := R) sm_99 0 (nf 30 0) O_99_30_0_0 := lp0 T_99_30_0_0 l_99_30_0_0 (fun R K k a => S_99_30_0_0 (fun p0 p1 p2 p3 p4 p5 p6 p7 p8 p9 p10 p11 p12 => K (p0, p1, p2, p3, p4, p5, p6, p7, p8, p9, p10, p11, p12, ())) k a.1 a.2.1 a.2.2.1 a.2.2.2.1 a.2.2.2.2.1 a.2.2.2.2.2.1 a.2.2.2.2.2.2.1 a.2.2.2.2.2.2.2.1 a.2.2.2.2.2.2.2.2.1 a.2.2.2.2.2.2.2.2.2.1 a.2.2.2.2.2.2.2.2.2.2.1 a.2.2.2.2.2.2.2.2.2.2.2.1 a.2.2.2.2.2.2.2.2.2.2.2.2.1) Y_99_30_0_0 (fun _ _ _ => by kernel_rfl) (fun _ _ _ => by
 unfold S_99_30_0_0
 repeat' first | apply gdN | apply condN | rfl) (ok0 _)
noncomputable def T_99_30_1_0 : PS := ⟨44, [(1, .kc (.ptr 5 [])), (2, .kc (.ptr 6 [])), (3, .kc (.ptr 9 [])), (5, .hv (.int .i64))], [.mem (.hv Zy99_2), .mem (.hv Zy99_3), .mem (.pr (.kc (.nil 26 (.int .u32))) (.pr (.kc (.nil 3 (.int .i64))) (.hv (.pair (.int .i64) .unit)))), .mem (.hv Zy99_3), .mem (.hv Zy99_3), .mem (.hv Zy99_2), .mem (.pr (.kc (.whole 7)) (.pr (.kc (.whole 8)) (.hv (.pair (.int .i64) .unit)))), .vec 26 (.int .u32), .vec 3 (.int .i64), .mem (.pr (.kc (.whole 10)) (.pr (.kc (.whole 11)) (.hv (.pair (.int .i64) .unit)))), .vec 26 (.int .u32), .vec 3 (.int .i64)], 5⟩
inductive Sp.E_99_30_1_0 where
 | e0 (p1 : Zt99_0) (p2 : Zt99_1) (p3 : Int × Unit) (p4 p5 : Zt99_1) (p7 : Int × Unit) (p8 p9 : List Int) (p10 : Int × Unit) (p11 p12 : List Int)
noncomputable def Sp.B_99_30_1_0 {R : Type} (r : Option E_99_30_1_0) (k0 : Zt99_0 → Zt99_1 → (Int × Unit) → Zt99_1 → Zt99_1 → (Int × Unit) → List Int → List Int → (Int × Unit) → List Int → List Int → Option R) : Option R := match r with
 | none => none
 | some (.e0 p1 p2 p3 p4 p5 p7 p8 p9 p10 p11 p12) => k0 p1 p2 p3 p4 p5 p7 p8 p9 p10 p11 p12
noncomputable def Y_99_30_1_0 {R : Type} (k : Ex → St → Option R) : E_99_30_1_0 → Option R
 | .e0 p1 p2 p3 p4 p5 p7 p8 p9 p10 p11 p12 => k (Ex.exit 2) (sx 44 [(2, CV.ptr 5 []), (3, CV.ptr 8 [])] [Blk.mem (CV.pure (Ty.pair (Ty.slice (Ty.int u32)) (Ty.pair (Ty.slice (Ty.int i64)) (Ty.pair (Ty.int i64) Ty.unit))) p1), Blk.mem (CV.pure (Ty.pair (Ty.int i64) (Ty.pair (Ty.int u32) Ty.unit)) p2), Blk.mem (CV.pair (CV.nil 26 (Ty.int u32)) (CV.pair (CV.nil 3 (Ty.int i64)) (CV.pure (Ty.pair (Ty.int i64) Ty.unit) p3))), Blk.mem (CV.pure (Ty.pair (Ty.int i64) (Ty.pair (Ty.int u32) Ty.unit)) p4), Blk.mem (CV.pure (Ty.pair (Ty.int i64) (Ty.pair (Ty.int u32) Ty.unit)) p5), Blk.mem (CV.pair (CV.whole 6) (CV.pair (CV.whole 7) (CV.pure (Ty.pair (Ty.int i64) Ty.unit) p7))), Blk.vec 26 (Ty.int u32) p8, Blk.vec 3 (Ty.int i64) p9, Blk.mem (CV.pair (CV.whole 9) (CV.pair (CV.whole 10) (CV.pure (Ty.pair (Ty.int i64) Ty.unit) p10))), Blk.vec 26 (Ty.int u32) p11, Blk.vec 3 (Ty.int i64) p12] 5)
noncomputable def Sp.S_99_30_1_0 {R : Type} (K : Int → (List Int × List Int × Int × Unit) → (Int × Int × Unit) → (Int × Unit) → (Int × Int × Unit) → (Int × Int × Unit) → (List Int × List Int × Int × Unit) → (Int × Unit) → List Int → List Int → (Int × Unit) → List Int → List Int → Option R) (k : E_99_30_1_0 → Option R) (p0 : Int) (p1 : List Int × List Int × Int × Unit) (p2 : Int × Int × Unit) (p3 : Int × Unit) (p4 p5 : Int × Int × Unit) (p6 : List Int × List Int × Int × Unit) (p7 : Int × Unit) (p8 p9 : List Int) (p10 : Int × Unit) (p11 p12 : List Int) : Option R :=
 bif decide (p0 < (↑(length (p6.2.1)) : Int)) then gd (inB p0 (length (p6.2.1))) (gd (room (length p12 + 1) 8) (K (wrap i64 (p0 + 1)) p1 p2 p3 p4 p5 p6 p7 p8 p9 p10 p11 (p12 ++ [getD (p6.2.1) (toNat p0) 0]))) else k (E_99_30_1_0.e0 p1 p2 p3 p4 p5 p7 p8 p9 p10 p11 p12)
noncomputable def Sp.L_99_30_1_0 : Nat → Int → (List Int × List Int × Int × Unit) → (Int × Int × Unit) → (Int × Unit) → (Int × Int × Unit) → (Int × Int × Unit) → (List Int × List Int × Int × Unit) → (Int × Unit) → List Int → List Int → (Int × Unit) → List Int → List Int → Option E_99_30_1_0
 | 0, _, _, _, _, _, _, _, _, _, _, _, _, _ => none
 | m + 1, p0, p1, p2, p3, p4, p5, p6, p7, p8, p9, p10, p11, p12 => S_99_30_1_0 (L_99_30_1_0 m) some p0 p1 p2 p3 p4 p5 p6 p7 p8 p9 p10 p11 p12
noncomputable def l_99_30_1_0 (m : Nat) (a : T_99_30_1_0.E) : Option E_99_30_1_0 := L_99_30_1_0 m a.1 a.2.1 a.2.2.1 a.2.2.2.1 a.2.2.2.2.1 a.2.2.2.2.2.1 a.2.2.2.2.2.2.1 a.2.2.2.2.2.2.2.1 a.2.2.2.2.2.2.2.2.1 a.2.2.2.2.2.2.2.2.2.1 a.2.2.2.2.2.2.2.2.2.2.1 a.2.2.2.2.2.2.2.2.2.2.2.1 a.2.2.2.2.2.2.2.2.2.2.2.2.1
noncomputable def O_99_30_1_0 {R : Type} : Orc R := orL T_99_30_1_0 (l_99_30_1_0 FU) Y_99_30_1_0
theorem OK_99_30_1_0 {R : Type} : okF (R := R) sm_99 0 (nf 30 1) O_99_30_1_0 := lp0 T_99_30_1_0 l_99_30_1_0 (fun R K k a => S_99_30_1_0 (fun p0 p1 p2 p3 p4 p5 p6 p7 p8 p9 p10 p11 p12 => K (p0, p1, p2, p3, p4, p5, p6, p7, p8, p9, p10, p11, p12, ())) k a.1 a.2.1 a.2.2.1 a.2.2.2.1 a.2.2.2.2.1 a.2.2.2.2.2.1 a.2.2.2.2.2.2.1 a.2.2.2.2.2.2.2.1 a.2.2.2.2.2.2.2.2.1 a.2.2.2.2.2.2.2.2.2.1 a.2.2.2.2.2.2.2.2.2.2.1 a.2.2.2.2.2.2.2.2.2.2.2.1 a.2.2.2.2.2.2.2.2.2.2.2.2.1) Y_99_30_1_0 (fun _ _ _ => by kernel_rfl) (fun _ _ _ => by
 unfold S_99_30_1_0
 repeat' first | apply gdN | apply condN | rfl) (ok0 _)
noncomputable def g_99_30 {R : Type} : List CV → List Blk → (CV → List Blk → Option R) → Option R := evFnL sm_99 FU (ovr noO (evFn sm_99 fns FU 0)) (mkT (fB fns 30) [O_99_30_0_0, O_99_30_1_0]) (fO fns 30)
theorem g_99_30_ok {R : Type} (args : List CV) (hp : List Blk) (k : CV → List Blk → Option R) (r : R) (h : g_99_30 args hp k = some r) : evFn sm_99 fns FU 1 30 args hp k = some r := runG noO_ok (os := [O_99_30_0_0, O_99_30_1_0]) ⟨OK_99_30_0_0, OK_99_30_1_0, trivial⟩ h
noncomputable def ov_99_99 {R : Type} : Nat → Option (List CV → List Blk → (CV → List Blk → Option R) → Option R) := fun f' => bif Nat.beq f' 30 then some g_99_30 else none
theorem ov_99_99_ok {R : Type} : OvrOK (R := R) ov_99_99 (evFn sm_99 fns FU 1) := by
 intro f' g h args hp k r hg
 dsimp only [ov_99_99] at h
 by_cases h30 : f' = 30
 · subst h30
   injection h with h
   subst h
   exact evFn_le 0 (g_99_30_ok _ _ _ _ hg)
 rw [nbeq_ne h30, cond_false] at h
 cases h
noncomputable def F_99 (a0 : ((List Int) × ((List Int) × (Int × Unit)))) (a1 a2 : Int) (a3 : (Int × (Int × Unit))) : Option (((List Int) × ((List Int) × (Int × Unit))) × (Int × (Int × Unit)) × Int × Unit) :=
 gd (p_12 a0) (bif !(v_12 a0).1 then some (([], [], 0, PUnit.unit), (0, 0, PUnit.unit), 1, PUnit.unit) else gd (p_13 a3) (bif !(v_13 a3).1 then some (([], [], 0, PUnit.unit), (0, 0, PUnit.unit), 1, PUnit.unit) else bif decide (a1 < 0) then some (([], [], 0, PUnit.unit), (0, 0, PUnit.unit), 2, PUnit.unit) else bif decide (a1 ≥ (↑(length (a0.1)) : Int)) then some (([], [], 0, PUnit.unit), (0, 0, PUnit.unit), 2, PUnit.unit) else gd (p_106 a3) (B_99_30_0_0 (L_99_30_0_0 4611686018427387904 0 a0 a3 (0, PUnit.unit) (0, 0, PUnit.unit) ((v_106 a3).2.1) a0 (0, PUnit.unit) [] [] (a0.2.2.1, PUnit.unit) [] []) fun y31 y32 y33 y34 y35 y36 y37 y38 y39 y40 y41 y42 => B_99_30_1_0 (L_99_30_1_0 4611686018427387904 0 y31 y32 y33 y34 y35 y36 y37 y38 y39 y40 y41 y42) fun y43 y44 y45 y46 y47 y48 y49 y50 y51 y52 y53 => gd (inB a1 (length (y43.1))) (gd (inB a1 (length y52)) (gd (decide (toNat a1 < length y52) && true && true) (some ((List.set y52 (toNat a1) (Sp.andI u32 (getD (y43.1) (toNat a1) 0) (Sp.orI u32 a2 (Sp.xorI u32 4294967295 ((v_106 a3).1)))), y53, y51), y47, (v_106 a3).2.2.1, PUnit.unit)))))))
noncomputable def Sp.p_99 (a0 : ((List Int) × ((List Int) × (Int × Unit)))) (a1 a2 : Int) (a3 : (Int × (Int × Unit))) : Bool := (F_99 a0 a1 a2 a3).isSome
noncomputable def Sp.v_99 (a0 : ((List Int) × ((List Int) × (Int × Unit)))) (a1 a2 : Int) (a3 : (Int × (Int × Unit))) : ((List Int) × ((List Int) × (Int × Unit))) × (Int × (Int × Unit)) × Int × Unit := (F_99 a0 a1 a2 a3).getD (dfH R_99)
noncomputable def s_99 : Summ := shS A_99 R_99 (fun x => p_99 x.1 x.2.1 x.2.2.1 x.2.2.2.1) (fun x => v_99 x.1 x.2.1 x.2.2.1 x.2.2.2.1)
theorem pv_99 (a0 : ((List Int) × ((List Int) × (Int × Unit)))) (a1 a2 : Int) (a3 : (Int × (Int × Unit))) {y : ((List Int) × ((List Int) × (Int × Unit))) × (Int × (Int × Unit)) × Int × Unit} (h : F_99 a0 a1 a2 a3 = some y) : p_99 a0 a1 a2 a3 = true ∧ v_99 a0 a1 a2 a3 = y := pvG h
theorem run_99 (x : HDen A_99) (y : HDen R_99) (h : F_99 x.1 x.2.1 x.2.2.1 x.2.2.2.1 = some y) : rnF sm_99 2 99 A_99 R_99 x y := runG ov_99_99_ok (os := []) trivial (Eq.trans (by kernel_rfl) h)
end
noncomputable section
abbrev A_76 : List Ty := [(.pair (.slice (.int .u32)) (.pair (.slice (.int .i64)) (.pair (.int .i64) .unit))), (.int .i64), (.int .u32), (.pair (.int .i64) (.pair (.int .u32) .unit))]
abbrev R_76 : List Ty := [(.pair (.slice (.int .u32)) (.pair (.slice (.int .i64)) (.pair (.int .i64) .unit))), (.pair (.int .i64) (.pair (.int .u32) .unit)), (.int .i64)]
noncomputable def sm_76 : Nat → Option Summ := smL [(99, s_99)]
noncomputable def F_76 (a0 : ((List Int) × ((List Int) × (Int × Unit)))) (a1 a2 : Int) (a3 : (Int × (Int × Unit))) : Option (((List Int) × ((List Int) × (Int × Unit))) × (Int × (Int × Unit)) × Int × Unit) :=
 gd (p_99 a0 a1 a2 a3) (some ((v_99 a0 a1 a2 a3).1, (v_99 a0 a1 a2 a3).2.1, (v_99 a0 a1 a2 a3).2.2.1, PUnit.unit))
noncomputable def Sp.p_76 (a0 : ((List Int) × ((List Int) × (Int × Unit)))) (a1 a2 : Int) (a3 : (Int × (Int × Unit))) : Bool := (F_76 a0 a1 a2 a3).isSome
noncomputable def Sp.v_76 (a0 : ((List Int) × ((List Int) × (Int × Unit)))) (a1 a2 : Int) (a3 : (Int × (Int × Unit))) : ((List Int) × ((List Int) × (Int × Unit))) × (Int × (Int × Unit)) × Int × Unit := (F_76 a0 a1 a2 a3).getD (dfH R_76)
noncomputable def s_76 : Summ := shS A_76 R_76 (fun x => p_76 x.1 x.2.1 x.2.2.1 x.2.2.2.1) (fun x => v_76 x.1 x.2.1 x.2.2.1 x.2.2.2.1)
theorem pv_76 (a0 : ((List Int) × ((List Int) × (Int × Unit)))) (a1 a2 : Int) (a3 : (Int × (Int × Unit))) {y : ((List Int) × ((List Int) × (Int × Unit))) × (Int × (Int × Unit)) × Int × Unit} (h : F_76 a0 a1 a2 a3 = some y) : p_76 a0 a1 a2 a3 = true ∧ v_76 a0 a1 a2 a3 = y := pvG h
theorem run_76 (x : HDen A_76) (y : HDen R_76) (h : F_76 x.1 x.2.1 x.2.2.1 x.2.2.2.1 = some y) : rnF sm_76 1 76 A_76 R_76 x y := runG noO_ok (os := []) trivial (Eq.trans (by kernel_rfl) h)
end
noncomputable section
abbrev Zt56_0 : Type := (List Int × List Int × Int × Unit) × Int × Int × Unit
abbrev Zt56_1 : Type := Int × Int × Unit
abbrev Zt56_2 : Type := List (Bool × Int × Int × Unit)
abbrev Zt56_3 : Type := (((List Int) × ((List Int) × (Int × Unit))) × (Int × (Int × Unit)))
abbrev A_56 : List Ty := [(.pair (.pair (.slice (.int .u32)) (.pair (.slice (.int .i64)) (.pair (.int .i64) .unit))) (.pair (.int .i64) (.pair (.int .i64) .unit))), (.slice (.pair .bool (.pair (.int .i64) (.pair (.int .u32) .unit)))), (.pair (.int .i64) (.pair (.int .u32) .unit))]
abbrev R_56 : List Ty := [(.pair (.pair (.slice (.int .u32)) (.pair (.slice (.int .i64)) (.pair (.int .i64) .unit))) (.pair (.int .i64) (.pair (.int .i64) .unit))), (.pair (.int .i64) (.pair (.int .u32) .unit)), (.int .i64)]
noncomputable def sm_56 : Nat → Option Summ := smL [(75, s_75), (76, s_76)]
noncomputable def T_56_0 : PS := ⟨62, [(1, .hv (.slice (.pair .bool (.pair (.int .i64) (.pair (.int .u32) .unit))))), (3, .kc (.ptr 0 [])), (5, .kc (.ptr 1 [])), (6, .kc (.ptr 2 [])), (7, .kc (.ptr 5 [])), (9, .hv (.int .i64))], [.mem (.hv (.pair (.pair (.slice (.int .u32)) (.pair (.slice (.int .i64)) (.pair (.int .i64) .unit))) (.pair (.int .i64) (.pair (.int .i64) .unit)))), .mem (.hv (.pair (.int .i64) (.pair (.int .u32) .unit))), .mem (.pr (.pr (.kc (.whole 3)) (.pr (.kc (.whole 4)) (.hv (.pair (.int .i64) .unit)))) (.hv (.pair (.int .i64) (.pair (.int .i64) .unit)))), .vec 26 (.int .u32), .vec 3 (.int .i64), .mem (.hv (.pair (.int .i64) (.pair (.int .u32) .unit)))], 0⟩
inductive Sp.E_56_0 where
 | e0 (p0 : Zt56_2) (p1 : Int) (p2 : Zt56_0) (p3 : Zt56_1)
 | e1 (p0 : Zt56_2) (p1 : Int) (p2 : Zt56_0) (p3 : Zt56_1)
 | e2 (p2 : Zt56_0) (p3 : Zt56_1) (p4 : Int × Unit) (p5 : Zt56_1) (p6 p7 : List Int) (p8 : Zt56_1)
noncomputable def Sp.B_56_0 {R : Type} (r : Option E_56_0) (k0 k1 : Zt56_2 → Int → Zt56_0 → Zt56_1 → Option R) (k2 : Zt56_0 → Zt56_1 → (Int × Unit) → Zt56_1 → List Int → List Int → Zt56_1 → Option R) : Option R := match r with
 | none => none
 | some (.e0 p0 p1 p2 p3) => k0 p0 p1 p2 p3
 | some (.e1 p0 p1 p2 p3) => k1 p0 p1 p2 p3
 | some (.e2 p2 p3 p4 p5 p6 p7 p8) => k2 p2 p3 p4 p5 p6 p7 p8
noncomputable def Y_56_0 {R : Type} (k : Ex → St → Option R) : E_56_0 → Option R
 | .e0 p0 p1 p2 p3 => k Ex.ret (sx 62 [(6, CV.ptr 0 []), (7, CV.ptr 1 []), (8, CV.int i64 ((v_75 (p2.1) ((getD p0 (toNat p1) Zd0).2.1) p3).2.2.1))] [Blk.mem (CV.pure (Ty.pair (Ty.pair (Ty.slice (Ty.int u32)) (Ty.pair (Ty.slice (Ty.int i64)) (Ty.pair (Ty.int i64) Ty.unit))) (Ty.pair (Ty.int i64) (Ty.pair (Ty.int i64) Ty.unit))) (((v_75 (p2.1) ((getD p0 (toNat p1) Zd0).2.1) p3).1, p2.2) : Zt56_3)), Blk.mem (CV.pure (Ty.pair (Ty.int i64) (Ty.pair (Ty.int u32) Ty.unit)) (((v_75 (p2.1) ((getD p0 (toNat p1) Zd0).2.1) p3).2.1) : (Int × (Int × Unit))))])
 | .e1 p0 p1 p2 p3 => k Ex.ret (sx 62 [(6, CV.ptr 0 []), (7, CV.ptr 1 []), (8, CV.int i64 ((v_76 (p2.1) ((getD p0 (toNat p1) Zd0).2.1) ((getD p0 (toNat p1) Zd0).2.2.1) p3).2.2.1))] [Blk.mem (CV.pure (Ty.pair (Ty.pair (Ty.slice (Ty.int u32)) (Ty.pair (Ty.slice (Ty.int i64)) (Ty.pair (Ty.int i64) Ty.unit))) (Ty.pair (Ty.int i64) (Ty.pair (Ty.int i64) Ty.unit))) (((v_76 (p2.1) ((getD p0 (toNat p1) Zd0).2.1) ((getD p0 (toNat p1) Zd0).2.2.1) p3).1, p2.2) : Zt56_3)), Blk.mem (CV.pure (Ty.pair (Ty.int i64) (Ty.pair (Ty.int u32) Ty.unit)) (((v_76 (p2.1) ((getD p0 (toNat p1) Zd0).2.1) ((getD p0 (toNat p1) Zd0).2.2.1) p3).2.1) : (Int × (Int × Unit))))])
 | .e2 p2 p3 p4 p5 p6 p7 p8 => k (Ex.exit 0) (sx 62 [(3, CV.ptr 0 []), (5, CV.ptr 1 []), (6, CV.ptr 2 []), (7, CV.ptr 5 [])] [Blk.mem (CV.pure (Ty.pair (Ty.pair (Ty.slice (Ty.int u32)) (Ty.pair (Ty.slice (Ty.int i64)) (Ty.pair (Ty.int i64) Ty.unit))) (Ty.pair (Ty.int i64) (Ty.pair (Ty.int i64) Ty.unit))) p2), Blk.mem (CV.pure (Ty.pair (Ty.int i64) (Ty.pair (Ty.int u32) Ty.unit)) p3), Blk.mem (CV.pair (CV.pair (CV.whole 3) (CV.pair (CV.whole 4) (CV.pure (Ty.pair (Ty.int i64) Ty.unit) p4))) (CV.pure (Ty.pair (Ty.int i64) (Ty.pair (Ty.int i64) Ty.unit)) p5)), Blk.vec 26 (Ty.int u32) p6, Blk.vec 3 (Ty.int i64) p7, Blk.mem (CV.pure (Ty.pair (Ty.int i64) (Ty.pair (Ty.int u32) Ty.unit)) p8)])
noncomputable def Sp.S_56_0 {R : Type} (K : (List (Bool × Int × Int × Unit)) → Int → ((List Int × List Int × Int × Unit) × Int × Int × Unit) → (Int × Int × Unit) → (Int × Unit) → (Int × Int × Unit) → List Int → List Int → (Int × Int × Unit) → Option R) (k : E_56_0 → Option R) (p0 : List (Bool × Int × Int × Unit)) (p1 : Int) (p2 : (List Int × List Int × Int × Unit) × Int × Int × Unit) (p3 : Int × Int × Unit) (p4 : Int × Unit) (p5 : Int × Int × Unit) (p6 p7 : List Int) (p8 : Int × Int × Unit) : Option R :=
 bif decide (p1 < (↑(length p0) : Int)) then gd (inB p1 (length p0)) (bif (getD p0 (toNat p1) Zd0).1 then gd (inB p1 (length p0)) (gd (p_75 (p2.1) ((getD p0 (toNat p1) Zd0).2.1) p3) (bif (v_75 (p2.1) ((getD p0 (toNat p1) Zd0).2.1) p3).2.2.1 != 0 then k (E_56_0.e0 p0 p1 p2 p3) else K p0 (wrap i64 (p1 + 1)) ((v_75 (p2.1) ((getD p0 (toNat p1) Zd0).2.1) p3).1, p2.2) ((v_75 (p2.1) ((getD p0 (toNat p1) Zd0).2.1) p3).2.1) p4 p5 p6 p7 p8)) else gd (inB p1 (length p0)) (gd (inB p1 (length p0)) (gd (p_76 (p2.1) ((getD p0 (toNat p1) Zd0).2.1) ((getD p0 (toNat p1) Zd0).2.2.1) p3) (bif (v_76 (p2.1) ((getD p0 (toNat p1) Zd0).2.1) ((getD p0 (toNat p1) Zd0).2.2.1) p3).2.2.1 != 0 then k (E_56_0.e1 p0 p1 p2 p3) else K p0 (wrap i64 (p1 + 1)) ((v_76 (p2.1) ((getD p0 (toNat p1) Zd0).2.1) ((getD p0 (toNat p1) Zd0).2.2.1) p3).1, p2.2) ((v_76 (p2.1) ((getD p0 (toNat p1) Zd0).2.1) ((getD p0 (toNat p1) Zd0).2.2.1) p3).2.1) p4 p5 p6 p7 p8)))) else k (E_56_0.e2 p2 p3 p4 p5 p6 p7 p8)
noncomputable def Sp.L_56_0 : Nat → (List (Bool × Int × Int × Unit)) → Int → ((List Int × List Int × Int × Unit) × Int × Int × Unit) → (Int × Int × Unit) → (Int × Unit) → (Int × Int × Unit) → List Int → List Int → (Int × Int × Unit) → Option E_56_0
 | 0, _, _, _, _, _, _, _, _, _ => none
 | m + 1, p0, p1, p2, p3, p4, p5, p6, p7, p8 => S_56_0 (L_56_0 m) some p0 p1 p2 p3 p4 p5 p6 p7 p8
noncomputable def l_56_0 (m : Nat) (a : T_56_0.E) : Option E_56_0 := L_56_0 m a.1 a.2.1 a.2.2.1 a.2.2.2.1 a.2.2.2.2.1 a.2.2.2.2.2.1 a.2.2.2.2.2.2.1 a.2.2.2.2.2.2.2.1 a.2.2.2.2.2.2.2.2.1
noncomputable def O_56_0 {R : Type} : Orc R := orL T_56_0 (l_56_0 FU) Y_56_0
theorem OK_56_0 {R : Type} : okF (R := R) sm_56 0 (nf 56 0) O_56_0 := lp0 T_56_0 l_56_0 (fun R K k a => S_56_0 (fun p0 p1 p2 p3 p4 p5 p6 p7 p8 => K (p0, p1, p2, p3, p4, p5, p6, p7, p8, ())) k a.1 a.2.1 a.2.2.1 a.2.2.2.1 a.2.2.2.2.1 a.2.2.2.2.2.1 a.2.2.2.2.2.2.1 a.2.2.2.2.2.2.2.1 a.2.2.2.2.2.2.2.2.1) Y_56_0 (fun _ _ _ => by kernel_rfl) (fun _ _ _ => by
 unfold S_56_0
 repeat' first | apply gdN | apply condN | rfl) (ok0 _)
noncomputable def F_56 (a0 : (((List Int) × ((List Int) × (Int × Unit))) × (Int × (Int × Unit)))) (a1 : (List (Bool × (Int × (Int × Unit))))) (a2 : (Int × (Int × Unit))) : Option ((((List Int) × ((List Int) × (Int × Unit))) × (Int × (Int × Unit))) × (Int × (Int × Unit)) × Int × Unit) :=
 B_56_0 (L_56_0 4611686018427387904 a1 0 a0 a2 (0, PUnit.unit) (0, 0, PUnit.unit) [] [] (0, 0, PUnit.unit)) (fun y15 y16 y17 y18 => some (((v_75 (y17.1) ((getD y15 (toNat y16) Zd0).2.1) y18).1, y17.2), (v_75 (y17.1) ((getD y15 (toNat y16) Zd0).2.1) y18).2.1, (v_75 (y17.1) ((getD y15 (toNat y16) Zd0).2.1) y18).2.2.1, PUnit.unit)) (fun y19 y20 y21 y22 => some (((v_76 (y21.1) ((getD y19 (toNat y20) Zd0).2.1) ((getD y19 (toNat y20) Zd0).2.2.1) y22).1, y21.2), (v_76 (y21.1) ((getD y19 (toNat y20) Zd0).2.1) ((getD y19 (toNat y20) Zd0).2.2.1) y22).2.1, (v_76 (y21.1) ((getD y19 (toNat y20) Zd0).2.1) ((getD y19 (toNat y20) Zd0).2.2.1) y22).2.2.1, PUnit.unit)) fun y23 y24 y25 y26 y27 y28 y29 => some (y23, y24, 0, PUnit.unit)
noncomputable def Sp.p_56 (a0 : (((List Int) × ((List Int) × (Int × Unit))) × (Int × (Int × Unit)))) (a1 : (List (Bool × (Int × (Int × Unit))))) (a2 : (Int × (Int × Unit))) : Bool := (F_56 a0 a1 a2).isSome
noncomputable def Sp.v_56 (a0 : (((List Int) × ((List Int) × (Int × Unit))) × (Int × (Int × Unit)))) (a1 : (List (Bool × (Int × (Int × Unit))))) (a2 : (Int × (Int × Unit))) : (((List Int) × ((List Int) × (Int × Unit))) × (Int × (Int × Unit))) × (Int × (Int × Unit)) × Int × Unit := (F_56 a0 a1 a2).getD (dfH R_56)
noncomputable def s_56 : Summ := shS A_56 R_56 (fun x => p_56 x.1 x.2.1 x.2.2.1) (fun x => v_56 x.1 x.2.1 x.2.2.1)
theorem pv_56 (a0 : (((List Int) × ((List Int) × (Int × Unit))) × (Int × (Int × Unit)))) (a1 : (List (Bool × (Int × (Int × Unit))))) (a2 : (Int × (Int × Unit))) {y : (((List Int) × ((List Int) × (Int × Unit))) × (Int × (Int × Unit))) × (Int × (Int × Unit)) × Int × Unit} (h : F_56 a0 a1 a2 = some y) : p_56 a0 a1 a2 = true ∧ v_56 a0 a1 a2 = y := pvG h
theorem run_56 (x : HDen A_56) (y : HDen R_56) (h : F_56 x.1 x.2.1 x.2.2.1 = some y) : rnF sm_56 1 56 A_56 R_56 x y := runG noO_ok (os := [O_56_0]) ⟨OK_56_0, trivial⟩ (Eq.trans (by kernel_rfl) h)
end
noncomputable section
abbrev A_17 : List Ty := [(.pair (.pair (.slice (.int .u32)) (.pair (.slice (.int .i64)) (.pair (.int .i64) .unit))) (.pair (.int .i64) (.pair (.int .i64) .unit))), (.pair (.int .i64) (.pair (.int .u32) .unit)), (.int .i64), (.pair (.pair (.slice (.int .u32)) (.pair (.slice (.int .i64)) (.pair (.int .i64) .unit))) (.pair (.int .i64) (.pair (.int .i64) .unit))), (.pair (.int .i64) (.pair (.int .u32) .unit)), (.slice (.pair .bool (.pair (.int .i64) (.pair (.int .u32) .unit)))), (.int .i64)]
abbrev R_17 : List Ty := [.bool]
noncomputable def sm_17 : Nat → Option Summ := smL [(14, s_14), (33, s_33), (56, s_56)]
noncomputable def F_17 (a0 : (((List Int) × ((List Int) × (Int × Unit))) × (Int × (Int × Unit)))) (a1 : (Int × (Int × Unit))) (a2 : Int) (a3 : (((List Int) × ((List Int) × (Int × Unit))) × (Int × (Int × Unit)))) (a4 : (Int × (Int × Unit))) (a5 : (List (Bool × (Int × (Int × Unit))))) (a6 : Int) : Option (Bool × Unit) :=
 bif a6 != 0 then bif a2 == a6 then gd (p_14 a0) (bif (v_14 a0).1 then some (Ty.beq (Ty.pair (Ty.int i64) (Ty.pair (Ty.int u32) Ty.unit)) a1 (0, 0, PUnit.unit), PUnit.unit) else some (false, PUnit.unit)) else some (false, PUnit.unit) else gd (p_56 a3 a5 a4) (bif a2 == (v_56 a3 a5 a4).2.2.1 then gd (p_33 a0 ((v_56 a3 a5 a4).1)) (bif (v_33 a0 ((v_56 a3 a5 a4).1)).1 then some (Ty.beq (Ty.pair (Ty.int i64) (Ty.pair (Ty.int u32) Ty.unit)) a1 ((v_56 a3 a5 a4).2.1), PUnit.unit) else some (false, PUnit.unit)) else some (false, PUnit.unit))
noncomputable def Sp.p_17 (a0 : (((List Int) × ((List Int) × (Int × Unit))) × (Int × (Int × Unit)))) (a1 : (Int × (Int × Unit))) (a2 : Int) (a3 : (((List Int) × ((List Int) × (Int × Unit))) × (Int × (Int × Unit)))) (a4 : (Int × (Int × Unit))) (a5 : (List (Bool × (Int × (Int × Unit))))) (a6 : Int) : Bool := (F_17 a0 a1 a2 a3 a4 a5 a6).isSome
noncomputable def Sp.v_17 (a0 : (((List Int) × ((List Int) × (Int × Unit))) × (Int × (Int × Unit)))) (a1 : (Int × (Int × Unit))) (a2 : Int) (a3 : (((List Int) × ((List Int) × (Int × Unit))) × (Int × (Int × Unit)))) (a4 : (Int × (Int × Unit))) (a5 : (List (Bool × (Int × (Int × Unit))))) (a6 : Int) : Bool × Unit := (F_17 a0 a1 a2 a3 a4 a5 a6).getD (dfH R_17)
noncomputable def s_17 : Summ := shN A_17 R_17 (fun x => p_17 x.1 x.2.1 x.2.2.1 x.2.2.2.1 x.2.2.2.2.1 x.2.2.2.2.2.1 x.2.2.2.2.2.2.1) (fun x => v_17 x.1 x.2.1 x.2.2.1 x.2.2.2.1 x.2.2.2.2.1 x.2.2.2.2.2.1 x.2.2.2.2.2.2.1)
theorem pv_17 (a0 : (((List Int) × ((List Int) × (Int × Unit))) × (Int × (Int × Unit)))) (a1 : (Int × (Int × Unit))) (a2 : Int) (a3 : (((List Int) × ((List Int) × (Int × Unit))) × (Int × (Int × Unit)))) (a4 : (Int × (Int × Unit))) (a5 : (List (Bool × (Int × (Int × Unit))))) (a6 : Int) {y : Bool × Unit} (h : F_17 a0 a1 a2 a3 a4 a5 a6 = some y) : p_17 a0 a1 a2 a3 a4 a5 a6 = true ∧ v_17 a0 a1 a2 a3 a4 a5 a6 = y := pvG h
theorem run_17 (x : HDen A_17) (y : HDen R_17) (h : F_17 x.1 x.2.1 x.2.2.1 x.2.2.2.1 x.2.2.2.2.1 x.2.2.2.2.2.1 x.2.2.2.2.2.2.1 = some y) : rnF sm_17 1 17 A_17 R_17 x y := runG noO_ok (os := []) trivial (Eq.trans (by kernel_rfl) h)
end
noncomputable section
abbrev A_15 : List Ty := [(.pair (.slice (.int .u32)) (.pair (.slice (.int .i64)) (.pair (.int .i64) .unit))), (.int .i64), (.int .i64)]
abbrev R_15 : List Ty := [.bool]
noncomputable def sm_15 : Nat → Option Summ := smL []
noncomputable def F_15 (a0 : ((List Int) × ((List Int) × (Int × Unit)))) (a1 a2 : Int) : Option (Bool × Unit) :=
 bif decide (a2 < 2) then some (false, PUnit.unit) else bif decide (a2 > 16) then some (false, PUnit.unit) else bif Int.tmod a2 (2 :Int) != (0 :Int) then some (false, PUnit.unit) else bif decide (a1 < 0) then some (false, PUnit.unit) else some (decide (a1 ≤ wrap i64 ((↑(length (a0.2.1)) : Int) - a2)), PUnit.unit)
noncomputable def Sp.p_15 (a0 : ((List Int) × ((List Int) × (Int × Unit)))) (a1 a2 : Int) : Bool := (F_15 a0 a1 a2).isSome
noncomputable def Sp.v_15 (a0 : ((List Int) × ((List Int) × (Int × Unit)))) (a1 a2 : Int) : Bool × Unit := (F_15 a0 a1 a2).getD (dfH R_15)
noncomputable def s_15 : Summ := shN A_15 R_15 (fun x => p_15 x.1 x.2.1 x.2.2.1) (fun x => v_15 x.1 x.2.1 x.2.2.1)
theorem pv_15 (a0 : ((List Int) × ((List Int) × (Int × Unit)))) (a1 a2 : Int) {y : Bool × Unit} (h : F_15 a0 a1 a2 = some y) : p_15 a0 a1 a2 = true ∧ v_15 a0 a1 a2 = y := pvG h
theorem run_15 (x : HDen A_15) (y : HDen R_15) (h : F_15 x.1 x.2.1 x.2.2.1 = some y) : rnF sm_15 1 15 A_15 R_15 x y := runG noO_ok (os := []) trivial (Eq.trans (by kernel_rfl) h)
end
noncomputable section
abbrev A_64 : List Ty := [(.pair (.pair (.slice (.int .u32)) (.pair (.slice (.int .i64)) (.pair (.int .i64) .unit))) (.pair (.int .i64) (.pair (.int .i64) .unit)))]
abbrev R_64 : List Ty := [(.int .i64)]
noncomputable def sm_64 : Nat → Option Summ := smL []
noncomputable def F_64 (a0 : (((List Int) × ((List Int) × (Int × Unit))) × (Int × (Int × Unit)))) : Option (Int × Unit) :=
 some (wrap i64 (Int.tdiv (wrap i64 (64 * a0.2.2.1)) 2), PUnit.unit)
noncomputable def Sp.p_64 (a0 : (((List Int) × ((List Int) × (Int × Unit))) × (Int × (Int × Unit)))) : Bool := (F_64 a0).isSome
noncomputable def Sp.v_64 (a0 : (((List Int) × ((List Int) × (Int × Unit))) × (Int × (Int × Unit)))) : Int × Unit := (F_64 a0).getD (dfH R_64)
noncomputable def s_64 : Summ := shN A_64 R_64 (fun x => p_64 x.1) (fun x => v_64 x.1)
theorem pv_64 (a0 : (((List Int) × ((List Int) × (Int × Unit))) × (Int × (Int × Unit)))) {y : Int × Unit} (h : F_64 a0 = some y) : p_64 a0 = true ∧ v_64 a0 = y := pvG h
theorem run_64 (x : HDen A_64) (y : HDen R_64) (h : F_64 x.1 = some y) : rnF sm_64 1 64 A_64 R_64 x y := runG noO_ok (os := []) trivial (Eq.trans (by kernel_rfl) h)
end
noncomputable section
abbrev A_54 : List Ty := [(.pair (.pair (.slice (.int .u32)) (.pair (.slice (.int .i64)) (.pair (.int .i64) .unit))) (.pair (.int .i64) (.pair (.int .i64) .unit))), (.int .i64)]
abbrev R_54 : List Ty := [(.int .i64)]
noncomputable def sm_54 : Nat → Option Summ := smL [(64, s_64)]
noncomputable def F_54 (a0 : (((List Int) × ((List Int) × (Int × Unit))) × (Int × (Int × Unit)))) (a1 : Int) : Option (Int × Unit) :=
 gd (p_64 a0) (some (wrap i64 (wrap i64 (64 * a0.2.1) + wrap i64 (a1 * (v_64 a0).1)), PUnit.unit))
noncomputable def Sp.p_54 (a0 : (((List Int) × ((List Int) × (Int × Unit))) × (Int × (Int × Unit)))) (a1 : Int) : Bool := (F_54 a0 a1).isSome
noncomputable def Sp.v_54 (a0 : (((List Int) × ((List Int) × (Int × Unit))) × (Int × (Int × Unit)))) (a1 : Int) : Int × Unit := (F_54 a0 a1).getD (dfH R_54)
noncomputable def s_54 : Summ := shN A_54 R_54 (fun x => p_54 x.1 x.2.1) (fun x => v_54 x.1 x.2.1)
theorem pv_54 (a0 : (((List Int) × ((List Int) × (Int × Unit))) × (Int × (Int × Unit)))) (a1 : Int) {y : Int × Unit} (h : F_54 a0 a1 = some y) : p_54 a0 a1 = true ∧ v_54 a0 a1 = y := pvG h
theorem run_54 (x : HDen A_54) (y : HDen R_54) (h : F_54 x.1 x.2.1 = some y) : rnF sm_54 1 54 A_54 R_54 x y := runG noO_ok (os := []) trivial (Eq.trans (by kernel_rfl) h)
end
noncomputable section
abbrev A_87 : List Ty := [(.pair (.pair (.slice (.int .u32)) (.pair (.slice (.int .i64)) (.pair (.int .i64) .unit))) (.pair (.int .i64) (.pair (.int .i64) .unit))), (.int .i64), (.int .i64)]
abbrev R_87 : List Ty := [(.int .u32)]
noncomputable def sm_87 : Nat → Option Summ := smL [(54, s_54)]
noncomputable def F_87 (a0 : (((List Int) × ((List Int) × (Int × Unit))) × (Int × (Int × Unit)))) (a1 a2 : Int) : Option (Int × Unit) :=
 gd (p_54 a0 a1) (gd (inB (wrap i64 ((v_54 a0 a1).1 + a2)) (length (a0.1.1))) (some (getD (a0.1.1) (toNat (wrap i64 ((v_54 a0 a1).1 + a2))) 0, PUnit.unit)))
noncomputable def Sp.p_87 (a0 : (((List Int) × ((List Int) × (Int × Unit))) × (Int × (Int × Unit)))) (a1 a2 : Int) : Bool := (F_87 a0 a1 a2).isSome
noncomputable def Sp.v_87 (a0 : (((List Int) × ((List Int) × (Int × Unit))) × (Int × (Int × Unit)))) (a1 a2 : Int) : Int × Unit := (F_87 a0 a1 a2).getD (dfH R_87)
noncomputable def s_87 : Summ := shN A_87 R_87 (fun x => p_87 x.1 x.2.1 x.2.2.1) (fun x => v_87 x.1 x.2.1 x.2.2.1)
theorem pv_87 (a0 : (((List Int) × ((List Int) × (Int × Unit))) × (Int × (Int × Unit)))) (a1 a2 : Int) {y : Int × Unit} (h : F_87 a0 a1 a2 = some y) : p_87 a0 a1 a2 = true ∧ v_87 a0 a1 a2 = y := pvG h
theorem run_87 (x : HDen A_87) (y : HDen R_87) (h : F_87 x.1 x.2.1 x.2.2.1 = some y) : rnF sm_87 1 87 A_87 R_87 x y := runG noO_ok (os := []) trivial (Eq.trans (by kernel_rfl) h)
end
noncomputable section
abbrev A_55 : List Ty := [(.int .i64)]
abbrev R_55 : List Ty := [(.int .u32)]
noncomputable def sm_55 : Nat → Option Summ := smL []
noncomputable def F_55 (a0 : Int) : Option (Int × Unit) :=
 some (Sp.orI u32 (wrap u32 (wrap u32 a0 * 65536)) (wrap u32 (wrap i64 (65535 - a0))), PUnit.unit)
noncomputable def Sp.p_55 (a0 : Int) : Bool := (F_55 a0).isSome
noncomputable def Sp.v_55 (a0 : Int) : Int × Unit := (F_55 a0).getD (dfH R_55)
noncomputable def s_55 : Summ := shN A_55 R_55 (fun x => p_55 x.1) (fun x => v_55 x.1)
theorem pv_55 (a0 : Int) {y : Int × Unit} (h : F_55 a0 = some y) : p_55 a0 = true ∧ v_55 a0 = y := pvG h
theorem run_55 (x : HDen A_55) (y : HDen R_55) (h : F_55 x.1 = some y) : rnF sm_55 1 55 A_55 R_55 x y := runG noO_ok (os := []) trivial (Eq.trans (by kernel_rfl) h)
end
noncomputable section
abbrev A_88 : List Ty := [(.int .u32)]
abbrev R_88 : List Ty := [(.int .i64), .bool]
noncomputable def sm_88 : Nat → Option Summ := smL [(55, s_55)]
noncomputable def F_88 (a0 : Int) : Option (Int × Bool × Unit) :=
 gd (p_55 (wrap i64 (Int.fdiv a0 65536))) (some (wrap i64 (Int.fdiv a0 65536), (v_55 (wrap i64 (Int.fdiv a0 65536))).1 == a0, PUnit.unit))
noncomputable def Sp.p_88 (a0 : Int) : Bool := (F_88 a0).isSome
noncomputable def Sp.v_88 (a0 : Int) : Int × Bool × Unit := (F_88 a0).getD (dfH R_88)
noncomputable def s_88 : Summ := shN A_88 R_88 (fun x => p_88 x.1) (fun x => v_88 x.1)
theorem pv_88 (a0 : Int) {y : Int × Bool × Unit} (h : F_88 a0 = some y) : p_88 a0 = true ∧ v_88 a0 = y := pvG h
theorem run_88 (x : HDen A_88) (y : HDen R_88) (h : F_88 x.1 = some y) : rnF sm_88 1 88 A_88 R_88 x y := runG noO_ok (os := []) trivial (Eq.trans (by kernel_rfl) h)
end
noncomputable section
abbrev A_67 : List Ty := [(.pair (.pair (.slice (.int .u32)) (.pair (.slice (.int .i64)) (.pair (.int .i64) .unit))) (.pair (.int .i64) (.pair (.int .i64) .unit))), (.int .i64)]
abbrev R_67 : List Ty := [(.int .i64)]
noncomputable def sm_67 : Nat → Option Summ := smL [(87, s_87), (88, s_88)]
noncomputable def F_67 (a0 : (((List Int) × ((List Int) × (Int × Unit))) × (Int × (Int × Unit)))) (a1 : Int) : Option (Int × Unit) :=
 gd (p_87 a0 a1 0) (gd (p_88 ((v_87 a0 a1 0).1)) (bif !(v_88 ((v_87 a0 a1 0).1)).2.1 then some (0, PUnit.unit) else some ((v_88 ((v_87 a0 a1 0).1)).1, PUnit.unit)))
noncomputable def Sp.p_67 (a0 : (((List Int) × ((List Int) × (Int × Unit))) × (Int × (Int × Unit)))) (a1 : Int) : Bool := (F_67 a0 a1).isSome
noncomputable def Sp.v_67 (a0 : (((List Int) × ((List Int) × (Int × Unit))) × (Int × (Int × Unit)))) (a1 : Int) : Int × Unit := (F_67 a0 a1).getD (dfH R_67)
noncomputable def s_67 : Summ := shN A_67 R_67 (fun x => p_67 x.1 x.2.1) (fun x => v_67 x.1 x.2.1)
theorem pv_67 (a0 : (((List Int) × ((List Int) × (Int × Unit))) × (Int × (Int × Unit)))) (a1 : Int) {y : Int × Unit} (h : F_67 a0 a1 = some y) : p_67 a0 a1 = true ∧ v_67 a0 a1 = y := pvG h
theorem run_67 (x : HDen A_67) (y : HDen R_67) (h : F_67 x.1 x.2.1 = some y) : rnF sm_67 1 67 A_67 R_67 x y := runG noO_ok (os := []) trivial (Eq.trans (by kernel_rfl) h)
end
noncomputable section
abbrev A_37 : List Ty := [(.pair (.pair (.slice (.int .u32)) (.pair (.slice (.int .i64)) (.pair (.int .i64) .unit))) (.pair (.int .i64) (.pair (.int .i64) .unit)))]
abbrev R_37 : List Ty := [(.int .i64)]
noncomputable def sm_37 : Nat → Option Summ := smL [(67, s_67)]
noncomputable def F_37 (a0 : (((List Int) × ((List Int) × (Int × Unit))) × (Int × (Int × Unit)))) : Option (Int × Unit) :=
 gd (p_67 a0 0) (gd (p_67 a0 1) (bif (v_67 a0 0).1 == 0 then bif (v_67 a0 1).1 == 0 then some ((-1 : Int), PUnit.unit) else bif decide ((v_67 a0 1).1 > (v_67 a0 0).1) then some (1, PUnit.unit) else some (0, PUnit.unit) else bif decide ((v_67 a0 1).1 > (v_67 a0 0).1) then some (1, PUnit.unit) else some (0, PUnit.unit)))
noncomputable def Sp.p_37 (a0 : (((List Int) × ((List Int) × (Int × Unit))) × (Int × (Int × Unit)))) : Bool := (F_37 a0).isSome
noncomputable def Sp.v_37 (a0 : (((List Int) × ((List Int) × (Int × Unit))) × (Int × (Int × Unit)))) : Int × Unit := (F_37 a0).getD (dfH R_37)
noncomputable def s_37 : Summ := shN A_37 R_37 (fun x => p_37 x.1) (fun x => v_37 x.1)
theorem pv_37 (a0 : (((List Int) × ((List Int) × (Int × Unit))) × (Int × (Int × Unit)))) {y : Int × Unit} (h : F_37 a0 = some y) : p_37 a0 = true ∧ v_37 a0 = y := pvG h
theorem run_37 (x : HDen A_37) (y : HDen R_37) (h : F_37 x.1 = some y) : rnF sm_37 1 37 A_37 R_37 x y := runG noO_ok (os := []) trivial (Eq.trans (by kernel_rfl) h)
end
noncomputable section
abbrev A_20 : List Ty := [(.pair (.pair (.slice (.int .u32)) (.pair (.slice (.int .i64)) (.pair (.int .i64) .unit))) (.pair (.int .i64) (.pair (.int .i64) .unit)))]
abbrev R_20 : List Ty := [.bool]
noncomputable def sm_20 : Nat → Option Summ := smL [(12, s_12), (15, s_15), (37, s_37)]
noncomputable def F_20 (a0 : (((List Int) × ((List Int) × (Int × Unit))) × (Int × (Int × Unit)))) : Option (Bool × Unit) :=
 gd (p_12 (a0.1)) (bif (v_12 (a0.1)).1 then gd (p_15 (a0.1) (a0.2.1) (a0.2.2.1)) (bif (v_15 (a0.1) (a0.2.1) (a0.2.2.1)).1 then gd (p_37 a0) (some (decide ((v_37 a0).1 ≥ 0), PUnit.unit)) else some (false, PUnit.unit)) else some (false, PUnit.unit))
noncomputable def Sp.p_20 (a0 : (((List Int) × ((List Int) × (Int × Unit))) × (Int × (Int × Unit)))) : Bool := (F_20 a0).isSome
noncomputable def Sp.v_20 (a0 : (((List Int) × ((List Int) × (Int × Unit))) × (Int × (Int × Unit)))) : Bool × Unit := (F_20 a0).getD (dfH R_20)
noncomputable def s_20 : Summ := shN A_20 R_20 (fun x => p_20 x.1) (fun x => v_20 x.1)
theorem pv_20 (a0 : (((List Int) × ((List Int) × (Int × Unit))) × (Int × (Int × Unit)))) {y : Bool × Unit} (h : F_20 a0 = some y) : p_20 a0 = true ∧ v_20 a0 = y := pvG h
theorem run_20 (x : HDen A_20) (y : HDen R_20) (h : F_20 x.1 = some y) : rnF sm_20 1 20 A_20 R_20 x y := runG noO_ok (os := []) trivial (Eq.trans (by kernel_rfl) h)
end
noncomputable section
abbrev A_21 : List Ty := [(.int .i64)]
abbrev R_21 : List Ty := [.bool]
noncomputable def sm_21 : Nat → Option Summ := smL []
noncomputable def F_21 (a0 : Int) : Option (Bool × Unit) :=
 bif decide (a0 ≥ 0) then some (decide (a0 ≤ 254), PUnit.unit) else some (false, PUnit.unit)
noncomputable def Sp.p_21 (a0 : Int) : Bool := (F_21 a0).isSome
noncomputable def Sp.v_21 (a0 : Int) : Bool × Unit := (F_21 a0).getD (dfH R_21)
noncomputable def s_21 : Summ := shN A_21 R_21 (fun x => p_21 x.1) (fun x => v_21 x.1)
theorem pv_21 (a0 : Int) {y : Bool × Unit} (h : F_21 a0 = some y) : p_21 a0 = true ∧ v_21 a0 = y := pvG h
theorem run_21 (x : HDen A_21) (y : HDen R_21) (h : F_21 x.1 = some y) : rnF sm_21 1 21 A_21 R_21 x y := runG noO_ok (os := []) trivial (Eq.trans (by kernel_rfl) h)
end
noncomputable section
abbrev A_52 : List Ty := [(.pair (.slice (.int .u32)) (.pair (.slice (.int .i64)) (.pair (.int .i64) .unit))), (.int .i64), (.int .i64)]
abbrev R_52 : List Ty := [.bool]
noncomputable def sm_52 : Nat → Option Summ := smL []
noncomputable def T_52_0 : PS := ⟨23, [(1, .hv (.int .i64)), (2, .hv (.int .i64)), (3, .kc (.ptr 0 [])), (7, .hv (.int .i64))], [.mem (.hv (.pair (.slice (.int .u32)) (.pair (.slice (.int .i64)) (.pair (.int .i64) .unit))))], 0⟩
inductive Sp.E_52_0 where
 | e0
 | e1
noncomputable def Sp.B_52_0 {R : Type} (r : Option E_52_0) (k0 k1 : Option R) : Option R := match r with
 | none => none
 | some (.e0) => k0
 | some (.e1) => k1
noncomputable def Y_52_0 {R : Type} (k : Ex → St → Option R) : E_52_0 → Option R
 | .e0 => k Ex.ret (sx 23 [(6, CV.bool true)] [])
 | .e1 => k (Ex.exit 0) (sx 23 [] [])
noncomputable def Sp.S_52_0 {R : Type} (K : Int → Int → Int → (List Int × List Int × Int × Unit) → Option R) (k : E_52_0 → Option R) (p0 p1 p2 : Int) (p3 : List Int × List Int × Int × Unit) : Option R :=
 bif decide (p2 < p1) then gd (inB (wrap i64 (p0 + p2)) (length (p3.2.1))) (bif getD (p3.2.1) (toNat (wrap i64 (p0 + p2))) 0 == p3.2.2.1 then k (E_52_0.e0) else K p0 p1 (wrap i64 (p2 + 1)) p3) else k (E_52_0.e1)
noncomputable def Sp.L_52_0 : Nat → Int → Int → Int → (List Int × List Int × Int × Unit) → Option E_52_0
 | 0, _, _, _, _ => none
 | m + 1, p0, p1, p2, p3 => S_52_0 (L_52_0 m) some p0 p1 p2 p3
noncomputable def l_52_0 (m : Nat) (a : T_52_0.E) : Option E_52_0 := L_52_0 m a.1 a.2.1 a.2.2.1 a.2.2.2.1
noncomputable def O_52_0 {R : Type} : Orc R := orL T_52_0 (l_52_0 FU) Y_52_0
theorem OK_52_0 {R : Type} : okF (R := R) sm_52 0 (nf 52 0) O_52_0 := lp0 T_52_0 l_52_0 (fun R K k a => S_52_0 (fun p0 p1 p2 p3 => K (p0, p1, p2, p3, ())) k a.1 a.2.1 a.2.2.1 a.2.2.2.1) Y_52_0 (fun _ _ _ => by kernel_rfl) (fun _ _ _ => by
 unfold S_52_0
 repeat' first | apply gdN | apply condN | rfl) (ok0 _)
noncomputable def F_52 (a0 : ((List Int) × ((List Int) × (Int × Unit)))) (a1 a2 : Int) : Option (Bool × Unit) :=
 B_52_0 (L_52_0 4611686018427387904 a1 a2 0 a0) (some (true, PUnit.unit)) (some (false, PUnit.unit))
noncomputable def Sp.p_52 (a0 : ((List Int) × ((List Int) × (Int × Unit)))) (a1 a2 : Int) : Bool := (F_52 a0 a1 a2).isSome
noncomputable def Sp.v_52 (a0 : ((List Int) × ((List Int) × (Int × Unit)))) (a1 a2 : Int) : Bool × Unit := (F_52 a0 a1 a2).getD (dfH R_52)
noncomputable def s_52 : Summ := shN A_52 R_52 (fun x => p_52 x.1 x.2.1 x.2.2.1) (fun x => v_52 x.1 x.2.1 x.2.2.1)
theorem pv_52 (a0 : ((List Int) × ((List Int) × (Int × Unit)))) (a1 a2 : Int) {y : Bool × Unit} (h : F_52 a0 a1 a2 = some y) : p_52 a0 a1 a2 = true ∧ v_52 a0 a1 a2 = y := pvG h
theorem run_52 (x : HDen A_52) (y : HDen R_52) (h : F_52 x.1 x.2.1 x.2.2.1 = some y) : rnF sm_52 1 52 A_52 R_52 x y := runG noO_ok (os := [O_52_0]) ⟨OK_52_0, trivial⟩ (Eq.trans (by kernel_rfl) h)
end
noncomputable section
abbrev A_53 : List Ty := [(.int .i64), (.int .i64)]
abbrev R_53 : List Ty := [(.slice (.pair .bool (.pair (.int .i64) (.pair (.int .u32) .unit))))]
noncomputable def sm_53 : Nat → Option Summ := smL []
noncomputable def T_53_0 : PS := ⟨20, [(0, .hv (.int .i64)), (1, .hv (.int .i64)), (5, .kc (.whole 0)), (6, .hv (.int .i64))], [.vec 87 (.pair .bool (.pair (.int .i64) (.pair (.int .u32) .unit)))], 0⟩
inductive Sp.E_53_0 where
 | e0 (p3 : List (Bool × Int × Int × Unit))
noncomputable def Sp.B_53_0 {R : Type} (r : Option E_53_0) (k0 : (List (Bool × Int × Int × Unit)) → Option R) : Option R := match r with
 | none => none
 | some (.e0 p3) => k0 p3
noncomputable def Y_53_0 {R : Type} (k : Ex → St → Option R) : E_53_0 → Option R
 | .e0 p3 => k (Ex.exit 0) (sx 20 [(5, CV.whole 0)] [Blk.vec 87 (Ty.pair Ty.bool (Ty.pair (Ty.int i64) (Ty.pair (Ty.int u32) Ty.unit))) p3])
noncomputable def Sp.S_53_0 {R : Type} (K : Int → Int → Int → (List (Bool × Int × Int × Unit)) → Option R) (k : E_53_0 → Option R) (p0 p1 p2 : Int) (p3 : List (Bool × Int × Int × Unit)) : Option R :=
 bif decide (p2 < p1) then gd (room (length p3 + 1) 24) (K p0 p1 (wrap i64 (p2 + 1)) (p3 ++ [(true, wrap i64 (p0 + p2), 0, PUnit.unit)])) else k (E_53_0.e0 p3)
noncomputable def Sp.L_53_0 : Nat → Int → Int → Int → (List (Bool × Int × Int × Unit)) → Option E_53_0
 | 0, _, _, _, _ => none
 | m + 1, p0, p1, p2, p3 => S_53_0 (L_53_0 m) some p0 p1 p2 p3
noncomputable def l_53_0 (m : Nat) (a : T_53_0.E) : Option E_53_0 := L_53_0 m a.1 a.2.1 a.2.2.1 a.2.2.2.1
noncomputable def O_53_0 {R : Type} : Orc R := orL T_53_0 (l_53_0 FU) Y_53_0
theorem OK_53_0 {R : Type} : okF (R := R) sm_53 0 (nf 53 0) O_53_0 := lp0 T_53_0 l_53_0 (fun R K k a => S_53_0 (fun p0 p1 p2 p3 => K (p0, p1, p2, p3, ())) k a.1 a.2.1 a.2.2.1 a.2.2.2.1) Y_53_0 (fun _ _ _ => by kernel_rfl) (fun _ _ _ => by
 unfold S_53_0
 repeat' first | apply gdN | apply condN | rfl) (ok0 _)
noncomputable def F_53 (a0 a1 : Int) : Option ((List (Bool × (Int × (Int × Unit)))) × Unit) :=
 B_53_0 (L_53_0 4611686018427387904 a0 a1 0 []) fun y1 => some (y1, PUnit.unit)
noncomputable def Sp.p_53 (a0 a1 : Int) : Bool := (F_53 a0 a1).isSome
noncomputable def Sp.v_53 (a0 a1 : Int) : (List (Bool × (Int × (Int × Unit)))) × Unit := (F_53 a0 a1).getD (dfH R_53)
noncomputable def s_53 : Summ := ownS A_53 87 [] (.slice (.pair .bool (.pair (.int .i64) (.pair (.int .u32) .unit)))) [] (fun x => p_53 x.1 x.2.1) (fun x => v_53 x.1 x.2.1)
theorem pv_53 (a0 a1 : Int) {y : (List (Bool × (Int × (Int × Unit)))) × Unit} (h : F_53 a0 a1 = some y) : p_53 a0 a1 = true ∧ v_53 a0 a1 = y := pvG h
theorem run_53 (x : HDen A_53) (y : HDen R_53) (h : F_53 x.1 x.2.1 = some y) : evFn sm_53 fns FU 1 53 (ofH A_53 x) [] (ownK 87 [] (.slice (.pair .bool (.pair (.int .i64) (.pair (.int .u32) .unit)))) []) = some y := runG noO_ok (os := [O_53_0]) ⟨OK_53_0, trivial⟩ (Eq.trans (by kernel_rfl) h)
end
noncomputable section
abbrev A_89 : List Ty := [(.slice (.int .u32))]
abbrev R_89 : List Ty := [(.int .i64)]
noncomputable def sm_89 : Nat → Option Summ := smL []
noncomputable def T_89_0 : PS := ⟨30, [(0, .hv (.slice (.int .u32))), (3, .hv (.int .i64)), (4, .hv (.int .i64))], [], 0⟩
inductive Sp.E_89_0 where
 | e0 (p1 : Int)
noncomputable def Sp.B_89_0 {R : Type} (r : Option E_89_0) (k0 : Int → Option R) : Option R := match r with
 | none => none
 | some (.e0 p1) => k0 p1
noncomputable def Y_89_0 {R : Type} (k : Ex → St → Option R) : E_89_0 → Option R
 | .e0 p1 => k (Ex.exit 0) (sx 30 [(3, CV.int i64 p1)] [])
noncomputable def Sp.S_89_0 {R : Type} (K : List Int → Int → Int → Option R) (k : E_89_0 → Option R) (p0 : List Int) (p1 p2 : Int) : Option R :=
 bif decide (p2 < (↑(length p0) : Int)) then gd (inB p2 (length p0)) (gd (inB p2 (length p0)) (K p0 (Int.tmod (wrap i64 (wrap i64 (wrap i64 (31 * p1) + wrap i64 (Int.fdiv (getD p0 (toNat p2) 0) 65536)) + wrap i64 (7 * wrap i64 (Int.tmod (getD p0 (toNat p2) 0) 65536)))) 65536) (wrap i64 (p2 + 1)))) else k (E_89_0.e0 p1)
noncomputable def Sp.L_89_0 : Nat → List Int → Int → Int → Option E_89_0
 | 0, _, _, _ => none
 | m + 1, p0, p1, p2 => S_89_0 (L_89_0 m) some p0 p1 p2
noncomputable def l_89_0 (m : Nat) (a : T_89_0.E) : Option E_89_0 := L_89_0 m a.1 a.2.1 a.2.2.1
noncomputable def O_89_0 {R : Type} : Orc R := orL T_89_0 (l_89_0 FU) Y_89_0
theorem OK_89_0 {R : Type} : okF (R := R) sm_89 0 (nf 89 0) O_89_0 := lp0 T_89_0 l_89_0 (fun R K k a => S_89_0 (fun p0 p1 p2 => K (p0, p1, p2, ())) k a.1 a.2.1 a.2.2.1) Y_89_0 (fun _ _ _ => by kernel_rfl) (fun _ _ _ => by
 unfold S_89_0
 repeat' first | apply gdN | apply condN | rfl) (ok0 _)
noncomputable def F_89 (a0 : (List Int)) : Option (Int × Unit) :=
 B_89_0 (L_89_0 4611686018427387904 a0 0 0) fun y1 => some (y1, PUnit.unit)
noncomputable def Sp.p_89 (a0 : (List Int)) : Bool := (F_89 a0).isSome
noncomputable def Sp.v_89 (a0 : (List Int)) : Int × Unit := (F_89 a0).getD (dfH R_89)
noncomputable def s_89 : Summ := shN A_89 R_89 (fun x => p_89 x.1) (fun x => v_89 x.1)
theorem pv_89 (a0 : (List Int)) {y : Int × Unit} (h : F_89 a0 = some y) : p_89 a0 = true ∧ v_89 a0 = y := pvG h
theorem run_89 (x : HDen A_89) (y : HDen R_89) (h : F_89 x.1 = some y) : rnF sm_89 1 89 A_89 R_89 x y := runG noO_ok (os := [O_89_0]) ⟨OK_89_0, trivial⟩ (Eq.trans (by kernel_rfl) h)
end
noncomputable section
abbrev A_63 : List Ty := [(.int .i64), (.slice (.int .u32))]
abbrev R_63 : List Ty := [(.slice (.int .u32))]
noncomputable def sm_63 : Nat → Option Summ := smL [(55, s_55), (89, s_89)]
noncomputable def F_63 (a0 : Int) (a1 : (List Int)) : Option ((List Int) × Unit) :=
 gd (p_55 (wrap i64 (wrap i64 (256 * a0) + (↑(length a1) : Int)))) (gd (room (1 + length a1) 4) (gd (p_89 ([(v_55 (wrap i64 (wrap i64 (256 * a0) + (↑(length a1) : Int)))).1] ++ a1)) (gd (p_55 ((v_89 ([(v_55 (wrap i64 (wrap i64 (256 * a0) + (↑(length a1) : Int)))).1] ++ a1)).1)) (gd (room (length ([(v_55 (wrap i64 (wrap i64 (256 * a0) + (↑(length a1) : Int)))).1] ++ a1) + 1) 4) (some ([(v_55 (wrap i64 (wrap i64 (256 * a0) + (↑(length a1) : Int)))).1] ++ a1 ++ [(v_55 ((v_89 ([(v_55 (wrap i64 (wrap i64 (256 * a0) + (↑(length a1) : Int)))).1] ++ a1)).1)).1], PUnit.unit))))))
noncomputable def Sp.p_63 (a0 : Int) (a1 : (List Int)) : Bool := (F_63 a0 a1).isSome
noncomputable def Sp.v_63 (a0 : Int) (a1 : (List Int)) : (List Int) × Unit := (F_63 a0 a1).getD (dfH R_63)
noncomputable def s_63 : Summ := shS A_63 R_63 (fun x => p_63 x.1 x.2.1) (fun x => v_63 x.1 x.2.1)
theorem pv_63 (a0 : Int) (a1 : (List Int)) {y : (List Int) × Unit} (h : F_63 a0 a1 = some y) : p_63 a0 a1 = true ∧ v_63 a0 a1 = y := pvG h
theorem run_63 (x : HDen A_63) (y : HDen R_63) (h : F_63 x.1 x.2.1 = some y) : rnF sm_63 1 63 A_63 R_63 x y := runG noO_ok (os := []) trivial (Eq.trans (by kernel_rfl) h)
end
noncomputable section
abbrev A_65 : List Ty := [(.int .i64), (.slice (.int .u32))]
abbrev R_65 : List Ty := [(.slice (.pair .bool (.pair (.int .i64) (.pair (.int .u32) .unit))))]
noncomputable def sm_65 : Nat → Option Summ := smL []
noncomputable def T_65_0 : PS := ⟨25, [(0, .hv (.int .i64)), (1, .hv (.slice (.int .u32))), (5, .kc (.whole 0)), (6, .hv (.int .i64))], [.vec 87 (.pair .bool (.pair (.int .i64) (.pair (.int .u32) .unit)))], 0⟩
inductive Sp.E_65_0 where
 | e0 (p3 : List (Bool × Int × Int × Unit))
noncomputable def Sp.B_65_0 {R : Type} (r : Option E_65_0) (k0 : (List (Bool × Int × Int × Unit)) → Option R) : Option R := match r with
 | none => none
 | some (.e0 p3) => k0 p3
noncomputable def Y_65_0 {R : Type} (k : Ex → St → Option R) : E_65_0 → Option R
 | .e0 p3 => k (Ex.exit 0) (sx 25 [(5, CV.whole 0)] [Blk.vec 87 (Ty.pair Ty.bool (Ty.pair (Ty.int i64) (Ty.pair (Ty.int u32) Ty.unit))) p3])
noncomputable def Sp.S_65_0 {R : Type} (K : Int → List Int → Int → (List (Bool × Int × Int × Unit)) → Option R) (k : E_65_0 → Option R) (p0 : Int) (p1 : List Int) (p2 : Int) (p3 : List (Bool × Int × Int × Unit)) : Option R :=
 bif decide (p2 < (↑(length p1) : Int)) then gd (inB p2 (length p1)) (gd (room (length p3 + 1) 24) (K p0 p1 (wrap i64 (p2 + 1)) (p3 ++ [(false, wrap i64 (p0 + p2), getD p1 (toNat p2) 0, PUnit.unit)]))) else k (E_65_0.e0 p3)
noncomputable def Sp.L_65_0 : Nat → Int → List Int → Int → (List (Bool × Int × Int × Unit)) → Option E_65_0
 | 0, _, _, _, _ => none
 | m + 1, p0, p1, p2, p3 => S_65_0 (L_65_0 m) some p0 p1 p2 p3
noncomputable def l_65_0 (m : Nat) (a : T_65_0.E) : Option E_65_0 := L_65_0 m a.1 a.2.1 a.2.2.1 a.2.2.2.1
noncomputable def O_65_0 {R : Type} : Orc R := orL T_65_0 (l_65_0 FU) Y_65_0
theorem OK_65_0 {R : Type} : okF (R := R) sm_65 0 (nf 65 0) O_65_0 := lp0 T_65_0 l_65_0 (fun R K k a => S_65_0 (fun p0 p1 p2 p3 => K (p0, p1, p2, p3, ())) k a.1 a.2.1 a.2.2.1 a.2.2.2.1) Y_65_0 (fun _ _ _ => by kernel_rfl) (fun _ _ _ => by
 unfold S_65_0
 repeat' first | apply gdN | apply condN | rfl) (ok0 _)
noncomputable def F_65 (a0 : Int) (a1 : (List Int)) : Option ((List (Bool × (Int × (Int × Unit)))) × Unit) :=
 B_65_0 (L_65_0 4611686018427387904 a0 a1 0 []) fun y1 => some (y1, PUnit.unit)
noncomputable def Sp.p_65 (a0 : Int) (a1 : (List Int)) : Bool := (F_65 a0 a1).isSome
noncomputable def Sp.v_65 (a0 : Int) (a1 : (List Int)) : (List (Bool × (Int × (Int × Unit)))) × Unit := (F_65 a0 a1).getD (dfH R_65)
noncomputable def s_65 : Summ := shS A_65 R_65 (fun x => p_65 x.1 x.2.1) (fun x => v_65 x.1 x.2.1)
theorem pv_65 (a0 : Int) (a1 : (List Int)) {y : (List (Bool × (Int × (Int × Unit)))) × Unit} (h : F_65 a0 a1 = some y) : p_65 a0 a1 = true ∧ v_65 a0 a1 = y := pvG h
theorem run_65 (x : HDen A_65) (y : HDen R_65) (h : F_65 x.1 x.2.1 = some y) : rnF sm_65 1 65 A_65 R_65 x y := runG noO_ok (os := [O_65_0]) ⟨OK_65_0, trivial⟩ (Eq.trans (by kernel_rfl) h)
end
noncomputable section
abbrev Zt24_0 : Type := (List Int × List Int × Int × Unit) × Int × Int × Unit
abbrev Zy24_1 : Ty := (.pair (.pair (.slice (.int .u32)) (.pair (.slice (.int .i64)) (.pair (.int .i64) .unit))) (.pair (.int .i64) (.pair (.int .i64) .unit)))
abbrev Zy24_2 : Ty := (.slice (.pair (.int .i64) (.pair (.slice (.int .u32)) .unit)))
abbrev Zt24_3 : Type := List (Bool × Int × Int × Unit)
abbrev Zt24_4 : Type := List (Int × List Int × Unit)
abbrev A_24 : List Ty := [(.pair (.pair (.slice (.int .u32)) (.pair (.slice (.int .i64)) (.pair (.int .i64) .unit))) (.pair (.int .i64) (.pair (.int .i64) .unit))), (.slice (.pair (.int .i64) (.pair (.slice (.int .u32)) .unit)))]
abbrev R_24 : List Ty := [(.slice (.pair .bool (.pair (.int .i64) (.pair (.int .u32) .unit)))), (.int .i64)]
noncomputable def sm_24 : Nat → Option Summ := smL [(37, s_37), (52, s_52), (53, s_53), (54, s_54), (55, s_55), (63, s_63), (64, s_64), (65, s_65), (67, s_67)]
noncomputable def T_24_0 : PS := ⟨105, [(1, .hv Zy24_2), (2, .kc (.ptr 0 [])), (6, .hv (.int .i64)), (7, .hv (.int .i64))], [.mem (.hv Zy24_1)], 0⟩
inductive Sp.E_24_0 where
 | e0 (p0 : Zt24_4) (p1 : Int) (p3 : Zt24_0)
noncomputable def Sp.B_24_0 {R : Type} (r : Option E_24_0) (k0 : Zt24_4 → Int → Zt24_0 → Option R) : Option R := match r with
 | none => none
 | some (.e0 p0 p1 p3) => k0 p0 p1 p3
noncomputable def Y_24_0 {R : Type} (k : Ex → St → Option R) : E_24_0 → Option R
 | .e0 p0 p1 p3 => k (Ex.exit 0) (sx 105 [(1, CV.pure (Ty.slice (Ty.pair (Ty.int i64) (Ty.pair (Ty.slice (Ty.int u32)) Ty.unit))) p0), (2, CV.ptr 0 []), (6, CV.int i64 p1)] [Blk.mem (CV.pure (Ty.pair (Ty.pair (Ty.slice (Ty.int u32)) (Ty.pair (Ty.slice (Ty.int i64)) (Ty.pair (Ty.int i64) Ty.unit))) (Ty.pair (Ty.int i64) (Ty.pair (Ty.int i64) Ty.unit))) p3)])
noncomputable def Sp.S_24_0 {R : Type} (K : (List (Int × List Int × Unit)) → Int → Int → ((List Int × List Int × Int × Unit) × Int × Int × Unit) → Option R) (k : E_24_0 → Option R) (p0 : List (Int × List Int × Unit)) (p1 p2 : Int) (p3 : (List Int × List Int × Int × Unit) × Int × Int × Unit) : Option R :=
 bif decide (p2 < (↑(length p0) : Int)) then gd (inB p2 (length p0)) (K p0 (wrap i64 (wrap i64 (p1 + (↑(length ((getD p0 (toNat p2) Zd1).2.1)) : Int)) + 2)) (wrap i64 (p2 + 1)) p3) else k (E_24_0.e0 p0 p1 p3)
noncomputable def Sp.L_24_0 : Nat → (List (Int × List Int × Unit)) → Int → Int → ((List Int × List Int × Int × Unit) × Int × Int × Unit) → Option E_24_0
 | 0, _, _, _, _ => none
 | m + 1, p0, p1, p2, p3 => S_24_0 (L_24_0 m) some p0 p1 p2 p3
noncomputable def l_24_0 (m : Nat) (a : T_24_0.E) : Option E_24_0 := L_24_0 m a.1 a.2.1 a.2.2.1 a.2.2.2.1
noncomputable def O_24_0 {R : Type} : Orc R := orL T_24_0 (l_24_0 FU) Y_24_0
theorem OK_24_0 {R : Type} : okF (R := R) sm_24 0 (nf 24 0) O_24_0 := lp0 T_24_0 l_24_0 (fun R K k a => S_24_0 (fun p0 p1 p2 p3 => K (p0, p1, p2, p3, ())) k a.1 a.2.1 a.2.2.1 a.2.2.2.1) Y_24_0 (fun _ _ _ => by kernel_rfl) (fun _ _ _ => by
 unfold S_24_0
 repeat' first | apply gdN | apply condN | rfl) (ok0 _)
noncomputable def T_24_1 : PS := ⟨105, [(1, .hv Zy24_2), (2, .kc (.ptr 0 [])), (8, .hv (.int .i64)), (10, .hv (.int .i64)), (11, .kc (.whole 1)), (12, .hv (.int .i64)), (13, .hv (.int .i64))], [.mem (.hv Zy24_1), .vec 87 (.pair .bool (.pair (.int .i64) (.pair (.int .u32) .unit)))], 0⟩
inductive Sp.E_24_1 where
 | e0 (p1 p2 : Int) (p5 : Zt24_0) (p6 : Zt24_3)
noncomputable def Sp.B_24_1 {R : Type} (r : Option E_24_1) (k0 : Int → Int → Zt24_0 → Zt24_3 → Option R) : Option R := match r with
 | none => none
 | some (.e0 p1 p2 p5 p6) => k0 p1 p2 p5 p6
noncomputable def Y_24_1 {R : Type} (k : Ex → St → Option R) : E_24_1 → Option R
 | .e0 p1 p2 p5 p6 => k (Ex.exit 2) (sx 105 [(2, CV.ptr 0 []), (8, CV.int i64 p1), (10, CV.int i64 p2), (11, CV.whole 1)] [Blk.mem (CV.pure (Ty.pair (Ty.pair (Ty.slice (Ty.int u32)) (Ty.pair (Ty.slice (Ty.int i64)) (Ty.pair (Ty.int i64) Ty.unit))) (Ty.pair (Ty.int i64) (Ty.pair (Ty.int i64) Ty.unit))) p5), Blk.vec 87 (Ty.pair Ty.bool (Ty.pair (Ty.int i64) (Ty.pair (Ty.int u32) Ty.unit))) p6])
noncomputable def Sp.S_24_1 {R : Type} (K : (List (Int × List Int × Unit)) → Int → Int → Int → Int → ((List Int × List Int × Int × Unit) × Int × Int × Unit) → (List (Bool × Int × Int × Unit)) → Option R) (k : E_24_1 → Option R) (p0 : List (Int × List Int × Unit)) (p1 p2 p3 p4 : Int) (p5 : (List Int × List Int × Int × Unit) × Int × Int × Unit) (p6 : List (Bool × Int × Int × Unit)) : Option R :=
 bif decide (p4 < (↑(length p0) : Int)) then gd (inB p4 (length p0)) (gd (inB p4 (length p0)) (gd (p_63 ((getD p0 (toNat p4) Zd1).1) ((getD p0 (toNat p4) Zd1).2.1)) (gd (p_65 p3 ((v_63 ((getD p0 (toNat p4) Zd1).1) ((getD p0 (toNat p4) Zd1).2.1)).1)) (gd (room (length p6 + length ((v_65 p3 ((v_63 ((getD p0 (toNat p4) Zd1).1) ((getD p0 (toNat p4) Zd1).2.1)).1)).1)) 24) (K p0 p1 p2 (wrap i64 (p3 + (↑(length ((v_63 ((getD p0 (toNat p4) Zd1).1) ((getD p0 (toNat p4) Zd1).2.1)).1)) : Int))) (wrap i64 (p4 + 1)) p5 (p6 ++ (v_65 p3 ((v_63 ((getD p0 (toNat p4) Zd1).1) ((getD p0 (toNat p4) Zd1).2.1)).1)).1)))))) else k (E_24_1.e0 p1 p2 p5 p6)
noncomputable def Sp.L_24_1 : Nat → (List (Int × List Int × Unit)) → Int → Int → Int → Int → ((List Int × List Int × Int × Unit) × Int × Int × Unit) → (List (Bool × Int × Int × Unit)) → Option E_24_1
 | 0, _, _, _, _, _, _, _ => none
 | m + 1, p0, p1, p2, p3, p4, p5, p6 => S_24_1 (L_24_1 m) some p0 p1 p2 p3 p4 p5 p6
noncomputable def l_24_1 (m : Nat) (a : T_24_1.E) : Option E_24_1 := L_24_1 m a.1 a.2.1 a.2.2.1 a.2.2.2.1 a.2.2.2.2.1 a.2.2.2.2.2.1 a.2.2.2.2.2.2.1
noncomputable def O_24_1 {R : Type} : Orc R := orL T_24_1 (l_24_1 FU) Y_24_1
theorem OK_24_1 {R : Type} : okF (R := R) sm_24 0 (nf 24 1) O_24_1 := lp0 T_24_1 l_24_1 (fun R K k a => S_24_1 (fun p0 p1 p2 p3 p4 p5 p6 => K (p0, p1, p2, p3, p4, p5, p6, ())) k a.1 a.2.1 a.2.2.1 a.2.2.2.1 a.2.2.2.2.1 a.2.2.2.2.2.1 a.2.2.2.2.2.2.1) Y_24_1 (fun _ _ _ => by kernel_rfl) (fun _ _ _ => by
 unfold S_24_1
 repeat' first | apply gdN | apply condN | rfl) (ok0 _)
noncomputable def F_24 (a0 : (((List Int) × ((List Int) × (Int × Unit))) × (Int × (Int × Unit)))) (a1 : (List (Int × ((List Int) × Unit)))) : Option ((List (Bool × (Int × (Int × Unit)))) × Int × Unit) :=
 B_24_0 (L_24_0 4611686018427387904 a1 1 0 a0) fun y7 y8 y9 => gd (p_64 y9) (bif decide (y8 > (v_64 y9).1) then some ([], 5, PUnit.unit) else gd (p_37 y9) (gd (p_67 y9 (wrap i64 (1 - wrap i64 (1 - (v_37 y9).1)))) (gd (p_52 (y9.1) (wrap i64 (y9.2.1 + wrap i64 (Int.tdiv (wrap i64 (wrap i64 (1 - (v_37 y9).1) * y9.2.2.1)) 2))) (wrap i64 (Int.tdiv (y9.2.2.1) 2))) (bif (v_52 (y9.1) (wrap i64 (y9.2.1 + wrap i64 (Int.tdiv (wrap i64 (wrap i64 (1 - (v_37 y9).1) * y9.2.2.1)) 2))) (wrap i64 (Int.tdiv (y9.2.2.1) 2))).1 then some ([], 19, PUnit.unit) else bif (v_67 y9 (wrap i64 (1 - wrap i64 (1 - (v_37 y9).1)))).1 == 65535 then some ([], 19, PUnit.unit) else gd (p_53 (wrap i64 (y9.2.1 + wrap i64 (Int.tdiv (wrap i64 (wrap i64 (1 - (v_37 y9).1) * y9.2.2.1)) 2))) (wrap i64 (Int.tdiv (y9.2.2.1) 2))) (gd (p_54 y9 (wrap i64 (1 - (v_37 y9).1))) (B_24_1 (L_24_1 4611686018427387904 y7 (wrap i64 (1 - (v_37 y9).1)) ((v_67 y9 (wrap i64 (1 - wrap i64 (1 - (v_37 y9).1)))).1) (wrap i64 ((v_54 y9 (wrap i64 (1 - (v_37 y9).1))).1 + 1)) 0 y9 ((v_53 (wrap i64 (y9.2.1 + wrap i64 (Int.tdiv (wrap i64 (wrap i64 (1 - (v_37 y9).1) * y9.2.2.1)) 2))) (wrap i64 (Int.tdiv (y9.2.2.1) 2))).1)) fun y10 y11 y12 y13 => gd (p_54 y12 y10) (gd (p_55 (wrap i64 (y11 + 1))) (gd (room (length y13 + 1) 24) (some (y13 ++ [(false, (v_54 y12 y10).1, (v_55 (wrap i64 (y11 + 1))).1, PUnit.unit)], 0, PUnit.unit))))))))))
noncomputable def Sp.p_24 (a0 : (((List Int) × ((List Int) × (Int × Unit))) × (Int × (Int × Unit)))) (a1 : (List (Int × ((List Int) × Unit)))) : Bool := (F_24 a0 a1).isSome
noncomputable def Sp.v_24 (a0 : (((List Int) × ((List Int) × (Int × Unit))) × (Int × (Int × Unit)))) (a1 : (List (Int × ((List Int) × Unit)))) : (List (Bool × (Int × (Int × Unit)))) × Int × Unit := (F_24 a0 a1).getD (dfH R_24)
noncomputable def s_24 : Summ := shS A_24 R_24 (fun x => p_24 x.1 x.2.1) (fun x => v_24 x.1 x.2.1)
theorem pv_24 (a0 : (((List Int) × ((List Int) × (Int × Unit))) × (Int × (Int × Unit)))) (a1 : (List (Int × ((List Int) × Unit)))) {y : (List (Bool × (Int × (Int × Unit)))) × Int × Unit} (h : F_24 a0 a1 = some y) : p_24 a0 a1 = true ∧ v_24 a0 a1 = y := pvG h
theorem run_24 (x : HDen A_24) (y : HDen R_24) (h : F_24 x.1 x.2.1 = some y) : rnF sm_24 1 24 A_24 R_24 x y := runG noO_ok (os := [O_24_0, O_24_1]) ⟨OK_24_0, OK_24_1, trivial⟩ (Eq.trans (by kernel_rfl) h)
end
noncomputable section
abbrev A_66 : List Ty := [(.slice (.pair (.int .i64) (.pair (.slice (.int .u32)) .unit))), (.int .i64), (.slice (.int .u32))]
abbrev R_66 : List Ty := [(.slice (.pair (.int .i64) (.pair (.slice (.int .u32)) .unit)))]
noncomputable def sm_66 : Nat → Option Summ := smL []
noncomputable def T_66_0 : PS := ⟨60, [(0, .hv (.slice (.pair (.int .i64) (.pair (.slice (.int .u32)) .unit)))), (1, .hv (.int .i64)), (2, .hv (.slice (.int .u32))), (7, .kc (.whole 0)), (8, .hv .bool), (9, .hv (.int .i64))], [.vec 59 (.pair (.int .i64) (.pair (.slice (.int .u32)) .unit))], 0⟩
inductive Sp.E_66_0 where
 | e0 (p1 : Int) (p2 : List Int) (p3 : Bool) (p5 : List (Int × List Int × Unit))
noncomputable def Sp.B_66_0 {R : Type} (r : Option E_66_0) (k0 : Int → List Int → Bool → (List (Int × List Int × Unit)) → Option R) : Option R := match r with
 | none => none
 | some (.e0 p1 p2 p3 p5) => k0 p1 p2 p3 p5
noncomputable def Y_66_0 {R : Type} (k : Ex → St → Option R) : E_66_0 → Option R
 | .e0 p1 p2 p3 p5 => k (Ex.exit 0) (sx 60 [(1, CV.int i64 p1), (2, CV.pure (Ty.slice (Ty.int u32)) p2), (7, CV.whole 0), (8, CV.bool p3)] [Blk.vec 59 (Ty.pair (Ty.int i64) (Ty.pair (Ty.slice (Ty.int u32)) Ty.unit)) p5])
noncomputable def Sp.S_66_0 {R : Type} (K : (List (Int × List Int × Unit)) → Int → List Int → Bool → Int → (List (Int × List Int × Unit)) → Option R) (k : E_66_0 → Option R) (p0 : List (Int × List Int × Unit)) (p1 : Int) (p2 : List Int) (p3 : Bool) (p4 : Int) (p5 : List (Int × List Int × Unit)) : Option R :=
 bif decide (p4 < (↑(length p0) : Int)) then bif !p3 then gd (inB p4 (length p0)) (bif decide ((getD p0 (toNat p4) Zd1).1 ≥ p1) then gd (room (0 + length p2) 4) (gd (room (length p5 + 1) 32) (gd (inB p4 (length p0)) (bif (getD p0 (toNat p4) Zd1).1 != p1 then gd (inB p4 (length p0)) (gd (room (length (p5 ++ [(p1, [] ++ p2, PUnit.unit)]) + 1) 32) (K p0 p1 p2 true (wrap i64 (p4 + 1)) (p5 ++ [(p1, [] ++ p2, PUnit.unit)] ++ [getD p0 (toNat p4) Zd1]))) else K p0 p1 p2 true (wrap i64 (p4 + 1)) (p5 ++ [(p1, [] ++ p2, PUnit.unit)])))) else gd (inB p4 (length p0)) (bif (getD p0 (toNat p4) Zd1).1 != p1 then gd (inB p4 (length p0)) (gd (room (length p5 + 1) 32) (K p0 p1 p2 p3 (wrap i64 (p4 + 1)) (p5 ++ [getD p0 (toNat p4) Zd1]))) else K p0 p1 p2 p3 (wrap i64 (p4 + 1)) p5)) else gd (inB p4 (length p0)) (bif (getD p0 (toNat p4) Zd1).1 != p1 then gd (inB p4 (length p0)) (gd (room (length p5 + 1) 32) (K p0 p1 p2 p3 (wrap i64 (p4 + 1)) (p5 ++ [getD p0 (toNat p4) Zd1]))) else K p0 p1 p2 p3 (wrap i64 (p4 + 1)) p5) else k (E_66_0.e0 p1 p2 p3 p5)
noncomputable def Sp.L_66_0 : Nat → (List (Int × List Int × Unit)) → Int → List Int → Bool → Int → (List (Int × List Int × Unit)) → Option E_66_0
 | 0, _, _, _, _, _, _ => none
 | m + 1, p0, p1, p2, p3, p4, p5 => S_66_0 (L_66_0 m) some p0 p1 p2 p3 p4 p5
noncomputable def l_66_0 (m : Nat) (a : T_66_0.E) : Option E_66_0 := L_66_0 m a.1 a.2.1 a.2.2.1 a.2.2.2.1 a.2.2.2.2.1 a.2.2.2.2.2.1
noncomputable def O_66_0 {R : Type} : Orc R := orL T_66_0 (l_66_0 FU) Y_66_0
theorem OK_66_0 {R : Type} : okF (R := R) sm_66 0 (nf 66 0) O_66_0 := lp0 T_66_0 l_66_0 (fun R K k a => S_66_0 (fun p0 p1 p2 p3 p4 p5 => K (p0, p1, p2, p3, p4, p5, ())) k a.1 a.2.1 a.2.2.1 a.2.2.2.1 a.2.2.2.2.1 a.2.2.2.2.2.1) Y_66_0 (fun _ _ _ => by kernel_rfl) (fun _ _ _ => by
 unfold S_66_0
 repeat' first | apply gdN | apply condN | rfl) (ok0 _)
noncomputable def F_66 (a0 : (List (Int × ((List Int) × Unit)))) (a1 : Int) (a2 : (List Int)) : Option ((List (Int × ((List Int) × Unit))) × Unit) :=
 B_66_0 (L_66_0 4611686018427387904 a0 a1 a2 false 0 []) fun y4 y5 y6 y7 => bif !y6 then gd (room (0 + length y5) 4) (gd (room (length y7 + 1) 32) (some (y7 ++ [(y4, [] ++ y5, PUnit.unit)], PUnit.unit))) else some (y7, PUnit.unit)
noncomputable def Sp.p_66 (a0 : (List (Int × ((List Int) × Unit)))) (a1 : Int) (a2 : (List Int)) : Bool := (F_66 a0 a1 a2).isSome
noncomputable def Sp.v_66 (a0 : (List (Int × ((List Int) × Unit)))) (a1 : Int) (a2 : (List Int)) : (List (Int × ((List Int) × Unit))) × Unit := (F_66 a0 a1 a2).getD (dfH R_66)
noncomputable def s_66 : Summ := shS A_66 R_66 (fun x => p_66 x.1 x.2.1 x.2.2.1) (fun x => v_66 x.1 x.2.1 x.2.2.1)
theorem pv_66 (a0 : (List (Int × ((List Int) × Unit)))) (a1 : Int) (a2 : (List Int)) {y : (List (Int × ((List Int) × Unit))) × Unit} (h : F_66 a0 a1 a2 = some y) : p_66 a0 a1 a2 = true ∧ v_66 a0 a1 a2 = y := pvG h
theorem run_66 (x : HDen A_66) (y : HDen R_66) (h : F_66 x.1 x.2.1 x.2.2.1 = some y) : rnF sm_66 1 66 A_66 R_66 x y := runG noO_ok (os := [O_66_0]) ⟨OK_66_0, trivial⟩ (Eq.trans (by kernel_rfl) h)
end
noncomputable section
abbrev Zt62_0 : Type := List (Int × List Int × Unit)
abbrev Zy62_1 : Ty := (.pair (.pair (.slice (.int .u32)) (.pair (.slice (.int .i64)) (.pair (.int .i64) .unit))) (.pair (.int .i64) (.pair (.int .i64) .unit)))
abbrev Zt62_2 : Type := (List Int × List Int × Int × Unit) × Int × Int × Unit
abbrev Zy62_3 : Ty := (.slice (.pair (.int .i64) (.pair (.slice (.int .u32)) .unit)))
abbrev Zy62_4 : Ty := (.pair (.int .i64) (.pair (.slice (.int .u32)) .unit))
abbrev A_62 : List Ty := [(.pair (.pair (.slice (.int .u32)) (.pair (.slice (.int .i64)) (.pair (.int .i64) .unit))) (.pair (.int .i64) (.pair (.int .i64) .unit))), (.int .i64)]
abbrev R_62 : List Ty := [(.slice (.pair (.int .i64) (.pair (.slice (.int .u32)) .unit))), (.int .i64)]
noncomputable def sm_62 : Nat → Option Summ := smL [(21, s_21), (54, s_54), (64, s_64), (66, s_66), (87, s_87), (88, s_88), (89, s_89)]
noncomputable def T_62_0_1 : PS := ⟨120, [(1, .hv (.int .i64)), (2, .kc (.ptr 0 [])), (6, .hv (.int .i64)), (7, .hv Zy62_3), (8, .hv (.int .i64))], [.mem (.hv Zy62_1)], 0⟩
inductive Sp.E_62_0_1 where
 | e0 (p1 : Int) (p2 : Zt62_0)
 | e1 (p0 p1 : Int) (p2 : Zt62_0) (p3 : Int) (p4 : Zt62_2)
noncomputable def Sp.B_62_0_1 {R : Type} (r : Option E_62_0_1) (k0 : Int → Zt62_0 → Option R) (k1 : Int → Int → Zt62_0 → Int → Zt62_2 → Option R) : Option R := match r with
 | none => none
 | some (.e0 p1 p2) => k0 p1 p2
 | some (.e1 p0 p1 p2 p3 p4) => k1 p0 p1 p2 p3 p4
noncomputable def Y_62_0_1 {R : Type} (k : Ex → St → Option R) : E_62_0_1 → Option R
 | .e0 p1 p2 => k Ex.ret (sx 120 [(4, CV.pure (Ty.slice (Ty.pair (Ty.int i64) (Ty.pair (Ty.slice (Ty.int u32)) Ty.unit))) p2), (5, CV.int i64 p1)] [])
 | .e1 p0 p1 p2 p3 p4 => k (Ex.exit 0) (sx 120 [(1, CV.int i64 p0), (2, CV.ptr 0 []), (6, CV.int i64 p1), (7, CV.pure (Ty.slice (Ty.pair (Ty.int i64) (Ty.pair (Ty.slice (Ty.int u32)) Ty.unit))) p2), (8, CV.int i64 p3)] [Blk.mem (CV.pure (Ty.pair (Ty.pair (Ty.slice (Ty.int u32)) (Ty.pair (Ty.slice (Ty.int i64)) (Ty.pair (Ty.int i64) Ty.unit))) (Ty.pair (Ty.int i64) (Ty.pair (Ty.int i64) Ty.unit))) p4)])
noncomputable def Sp.S_62_0_1 {R : Type} (K : Int → Int → (List (Int × List Int × Unit)) → Int → ((List Int × List Int × Int × Unit) × Int × Int × Unit) → Option R) (k : E_62_0_1 → Option R) (p0 p1 : Int) (p2 : List (Int × List Int × Unit)) (p3 : Int) (p4 : (List Int × List Int × Int × Unit) × Int × Int × Unit) : Option R :=
 bif decide (p3 < p1) then gd (p_87 p4 p0 p3) (bif (v_87 p4 p0 p3).1 != 4294967295 then gd (p_87 p4 p0 p3) (gd (p_88 ((v_87 p4 p0 p3).1)) (bif !(v_88 ((v_87 p4 p0 p3).1)).2.1 then k (E_62_0_1.e0 p1 p2) else gd (p_21 (wrap i64 (Int.tdiv ((v_88 ((v_87 p4 p0 p3).1)).1) 256))) (bif !(v_21 (wrap i64 (Int.tdiv ((v_88 ((v_87 p4 p0 p3).1)).1) 256))).1 then k (E_62_0_1.e0 p1 p2) else bif decide (Int.tmod ((v_88 ((v_87 p4 p0 p3).1)).1) (256 :Int) > (24 :Int)) then k (E_62_0_1.e0 p1 p2) else bif decide (wrap i64 (wrap i64 (p3 + Int.tmod ((v_88 ((v_87 p4 p0 p3).1)).1) 256) + 2) > p1) then k (E_62_0_1.e0 p1 p2) else gd (p_54 p4 p0) (gd (sl3 (wrap i64 ((v_54 p4 p0).1 + p3)) (wrap i64 (wrap i64 (wrap i64 ((v_54 p4 p0).1 + p3) + Int.tmod ((v_88 ((v_87 p4 p0 p3).1)).1) 256) + 1)) (↑(length (p4.1.1)) : Int)) (gd (p_87 p4 p0 (wrap i64 (wrap i64 (p3 + Int.tmod ((v_88 ((v_87 p4 p0 p3).1)).1) 256) + 1))) (gd (p_88 ((v_87 p4 p0 (wrap i64 (wrap i64 (p3 + Int.tmod ((v_88 ((v_87 p4 p0 p3).1)).1) 256) + 1))).1)) (bif (v_88 ((v_87 p4 p0 (wrap i64 (wrap i64 (p3 + Int.tmod ((v_88 ((v_87 p4 p0 p3).1)).1) 256) + 1))).1)).2.1 then gd (p_89 (take (toNat (wrap i64 (wrap i64 (wrap i64 ((v_54 p4 p0).1 + p3) + Int.tmod ((v_88 ((v_87 p4 p0 p3).1)).1) 256) + 1)) - toNat (wrap i64 ((v_54 p4 p0).1 + p3))) (drop (toNat (wrap i64 ((v_54 p4 p0).1 + p3))) (p4.1.1)))) (bif (v_88 ((v_87 p4 p0 (wrap i64 (wrap i64 (p3 + Int.tmod ((v_88 ((v_87 p4 p0 p3).1)).1) 256) + 1))).1)).1 == (v_89 (take (toNat (wrap i64 (wrap i64 (wrap i64 ((v_54 p4 p0).1 + p3) + Int.tmod ((v_88 ((v_87 p4 p0 p3).1)).1) 256) + 1)) - toNat (wrap i64 ((v_54 p4 p0).1 + p3))) (drop (toNat (wrap i64 ((v_54 p4 p0).1 + p3))) (p4.1.1)))).1 then gd (sl3 1 (↑(length (take (toNat (wrap i64 (wrap i64 (wrap i64 ((v_54 p4 p0).1 + p3) + Int.tmod ((v_88 ((v_87 p4 p0 p3).1)).1) 256) + 1)) - toNat (wrap i64 ((v_54 p4 p0).1 + p3))) (drop (toNat (wrap i64 ((v_54 p4 p0).1 + p3))) (p4.1.1)))) : Int) (↑(length (take (toNat (wrap i64 (wrap i64 (wrap i64 ((v_54 p4 p0).1 + p3) + Int.tmod ((v_88 ((v_87 p4 p0 p3).1)).1) 256) + 1)) - toNat (wrap i64 ((v_54 p4 p0).1 + p3))) (drop (toNat (wrap i64 ((v_54 p4 p0).1 + p3))) (p4.1.1)))) : Int)) (gd (p_66 p2 (wrap i64 (Int.tdiv ((v_88 ((v_87 p4 p0 p3).1)).1) 256)) (drop 1 (take (toNat (wrap i64 (wrap i64 (wrap i64 ((v_54 p4 p0).1 + p3) + Int.tmod ((v_88 ((v_87 p4 p0 p3).1)).1) 256) + 1)) - toNat (wrap i64 ((v_54 p4 p0).1 + p3))) (drop (toNat (wrap i64 ((v_54 p4 p0).1 + p3))) (p4.1.1))))) (K p0 p1 ((v_66 p2 (wrap i64 (Int.tdiv ((v_88 ((v_87 p4 p0 p3).1)).1) 256)) (drop 1 (take (toNat (wrap i64 (wrap i64 (wrap i64 ((v_54 p4 p0).1 + p3) + Int.tmod ((v_88 ((v_87 p4 p0 p3).1)).1) 256) + 1)) - toNat (wrap i64 ((v_54 p4 p0).1 + p3))) (drop (toNat (wrap i64 ((v_54 p4 p0).1 + p3))) (p4.1.1))))).1) (wrap i64 (wrap i64 (p3 + Int.tmod ((v_88 ((v_87 p4 p0 p3).1)).1) 256) + 2)) p4)) else K p0 p1 p2 (wrap i64 (wrap i64 (p3 + Int.tmod ((v_88 ((v_87 p4 p0 p3).1)).1) 256) + 2)) p4) else K p0 p1 p2 (wrap i64 (wrap i64 (p3 + Int.tmod ((v_88 ((v_87 p4 p0 p3).1)).1) 256) + 2)) p4))))))) else k (E_62_0_1.e1 p0 p1 p2 p3 p4)) else k (E_62_0_1.e1 p0 p1 p2 p3 p4)
noncomputable def Sp.L_62_0_1 : Nat → Int → Int → (List (Int × List Int × Unit)) → Int → ((List Int × List Int × Int × Unit) × Int × Int × Unit) → Option E_62_0_1
 | 0, _, _, _, _, _ => none
 | m + 1, p0, p1, p2, p3, p4 => S_62_0_1 (L_62_0_1 m) some p0 p1 p2 p3 p4
noncomputable def l_62_0_1 (m : Nat) (a : T_62_0_1.E) : Option E_62_0_1 := L_62_0_1 m a.1 a.2.1 a.2.2.1 a.2.2.2.1 a.2.2.2.2.1
noncomputable def O_62_0_1 {R : Type} : Orc R := orL T_62_0_1 (l_62_0_1 FU) Y_62_0_1
theorem loop_62_0_1 {R : Type} (k : Ex → St → Option R) : ∀ m a, evLoopN (evCodeL sm_62 FU (ovr noO (evFn sm_62 fns FU 0)) (mkT (inner (nf 62 0)) []) (inner (nf 62 0))) (St.norm (lv (nf 62 0))) m (T_62_0_1.inst a) k = (l_62_0_1 m a).bind (Y_62_0_1 k) := lpN l_62_0_1 (fun R K k a => S_62_0_1 (fun p0 p1 p2 p3 p4 => K (p0, p1, p2, p3, p4, ())) k a.1 a.2.1 a.2.2.1 a.2.2.2.1 a.2.2.2.2.1) (fun _ => rfl) (fun _ _ => rfl) (fun K a => by kernel_rfl) (fun K a => by
 unfold S_62_0_1
 repeat' first | apply gdN | apply condN | rfl)
theorem OK_62_0_1 {R : Type} : okF (R := R) sm_62 0 (nf 62 0) O_62_0_1 := lp0 T_62_0_1 l_62_0_1 (fun R K k a => S_62_0_1 (fun p0 p1 p2 p3 p4 => K (p0, p1, p2, p3, p4, ())) k a.1 a.2.1 a.2.2.1 a.2.2.2.1 a.2.2.2.2.1) Y_62_0_1 (fun _ _ _ => by kernel_rfl) (fun _ _ _ => by
 unfold S_62_0_1
 repeat' first | apply gdN | apply condN | rfl) (ok0 _)
noncomputable def T_62_0 : PS := ⟨120, [(1, .hv (.int .i64)), (2, .kc (.ptr 0 [])), (6, .hv (.int .i64)), (7, .kc (.whole 1)), (8, .hv (.int .i64))], [.mem (.hv Zy62_1), .vec 59 Zy62_4], 0⟩
inductive Sp.E_62_0 where
 | e0 (p1 : Int) (p4 : Zt62_0)
 | e1 (p0 p1 p2 : Int) (p3 : Zt62_2) (p4 : Zt62_0)
 | e2 (p1 : Int) (p2 : Zt62_0)
 | e3 (p0 p1 : Int) (p2 : Zt62_0) (p3 : Int) (p4 : Zt62_2)
noncomputable def Sp.B_62_0 {R : Type} (r : Option E_62_0) (k0 : Int → Zt62_0 → Option R) (k1 : Int → Int → Int → Zt62_2 → Zt62_0 → Option R) (k2 : Int → Zt62_0 → Option R) (k3 : Int → Int → Zt62_0 → Int → Zt62_2 → Option R) : Option R := match r with
 | none => none
 | some (.e0 p1 p4) => k0 p1 p4
 | some (.e1 p0 p1 p2 p3 p4) => k1 p0 p1 p2 p3 p4
 | some (.e2 p1 p2) => k2 p1 p2
 | some (.e3 p0 p1 p2 p3 p4) => k3 p0 p1 p2 p3 p4
noncomputable def Y_62_0 {R : Type} (k : Ex → St → Option R) : E_62_0 → Option R
 | .e0 p1 p4 => k Ex.ret (sx 120 [(4, CV.whole 0), (5, CV.int i64 p1)] [Blk.vec 59 (Ty.pair (Ty.int i64) (Ty.pair (Ty.slice (Ty.int u32)) Ty.unit)) p4])
 | .e1 p0 p1 p2 p3 p4 => k (Ex.exit 0) (sx 120 [(1, CV.int i64 p0), (2, CV.ptr 0 []), (6, CV.int i64 p1), (7, CV.whole 1), (8, CV.int i64 p2)] [Blk.mem (CV.pure (Ty.pair (Ty.pair (Ty.slice (Ty.int u32)) (Ty.pair (Ty.slice (Ty.int i64)) (Ty.pair (Ty.int i64) Ty.unit))) (Ty.pair (Ty.int i64) (Ty.pair (Ty.int i64) Ty.unit))) p3), Blk.vec 59 (Ty.pair (Ty.int i64) (Ty.pair (Ty.slice (Ty.int u32)) Ty.unit)) p4])
 | .e2 p1 p2 => k Ex.ret (sx 120 [(4, CV.pure (Ty.slice (Ty.pair (Ty.int i64) (Ty.pair (Ty.slice (Ty.int u32)) Ty.unit))) p2), (5, CV.int i64 p1)] [])
 | .e3 p0 p1 p2 p3 p4 => k (Ex.exit 0) (sx 120 [(1, CV.int i64 p0), (2, CV.ptr 0 []), (6, CV.int i64 p1), (7, CV.pure (Ty.slice (Ty.pair (Ty.int i64) (Ty.pair (Ty.slice (Ty.int u32)) Ty.unit))) p2), (8, CV.int i64 p3)] [Blk.mem (CV.pure (Ty.pair (Ty.pair (Ty.slice (Ty.int u32)) (Ty.pair (Ty.slice (Ty.int i64)) (Ty.pair (Ty.int i64) Ty.unit))) (Ty.pair (Ty.int i64) (Ty.pair (Ty.int i64) Ty.unit))) p4)])
noncomputable def Sp.S_62_0 {R : Type} (K : Int → Int → Int → ((List Int × List Int × Int × Unit) × Int × Int × Unit) → (List (Int × List Int × Unit)) → Option R) (KB : Int → Int → (List (Int × List Int × Unit)) → Int → ((List Int × List Int × Int × Unit) × Int × Int × Unit) → Option R) (k : E_62_0 → Option R) (p0 p1 p2 : Int) (p3 : (List Int × List Int × Int × Unit) × Int × Int × Unit) (p4 : List (Int × List Int × Unit)) : Option R :=
 bif decide (p2 < p1) then gd (p_87 p3 p0 p2) (bif (v_87 p3 p0 p2).1 != 4294967295 then gd (p_87 p3 p0 p2) (gd (p_88 ((v_87 p3 p0 p2).1)) (bif !(v_88 ((v_87 p3 p0 p2).1)).2.1 then k (E_62_0.e0 p1 p4) else gd (p_21 (wrap i64 (Int.tdiv ((v_88 ((v_87 p3 p0 p2).1)).1) 256))) (bif !(v_21 (wrap i64 (Int.tdiv ((v_88 ((v_87 p3 p0 p2).1)).1) 256))).1 then k (E_62_0.e0 p1 p4) else bif decide (Int.tmod ((v_88 ((v_87 p3 p0 p2).1)).1) (256 :Int) > (24 :Int)) then k (E_62_0.e0 p1 p4) else bif decide (wrap i64 (wrap i64 (p2 + Int.tmod ((v_88 ((v_87 p3 p0 p2).1)).1) 256) + 2) > p1) then k (E_62_0.e0 p1 p4) else gd (p_54 p3 p0) (gd (sl3 (wrap i64 ((v_54 p3 p0).1 + p2)) (wrap i64 (wrap i64 (wrap i64 ((v_54 p3 p0).1 + p2) + Int.tmod ((v_88 ((v_87 p3 p0 p2).1)).1) 256) + 1)) (↑(length (p3.1.1)) : Int)) (gd (p_87 p3 p0 (wrap i64 (wrap i64 (p2 + Int.tmod ((v_88 ((v_87 p3 p0 p2).1)).1) 256) + 1))) (gd (p_88 ((v_87 p3 p0 (wrap i64 (wrap i64 (p2 + Int.tmod ((v_88 ((v_87 p3 p0 p2).1)).1) 256) + 1))).1)) (bif (v_88 ((v_87 p3 p0 (wrap i64 (wrap i64 (p2 + Int.tmod ((v_88 ((v_87 p3 p0 p2).1)).1) 256) + 1))).1)).2.1 then gd (p_89 (take (toNat (wrap i64 (wrap i64 (wrap i64 ((v_54 p3 p0).1 + p2) + Int.tmod ((v_88 ((v_87 p3 p0 p2).1)).1) 256) + 1)) - toNat (wrap i64 ((v_54 p3 p0).1 + p2))) (drop (toNat (wrap i64 ((v_54 p3 p0).1 + p2))) (p3.1.1)))) (bif (v_88 ((v_87 p3 p0 (wrap i64 (wrap i64 (p2 + Int.tmod ((v_88 ((v_87 p3 p0 p2).1)).1) 256) + 1))).1)).1 == (v_89 (take (toNat (wrap i64 (wrap i64 (wrap i64 ((v_54 p3 p0).1 + p2) + Int.tmod ((v_88 ((v_87 p3 p0 p2).1)).1) 256) + 1)) - toNat (wrap i64 ((v_54 p3 p0).1 + p2))) (drop (toNat (wrap i64 ((v_54 p3 p0).1 + p2))) (p3.1.1)))).1 then gd (sl3 1 (↑(length (take (toNat (wrap i64 (wrap i64 (wrap i64 ((v_54 p3 p0).1 + p2) + Int.tmod ((v_88 ((v_87 p3 p0 p2).1)).1) 256) + 1)) - toNat (wrap i64 ((v_54 p3 p0).1 + p2))) (drop (toNat (wrap i64 ((v_54 p3 p0).1 + p2))) (p3.1.1)))) : Int) (↑(length (take (toNat (wrap i64 (wrap i64 (wrap i64 ((v_54 p3 p0).1 + p2) + Int.tmod ((v_88 ((v_87 p3 p0 p2).1)).1) 256) + 1)) - toNat (wrap i64 ((v_54 p3 p0).1 + p2))) (drop (toNat (wrap i64 ((v_54 p3 p0).1 + p2))) (p3.1.1)))) : Int)) (gd (p_66 p4 (wrap i64 (Int.tdiv ((v_88 ((v_87 p3 p0 p2).1)).1) 256)) (drop 1 (take (toNat (wrap i64 (wrap i64 (wrap i64 ((v_54 p3 p0).1 + p2) + Int.tmod ((v_88 ((v_87 p3 p0 p2).1)).1) 256) + 1)) - toNat (wrap i64 ((v_54 p3 p0).1 + p2))) (drop (toNat (wrap i64 ((v_54 p3 p0).1 + p2))) (p3.1.1))))) (KB p0 p1 ((v_66 p4 (wrap i64 (Int.tdiv ((v_88 ((v_87 p3 p0 p2).1)).1) 256)) (drop 1 (take (toNat (wrap i64 (wrap i64 (wrap i64 ((v_54 p3 p0).1 + p2) + Int.tmod ((v_88 ((v_87 p3 p0 p2).1)).1) 256) + 1)) - toNat (wrap i64 ((v_54 p3 p0).1 + p2))) (drop (toNat (wrap i64 ((v_54 p3 p0).1 + p2))) (p3.1.1))))).1) (wrap i64 (wrap i64 (p2 + Int.tmod ((v_88 ((v_87 p3 p0 p2).1)).1) 256) + 2)) p3)) else K p0 p1 (wrap i64 (wrap i64 (p2 + Int.tmod ((v_88 ((v_87 p3 p0 p2).1)).1) 256) + 2)) p3 p4) else K p0 p1 (wrap i64 (wrap i64 (p2 + Int.tmod ((v_88 ((v_87 p3 p0 p2).1)).1) 256) + 2)) p3 p4))))))) else k (E_62_0.e1 p0 p1 p2 p3 p4)) else k (E_62_0.e1 p0 p1 p2 p3 p4)
noncomputable def C_62_0 : E_62_0_1 → E_62_0
 | .e0 p1 p2 => .e2 p1 p2
 | .e1 p0 p1 p2 p3 p4 => .e3 p0 p1 p2 p3 p4
theorem BC_62_0 (r : Option E_62_0_1) : B_62_0_1 r (fun p1 p2 => some (E_62_0.e2 p1 p2)) (fun p0 p1 p2 p3 p4 => some (E_62_0.e3 p0 p1 p2 p3 p4)) = r.bind fun e => some (C_62_0 e) := by
 cases r with
 | none => rfl
 | some e => cases e <;> rfl
noncomputable def Sp.L_62_0 : Nat → Int → Int → Int → ((List Int × List Int × Int × Unit) × Int × Int × Unit) → (List (Int × List Int × Unit)) → Option E_62_0
 | 0, _, _, _, _, _ => none
 | m + 1, p0, p1, p2, p3, p4 => S_62_0 (L_62_0 m) (fun q0 q1 q2 q3 q4 => B_62_0_1 (L_62_0_1 m q0 q1 q2 q3 q4) (fun p1 p2 => some (E_62_0.e2 p1 p2)) (fun p0 p1 p2 p3 p4 => some (E_62_0.e3 p0 p1 p2 p3 p4))) some p0 p1 p2 p3 p4
noncomputable def l_62_0 (m : Nat) (a : T_62_0.E) : Option E_62_0 := L_62_0 m a.1 a.2.1 a.2.2.1 a.2.2.2.1 a.2.2.2.2.1
noncomputable def O_62_0 {R : Type} : Orc R := orL T_62_0 (l_62_0 FU) Y_62_0 O_62_0_1
theorem OK_62_0 {R : Type} : okF (R := R) sm_62 0 (nf 62 0) O_62_0 := lp2 noO_ok (os := []) trivial T_62_0 T_62_0_1 l_62_0 l_62_0_1 (fun R K KB k a => S_62_0 (fun p0 p1 p2 p3 p4 => K (p0, p1, p2, p3, p4, ())) (fun q0 q1 q2 q3 q4 => KB (q0, q1, q2, q3, q4, ())) k a.1 a.2.1 a.2.2.1 a.2.2.2.1 a.2.2.2.2.1) Y_62_0 Y_62_0_1 C_62_0 (fun _ => rfl) (fun m a => by
 unfold l_62_0
 rw [L_62_0]
 simp only [BC_62_0]
 rfl) (fun k e => by cases e <;> rfl) (fun k => loop_62_0_1 k) (fun k K a => by kernel_rfl) (fun Y K KB a => by
 unfold S_62_0
 repeat' first | apply gdN | apply condN | rfl) OK_62_0_1
noncomputable def T_62_2 : PS := ⟨120, [(1, .hv (.int .i64)), (2, .kc (.ptr 0 [])), (6, .hv (.int .i64)), (7, .kc (.whole 1)), (8, .hv (.int .i64)), (16, .hv (.int .i64))], [.mem (.hv Zy62_1), .vec 59 Zy62_4], 0⟩
inductive Sp.E_62_2 where
 | e0 (p1 : Int) (p5 : Zt62_0)
 | e1 (p2 : Int) (p5 : Zt62_0)
noncomputable def Sp.B_62_2 {R : Type} (r : Option E_62_2) (k0 k1 : Int → Zt62_0 → Option R) : Option R := match r with
 | none => none
 | some (.e0 p1 p5) => k0 p1 p5
 | some (.e1 p2 p5) => k1 p2 p5
theorem Bn_62_2 {A R : Type} {r : Option E_62_2} {f : A → Option R} {k0 : Int → Zt62_0 → Option A} {k1 : Int → Zt62_0 → Option A} {l0 : Int → Zt62_0 → Option R} {l1 : Int → Zt62_0 → Option R} (h0 : ∀ p1 p5, (k0 p1 p5).bind f = l0 p1 p5) (h1 : ∀ p2 p5, (k1 p2 p5).bind f = l1 p2 p5) : (B_62_2 r k0 k1).bind f = B_62_2 r l0 l1 := by
 cases r with
 | none => rfl
 | some e => cases e <;> first | apply h0 | apply h1
noncomputable def Y_62_2 {R : Type} (k : Ex → St → Option R) : E_62_2 → Option R
 | .e0 p1 p5 => k Ex.ret (sx 120 [(4, CV.whole 0), (5, CV.int i64 p1)] [Blk.vec 59 (Ty.pair (Ty.int i64) (Ty.pair (Ty.slice (Ty.int u32)) Ty.unit)) p5])
 | .e1 p2 p5 => k (Ex.exit 2) (sx 120 [(7, CV.whole 0), (8, CV.int i64 p2)] [Blk.vec 59 (Ty.pair (Ty.int i64) (Ty.pair (Ty.slice (Ty.int u32)) Ty.unit)) p5])
noncomputable def Sp.S_62_2 {R : Type} (K : Int → Int → Int → Int → ((List Int × List Int × Int × Unit) × Int × Int × Unit) → (List (Int × List Int × Unit)) → Option R) (k : E_62_2 → Option R) (p0 p1 p2 p3 : Int) (p4 : (List Int × List Int × Int × Unit) × Int × Int × Unit) (p5 : List (Int × List Int × Unit)) : Option R :=
 bif decide (p3 < p1) then gd (p_87 p4 p0 p3) (bif (v_87 p4 p0 p3).1 != 4294967295 then k (E_62_2.e0 p1 p5) else K p0 p1 p2 (wrap i64 (p3 + 1)) p4 p5) else k (E_62_2.e1 p2 p5)
noncomputable def Sp.L_62_2 : Nat → Int → Int → Int → Int → ((List Int × List Int × Int × Unit) × Int × Int × Unit) → (List (Int × List Int × Unit)) → Option E_62_2
 | 0, _, _, _, _, _, _ => none
 | m + 1, p0, p1, p2, p3, p4, p5 => S_62_2 (L_62_2 m) some p0 p1 p2 p3 p4 p5
noncomputable def l_62_2 (m : Nat) (a : T_62_2.E) : Option E_62_2 := L_62_2 m a.1 a.2.1 a.2.2.1 a.2.2.2.1 a.2.2.2.2.1 a.2.2.2.2.2.1
noncomputable def O_62_2 {R : Type} : Orc R := orL T_62_2 (l_62_2 FU) Y_62_2
theorem OK_62_2 {R : Type} : okF (R := R) sm_62 0 (ni (nf 62 1) 0) O_62_2 := lp0 T_62_2 l_62_2 (fun R K k a => S_62_2 (fun p0 p1 p2 p3 p4 p5 => K (p0, p1, p2, p3, p4, p5, ())) k a.1 a.2.1 a.2.2.1 a.2.2.2.1 a.2.2.2.2.1 a.2.2.2.2.2.1) Y_62_2 (fun _ _ _ => by kernel_rfl) (fun _ _ _ => by
 unfold S_62_2
 repeat' first | apply gdN | apply condN | rfl) (ok0 _)
noncomputable def T_62_2_1 : PS := ⟨120, [(1, .hv (.int .i64)), (2, .kc (.ptr 0 [])), (6, .hv (.int .i64)), (7, .hv Zy62_3), (8, .hv (.int .i64)), (16, .hv (.int .i64))], [.mem (.hv Zy62_1)], 0⟩
inductive Sp.E_62_2_1 where
 | e0 (p1 : Int) (p2 : Zt62_0)
 | e1 (p2 : Zt62_0) (p3 : Int)
noncomputable def Sp.B_62_2_1 {R : Type} (r : Option E_62_2_1) (k0 : Int → Zt62_0 → Option R) (k1 : Zt62_0 → Int → Option R) : Option R := match r with
 | none => none
 | some (.e0 p1 p2) => k0 p1 p2
 | some (.e1 p2 p3) => k1 p2 p3
theorem Bn_62_2_1 {A R : Type} {r : Option E_62_2_1} {f : A → Option R} {k0 : Int → Zt62_0 → Option A} {k1 : Zt62_0 → Int → Option A} {l0 : Int → Zt62_0 → Option R} {l1 : Zt62_0 → Int → Option R} (h0 : ∀ p1 p2, (k0 p1 p2).bind f = l0 p1 p2) (h1 : ∀ p2 p3, (k1 p2 p3).bind f = l1 p2 p3) : (B_62_2_1 r k0 k1).bind f = B_62_2_1 r l0 l1 := by
 cases r with
 | none => rfl
 | some e => cases e <;> first | apply h0 | apply h1
noncomputable def Y_62_2_1 {R : Type} (k : Ex → St → Option R) : E_62_2_1 → Option R
 | .e0 p1 p2 => k Ex.ret (sx 120 [(4, CV.pure (Ty.slice (Ty.pair (Ty.int i64) (Ty.pair (Ty.slice (Ty.int u32)) Ty.unit))) p2), (5, CV.int i64 p1)] [])
 | .e1 p2 p3 => k (Ex.exit 2) (sx 120 [(7, CV.pure (Ty.slice (Ty.pair (Ty.int i64) (Ty.pair (Ty.slice (Ty.int u32)) Ty.unit))) p2), (8, CV.int i64 p3)] [])
noncomputable def Sp.S_62_2_1 {R : Type} (K : Int → Int → (List (Int × List Int × Unit)) → Int → Int → ((List Int × List Int × Int × Unit) × Int × Int × Unit) → Option R) (k : E_62_2_1 → Option R) (p0 p1 : Int) (p2 : List (Int × List Int × Unit)) (p3 p4 : Int) (p5 : (List Int × List Int × Int × Unit) × Int × Int × Unit) : Option R :=
 bif decide (p4 < p1) then gd (p_87 p5 p0 p4) (bif (v_87 p5 p0 p4).1 != 4294967295 then k (E_62_2_1.e0 p1 p2) else K p0 p1 p2 p3 (wrap i64 (p4 + 1)) p5) else k (E_62_2_1.e1 p2 p3)
noncomputable def Sp.L_62_2_1 : Nat → Int → Int → (List (Int × List Int × Unit)) → Int → Int → ((List Int × List Int × Int × Unit) × Int × Int × Unit) → Option E_62_2_1
 | 0, _, _, _, _, _, _ => none
 | m + 1, p0, p1, p2, p3, p4, p5 => S_62_2_1 (L_62_2_1 m) some p0 p1 p2 p3 p4 p5
noncomputable def l_62_2_1 (m : Nat) (a : T_62_2_1.E) : Option E_62_2_1 := L_62_2_1 m a.1 a.2.1 a.2.2.1 a.2.2.2.1 a.2.2.2.2.1 a.2.2.2.2.2.1
noncomputable def O_62_2_1 {R : Type} : Orc R := orL T_62_2_1 (l_62_2_1 FU) Y_62_2_1 O_62_2
theorem OK_62_2_1 {R : Type} : okF (R := R) sm_62 0 (ni (nf 62 1) 0) O_62_2_1 := lp0 T_62_2_1 l_62_2_1 (fun R K k a => S_62_2_1 (fun p0 p1 p2 p3 p4 p5 => K (p0, p1, p2, p3, p4, p5, ())) k a.1 a.2.1 a.2.2.1 a.2.2.2.1 a.2.2.2.2.1 a.2.2.2.2.2.1) Y_62_2_1 (fun _ _ _ => by kernel_rfl) (fun _ _ _ => by
 unfold S_62_2_1
 repeat' first | apply gdN | apply condN | rfl) OK_62_2
noncomputable def T_62_1 : PS := ⟨120, [(1, .hv (.int .i64)), (2, .kc (.ptr 0 [])), (6, .hv (.int .i64)), (7, .kc (.whole 1)), (8, .hv (.int .i64))], [.mem (.hv Zy62_1), .vec 59 Zy62_4], 0⟩
inductive Sp.E_62_1 where
 | e0 (y4 : Int) (y5 : Zt62_0)
noncomputable def Sp.B_62_1 {R : Type} (r : Option E_62_1) (k0 : Int → Zt62_0 → Option R) : Option R := match r with
 | none => none
 | some (.e0 y4 y5) => k0 y4 y5
noncomputable def Y_62_1 {R : Type} (k : Ex → St → Option R) : E_62_1 → Option R
 | .e0 y4 y5 => k Ex.ret (sx 120 [(4, CV.whole 0), (5, CV.int i64 y4)] [Blk.vec 59 (Ty.pair (Ty.int i64) (Ty.pair (Ty.slice (Ty.int u32)) Ty.unit)) y5])
noncomputable def Sp.S_62_1 {R : Type} (k : E_62_1 → Option R) (p0 p1 p2 : Int) (p3 : (List Int × List Int × Int × Unit) × Int × Int × Unit) (p4 : List (Int × List Int × Unit)) : Option R :=
 B_62_2 (L_62_2 4611686018427387904 p0 p1 p2 p2 p3 p4) (fun y4 y5 => k (E_62_1.e0 y4 y5)) fun y6 y7 => k (E_62_1.e0 y6 y7)
noncomputable def Sp.J_62_1 (p0 p1 p2 : Int) (p3 : (List Int × List Int × Int × Unit) × Int × Int × Unit) (p4 : List (Int × List Int × Unit)) : Option E_62_1 := S_62_1 some p0 p1 p2 p3 p4
noncomputable def O_62_1 {R : Type} : Orc R := orL T_62_1 (fun a => J_62_1 a.1 a.2.1 a.2.2.1 a.2.2.2.1 a.2.2.2.2.1) Y_62_1
theorem OK_62_1 {R : Type} : okF (R := R) sm_62 0 (nf 62 1) O_62_1 := jp noO_ok (os := [O_62_2_1]) ⟨OK_62_2_1, trivial⟩ T_62_1 (fun R k a => S_62_1 k a.1 a.2.1 a.2.2.1 a.2.2.2.1 a.2.2.2.2.1) Y_62_1 (fun k a => by kernel_rfl) (fun Y a => by
 unfold S_62_1
 repeat' first | apply gdN | apply condN | (apply Bn_62_2 <;> intros) | rfl) (ok0 _)
noncomputable def T_62_1_1 : PS := ⟨120, [(1, .hv (.int .i64)), (2, .kc (.ptr 0 [])), (6, .hv (.int .i64)), (7, .hv Zy62_3), (8, .hv (.int .i64))], [.mem (.hv Zy62_1)], 0⟩
inductive Sp.E_62_1_1 where
 | e0 (y4 : Int) (y5 : Zt62_0)
 | e1 (y6 : Zt62_0) (y7 : Int)
noncomputable def Sp.B_62_1_1 {R : Type} (r : Option E_62_1_1) (k0 : Int → Zt62_0 → Option R) (k1 : Zt62_0 → Int → Option R) : Option R := match r with
 | none => none
 | some (.e0 y4 y5) => k0 y4 y5
 | some (.e1 y6 y7) => k1 y6 y7
noncomputable def Y_62_1_1 {R : Type} (k : Ex → St → Option R) : E_62_1_1 → Option R
 | .e0 y4 y5 => k Ex.ret (sx 120 [(4, CV.pure (Ty.slice (Ty.pair (Ty.int i64) (Ty.pair (Ty.slice (Ty.int u32)) Ty.unit))) y5), (5, CV.int i64 y4)] [])
 | .e1 y6 y7 => k Ex.ret (sx 120 [(4, CV.pure (Ty.slice (Ty.pair (Ty.int i64) (Ty.pair (Ty.slice (Ty.int u32)) Ty.unit))) y6), (5, CV.int i64 y7)] [])
noncomputable def Sp.S_62_1_1 {R : Type} (k : E_62_1_1 → Option R) (p0 p1 : Int) (p2 : List (Int × List Int × Unit)) (p3 : Int) (p4 : (List Int × List Int × Int × Unit) × Int × Int × Unit) : Option R :=
 B_62_2_1 (L_62_2_1 4611686018427387904 p0 p1 p2 p3 p3 p4) (fun y4 y5 => k (E_62_1_1.e0 y4 y5)) fun y6 y7 => k (E_62_1_1.e1 y6 y7)
noncomputable def Sp.J_62_1_1 (p0 p1 : Int) (p2 : List (Int × List Int × Unit)) (p3 : Int) (p4 : (List Int × List Int × Int × Unit) × Int × Int × Unit) : Option E_62_1_1 := S_62_1_1 some p0 p1 p2 p3 p4
noncomputable def O_62_1_1 {R : Type} : Orc R := orL T_62_1_1 (fun a => J_62_1_1 a.1 a.2.1 a.2.2.1 a.2.2.2.1 a.2.2.2.2.1) Y_62_1_1 O_62_1
theorem OK_62_1_1 {R : Type} : okF (R := R) sm_62 0 (nf 62 1) O_62_1_1 := jp noO_ok (os := [O_62_2_1]) ⟨OK_62_2_1, trivial⟩ T_62_1_1 (fun R k a => S_62_1_1 k a.1 a.2.1 a.2.2.1 a.2.2.2.1 a.2.2.2.2.1) Y_62_1_1 (fun k a => by kernel_rfl) (fun Y a => by
 unfold S_62_1_1
 repeat' first | apply gdN | apply condN | (apply Bn_62_2_1 <;> intros) | rfl) OK_62_1
noncomputable def F_62 (a0 : (((List Int) × ((List Int) × (Int × Unit))) × (Int × (Int × Unit)))) (a1 : Int) : Option ((List (Int × ((List Int) × Unit))) × Int × Unit) :=
 gd (p_64 a0) (B_62_0 (L_62_0 4611686018427387904 a1 ((v_64 a0).1) 1 a0 []) (fun y20 y21 => some (y21, y20, PUnit.unit)) (fun y22 y23 y24 y25 y26 => B_62_1 (J_62_1 y22 y23 y24 y25 y26) fun y27 y28 => some (y28, y27, PUnit.unit)) (fun y29 y30 => some (y30, y29, PUnit.unit)) fun y31 y32 y33 y34 y35 => B_62_1_1 (J_62_1_1 y31 y32 y33 y34 y35) (fun y36 y37 => some (y37, y36, PUnit.unit)) fun y38 y39 => some (y38, y39, PUnit.unit))
noncomputable def Sp.p_62 (a0 : (((List Int) × ((List Int) × (Int × Unit))) × (Int × (Int × Unit)))) (a1 : Int) : Bool := (F_62 a0 a1).isSome
noncomputable def Sp.v_62 (a0 : (((List Int) × ((List Int) × (Int × Unit))) × (Int × (Int × Unit)))) (a1 : Int) : (List (Int × ((List Int) × Unit))) × Int × Unit := (F_62 a0 a1).getD (dfH R_62)
noncomputable def s_62 : Summ := shS A_62 R_62 (fun x => p_62 x.1 x.2.1) (fun x => v_62 x.1 x.2.1)
theorem pv_62 (a0 : (((List Int) × ((List Int) × (Int × Unit))) × (Int × (Int × Unit)))) (a1 : Int) {y : (List (Int × ((List Int) × Unit))) × Int × Unit} (h : F_62 a0 a1 = some y) : p_62 a0 a1 = true ∧ v_62 a0 a1 = y := pvG h
theorem run_62 (x : HDen A_62) (y : HDen R_62) (h : F_62 x.1 x.2.1 = some y) : rnF sm_62 1 62 A_62 R_62 x y := runG noO_ok (os := [O_62_0, O_62_1_1]) ⟨OK_62_0, OK_62_1_1, trivial⟩ (Eq.trans (by kernel_rfl) h)
end
noncomputable section
abbrev A_22 : List Ty := [(.pair (.pair (.slice (.int .u32)) (.pair (.slice (.int .i64)) (.pair (.int .i64) .unit))) (.pair (.int .i64) (.pair (.int .i64) .unit))), (.int .i64), (.slice (.int .u32))]
abbrev R_22 : List Ty := [(.slice (.pair .bool (.pair (.int .i64) (.pair (.int .u32) .unit)))), (.int .i64)]
noncomputable def sm_22 : Nat → Option Summ := smL [(24, s_24), (37, s_37), (54, s_54), (62, s_62), (63, s_63), (64, s_64), (65, s_65), (66, s_66)]
noncomputable def F_22 (a0 : (((List Int) × ((List Int) × (Int × Unit))) × (Int × (Int × Unit)))) (a1 : Int) (a2 : (List Int)) : Option ((List (Bool × (Int × (Int × Unit)))) × Int × Unit) :=
 gd (p_37 a0) (gd (p_62 a0 ((v_37 a0).1)) (gd (p_63 a1 a2) (gd (p_64 a0) (bif decide (wrap i64 ((v_62 a0 ((v_37 a0).1)).2.1 + (↑(length ((v_63 a1 a2).1)) : Int)) ≤ (v_64 a0).1) then gd (p_37 a0) (gd (p_54 a0 ((v_37 a0).1)) (gd (p_65 (wrap i64 ((v_54 a0 ((v_37 a0).1)).1 + (v_62 a0 ((v_37 a0).1)).2.1)) ((v_63 a1 a2).1)) (some ((v_65 (wrap i64 ((v_54 a0 ((v_37 a0).1)).1 + (v_62 a0 ((v_37 a0).1)).2.1)) ((v_63 a1 a2).1)).1, 0, PUnit.unit)))) else gd (p_66 ((v_62 a0 ((v_37 a0).1)).1) a1 a2) (gd (p_24 a0 ((v_66 ((v_62 a0 ((v_37 a0).1)).1) a1 a2).1)) (some ((v_24 a0 ((v_66 ((v_62 a0 ((v_37 a0).1)).1) a1 a2).1)).1, (v_24 a0 ((v_66 ((v_62 a0 ((v_37 a0).1)).1) a1 a2).1)).2.1, PUnit.unit)))))))
noncomputable def Sp.p_22 (a0 : (((List Int) × ((List Int) × (Int × Unit))) × (Int × (Int × Unit)))) (a1 : Int) (a2 : (List Int)) : Bool := (F_22 a0 a1 a2).isSome
noncomputable def Sp.v_22 (a0 : (((List Int) × ((List Int) × (Int × Unit))) × (Int × (Int × Unit)))) (a1 : Int) (a2 : (List Int)) : (List (Bool × (Int × (Int × Unit)))) × Int × Unit := (F_22 a0 a1 a2).getD (dfH R_22)
noncomputable def s_22 : Summ := shS A_22 R_22 (fun x => p_22 x.1 x.2.1 x.2.2.1) (fun x => v_22 x.1 x.2.1 x.2.2.1)
theorem pv_22 (a0 : (((List Int) × ((List Int) × (Int × Unit))) × (Int × (Int × Unit)))) (a1 : Int) (a2 : (List Int)) {y : (List (Bool × (Int × (Int × Unit)))) × Int × Unit} (h : F_22 a0 a1 a2 = some y) : p_22 a0 a1 a2 = true ∧ v_22 a0 a1 a2 = y := pvG h
theorem run_22 (x : HDen A_22) (y : HDen R_22) (h : F_22 x.1 x.2.1 x.2.2.1 = some y) : rnF sm_22 1 22 A_22 R_22 x y := runG noO_ok (os := []) trivial (Eq.trans (by kernel_rfl) h)
end
noncomputable section
abbrev A_4 : List Ty := [(.pair (.pair (.slice (.int .u32)) (.pair (.slice (.int .i64)) (.pair (.int .i64) .unit))) (.pair (.int .i64) (.pair (.int .i64) .unit))), (.int .i64), (.slice (.int .u32)), (.pair (.int .i64) (.pair (.int .u32) .unit))]
abbrev R_4 : List Ty := [.bool]
noncomputable def sm_4 : Nat → Option Summ := smL [(9, s_9), (10, s_10), (13, s_13), (14, s_14), (17, s_17), (19, s_19), (20, s_20), (21, s_21), (22, s_22)]
noncomputable def T_4_0 : PS := ⟨88, [(9, .kc (.ptr 0 [])), (10, .kc (.ptr 1 [])), (11, .hv (.int .i64))], [.mem (.hv (.pair (.pair (.slice (.int .u32)) (.pair (.slice (.int .i64)) (.pair (.int .i64) .unit))) (.pair (.int .i64) (.pair (.int .i64) .unit)))), .mem (.hv (.pair (.int .i64) (.pair (.int .u32) .unit)))], 0⟩
inductive Sp.E_4_0 where
 | e0 (p2 : Int × Int × Unit)
 | e1
noncomputable def Sp.B_4_0 {R : Type} (r : Option E_4_0) (k0 : (Int × Int × Unit) → Option R) (k1 : Option R) : Option R := match r with
 | none => none
 | some (.e0 p2) => k0 p2
 | some (.e1) => k1
noncomputable def Y_4_0 {R : Type} (k : Ex → St → Option R) : E_4_0 → Option R
 | .e0 p2 => k Ex.ret (sx 88 [(8, CV.bool (Ty.beq (Ty.pair (Ty.int i64) (Ty.pair (Ty.int u32) Ty.unit)) p2 (0, 0, PUnit.unit)))] [])
 | .e1 => k Ex.ret (sx 88 [(8, CV.bool false)] [])
noncomputable def Sp.S_4_0 {R : Type} (k : E_4_0 → Option R) (p0 : Int) (p1 : (List Int × List Int × Int × Unit) × Int × Int × Unit) (p2 : Int × Int × Unit) : Option R :=
 bif p0 == 1 then gd (p_14 p1) (bif (v_14 p1).1 then k (E_4_0.e0 p2) else k (E_4_0.e1)) else k (E_4_0.e1)
noncomputable def Sp.J_4_0 (p0 : Int) (p1 : (List Int × List Int × Int × Unit) × Int × Int × Unit) (p2 : Int × Int × Unit) : Option E_4_0 := S_4_0 some p0 p1 p2
noncomputable def O_4_0 {R : Type} : Orc R := orL T_4_0 (fun a => J_4_0 a.1 a.2.1 a.2.2.1) Y_4_0
theorem OK_4_0 {R : Type} : okF (R := R) sm_4 0 (nf 4 0) O_4_0 := jp noO_ok (os := []) trivial T_4_0 (fun R k a => S_4_0 k a.1 a.2.1 a.2.2.1) Y_4_0 (fun k a => by kernel_rfl) (fun Y a => by
 unfold S_4_0
 repeat' first | apply gdN | apply condN | rfl) (ok0 _)
noncomputable def T_4_1 : PS := ⟨88, [(9, .kc (.ptr 0 [])), (10, .kc (.ptr 1 [])), (11, .hv (.int .i64))], [.mem (.hv (.pair (.pair (.slice (.int .u32)) (.pair (.slice (.int .i64)) (.pair (.int .i64) .unit))) (.pair (.int .i64) (.pair (.int .i64) .unit)))), .mem (.hv (.pair (.int .i64) (.pair (.int .u32) .unit)))], 0⟩
inductive Sp.E_4_1 where
 | e0 (p2 : Int × Int × Unit)
 | e1
noncomputable def Sp.B_4_1 {R : Type} (r : Option E_4_1) (k0 : (Int × Int × Unit) → Option R) (k1 : Option R) : Option R := match r with
 | none => none
 | some (.e0 p2) => k0 p2
 | some (.e1) => k1
noncomputable def Y_4_1 {R : Type} (k : Ex → St → Option R) : E_4_1 → Option R
 | .e0 p2 => k Ex.ret (sx 88 [(8, CV.bool (Ty.beq (Ty.pair (Ty.int i64) (Ty.pair (Ty.int u32) Ty.unit)) p2 (0, 0, PUnit.unit)))] [])
 | .e1 => k Ex.ret (sx 88 [(8, CV.bool false)] [])
noncomputable def Sp.S_4_1 {R : Type} (k : E_4_1 → Option R) (p0 : Int) (p1 : (List Int × List Int × Int × Unit) × Int × Int × Unit) (p2 : Int × Int × Unit) : Option R :=
 bif p0 == 2 then gd (p_14 p1) (bif (v_14 p1).1 then k (E_4_1.e0 p2) else k (E_4_1.e1)) else k (E_4_1.e1)
noncomputable def Sp.J_4_1 (p0 : Int) (p1 : (List Int × List Int × Int × Unit) × Int × Int × Unit) (p2 : Int × Int × Unit) : Option E_4_1 := S_4_1 some p0 p1 p2
noncomputable def O_4_1 {R : Type} : Orc R := orL T_4_1 (fun a => J_4_1 a.1 a.2.1 a.2.2.1) Y_4_1
theorem OK_4_1 {R : Type} : okF (R := R) sm_4 0 (nf 4 1) O_4_1 := jp noO_ok (os := []) trivial T_4_1 (fun R k a => S_4_1 k a.1 a.2.1 a.2.2.1) Y_4_1 (fun k a => by kernel_rfl) (fun Y a => by
 unfold S_4_1
 repeat' first | apply gdN | apply condN | rfl) (ok0 _)
noncomputable def F_4 (a0 : (((List Int) × ((List Int) × (Int × Unit))) × (Int × (Int × Unit)))) (a1 : Int) (a2 : (List Int)) (a3 : (Int × (Int × Unit))) : Option (Bool) :=
 gd p_9 (bif !v_9.1 then some false else gd (p_10 (a0.1)) (bif (v_10 (a0.1)).1 then some true else bif decide ((↑(length a2) : Int) > 40) then some true else gd (p_19 a0 a1 a2 a3) (gd (p_20 a0) (bif !(v_20 a0).1 then B_4_0 (J_4_0 ((v_19 a0 a1 a2 a3).2.2.1) ((v_19 a0 a1 a2 a3).1) ((v_19 a0 a1 a2 a3).2.1)) (fun y8 => some (Ty.beq (Ty.pair (Ty.int i64) (Ty.pair (Ty.int u32) Ty.unit)) y8 (0, 0, PUnit.unit))) (some false) else gd (p_13 a3) (bif !(v_13 a3).1 then B_4_0 (J_4_0 ((v_19 a0 a1 a2 a3).2.2.1) ((v_19 a0 a1 a2 a3).1) ((v_19 a0 a1 a2 a3).2.1)) (fun y9 => some (Ty.beq (Ty.pair (Ty.int i64) (Ty.pair (Ty.int u32) Ty.unit)) y9 (0, 0, PUnit.unit))) (some false) else gd (p_21 a1) (bif !(v_21 a1).1 then B_4_1 (J_4_1 ((v_19 a0 a1 a2 a3).2.2.1) ((v_19 a0 a1 a2 a3).1) ((v_19 a0 a1 a2 a3).2.1)) (fun y10 => some (Ty.beq (Ty.pair (Ty.int i64) (Ty.pair (Ty.int u32) Ty.unit)) y10 (0, 0, PUnit.unit))) (some false) else bif decide ((↑(length a2) : Int) > 24) then B_4_1 (J_4_1 ((v_19 a0 a1 a2 a3).2.2.1) ((v_19 a0 a1 a2 a3).1) ((v_19 a0 a1 a2 a3).2.1)) (fun y15 => some (Ty.beq (Ty.pair (Ty.int i64) (Ty.pair (Ty.int u32) Ty.unit)) y15 (0, 0, PUnit.unit))) (some false) else gd (p_22 a0 a1 a2) (gd (p_17 ((v_19 a0 a1 a2 a3).1) ((v_19 a0 a1 a2 a3).2.1) ((v_19 a0 a1 a2 a3).2.2.1) a0 a3 ((v_22 a0 a1 a2).1) ((v_22 a0 a1 a2).2.1)) (some ((v_17 ((v_19 a0 a1 a2 a3).1) ((v_19 a0 a1 a2 a3).2.1) ((v_19 a0 a1 a2 a3).2.2.1) a0 a3 ((v_22 a0 a1 a2).1) ((v_22 a0 a1 a2).2.1)).1)))))))))
theorem run_4 (a0 : (((List Int) × ((List Int) × (Int × Unit))) × (Int × (Int × Unit)))) (a1 : Int) (a2 : (List Int)) (a3 : (Int × (Int × Unit))) {b : Bool} (h : F_4 a0 a1 a2 a3 = some b) : evFn sm_4 fns FU 1 4 (ofH A_4 (a0, a1, a2, a3, ())) [] bk = some b := runG noO_ok (os := [O_4_0, O_4_1]) ⟨OK_4_0, OK_4_1, trivial⟩ (Eq.trans (by kernel_rfl) h)
end
end Go.Ev
namespace Go.Proofs
open Go.Shelf
noncomputable def Try.clone31_ren : Go.Shelf.Ren := ⟨fun | 41 => 31 | n => n, fun | 22 => 22 | 23 => 26 | 4 => 4 | n => n, fun | n => n⟩
theorem Try.clone31 : Go.Proofs.SlLaysE0.n41 Try.prog Try.clone31_ren := {
 mixed := by kernel_rfl
 f41 := ⟨Try.f31.name, by decide, Try.func31.trans (congrArg some (by kernel_rfl))⟩
 t4 := Try.underlying4
 a4 := Try.isAgg4
 z4 := Try.sizeOf4
 v4 := Try.zeroValue4
 t22 := Try.underlying22
 a22 := Try.isAgg22
 z22 := Try.sizeOf22
 v22 := Try.zeroValue22 }
noncomputable def Try.clone90_ren : Go.Shelf.Ren := ⟨fun | 41 => 90 | n => n, fun | 22 => 23 | 23 => 3 | 4 => 4 | n => n, fun | n => n⟩
theorem Try.clone90 : Go.Proofs.SlLaysE0.n41 Try.prog Try.clone90_ren := {
 mixed := by kernel_rfl
 f41 := ⟨Try.f90.name, by decide, Try.func90.trans (congrArg some (by kernel_rfl))⟩
 t4 := Try.underlying4
 a4 := Try.isAgg4
 z4 := Try.sizeOf4
 v4 := Try.zeroValue4
 t22 := Try.underlying23
 a22 := Try.isAgg23
 z22 := Try.sizeOf23
 v22 := Try.zeroValue23 }
end Go.Proofs
namespace Go.Ev
open Go Go.Proofs Go.RowKit
set_option maxRecDepth 100000
set_option maxHeartbeats 4000000
theorem info31 : ∃ i, Try.prog.info? 26 = some i ∧ i.zero = some (.int .u32 0) ∧ i.size = 1 ∧ i.bytes = 4 := ⟨_, rfl, by kernel_rfl, by kernel_rfl, by kernel_rfl⟩
theorem sok_31 : SummOK Try.prog 31 (vecS (.int .u32) 26 4) := by
 obtain ⟨i, hi, h0, h1, h2⟩ := info31
 exact clone_vec (by kernel_rfl) (by decide)
   (fun b off n c news w hl hn hb hc h3 => AnyE.slices_Clone Try.clone31 i _ 1 4 hi h0 h1 h2 (by kernel_rfl) (by decide) Try.sizeOf26 b off n c news w hl hn hb hc h3)
   (fun n c w => AnyE.slices_Clone_nil Try.clone31 n c w)
   (fun a c w => clone_zero Try.clone31 i _ 1 4 hi h0 h1 h2 (by kernel_rfl) (by decide) Try.sizeOf26 a c w)
theorem info90 : ∃ i, Try.prog.info? 3 = some i ∧ i.zero = some (.int .i64 0) ∧ i.size = 1 ∧ i.bytes = 8 := ⟨_, rfl, by kernel_rfl, by kernel_rfl, by kernel_rfl⟩
theorem sok_90 : SummOK Try.prog 90 (vecS (.int .i64) 3 8) := by
 obtain ⟨i, hi, h0, h1, h2⟩ := info90
 exact clone_vec (by kernel_rfl) (by decide)
   (fun b off n c news w hl hn hb hc h3 => AnyE.slices_Clone Try.clone90 i _ 1 8 hi h0 h1 h2 (by kernel_rfl) (by decide) Try.sizeOf3 b off n c news w hl hn hb hc h3)
   (fun n c w => AnyE.slices_Clone_nil Try.clone90 n c w)
   (fun a c w => clone_zero Try.clone90 i _ 1 8 hi h0 h1 h2 (by kernel_rfl) (by decide) Try.sizeOf3 a c w)
noncomputable def ins86_ren : Go.Shelf.Ren := ⟨fun | 22 => 86 | 29 => 103 | 30 => 104 | n => n, fun | 9 => 59 | 24 => 43 | n => n, fun | n => n⟩
theorem ins86_lay : InsL Try.prog ins86_ren (.agg #[.int .i64 0, .slice none 0 0]) 32 := {
 mixed := by kernel_rfl
 f22 := ⟨Try.f86.name, by decide, Try.func86.trans (congrArg some (by kernel_rfl))⟩
 f29 := ⟨_, Try.func103, by decide, by kernel_rfl, by kernel_rfl, by kernel_rfl⟩
 t0 := Try.underlying0
 a0 := Try.isAgg0
 z0 := Try.sizeOf0
 v0 := Try.zeroValue0
 t3 := Try.underlying3
 a3 := Try.isAgg3
 z3 := Try.sizeOf3
 v3 := Try.zeroValue3
 t4 := Try.underlying4
 a4 := Try.isAgg4
 z4 := Try.sizeOf4
 v4 := Try.zeroValue4
 t24 := Try.underlying43
 a24 := Try.isAgg43
 z24 := Try.sizeOf43
 v24 := Try.zeroValue43
 z9 := Try.sizeOf59
 i9 := by kernel_rfl
 c9 := by kernel_rfl }
theorem sok_86 : SummOK Try.prog 86 (insS (.pair (.int .i64) (.pair (.slice (.int .u32)) .unit)) 59 32) := ins_sum ins86_lay rfl rfl (by kernel_rfl) (by decide) (by decide)
theorem sok_43 : SummOK Try.prog 43 s_43 := sokN hm0 run_43 trivial
theorem sok_45 : SummOK Try.prog 45 s_45 := sokN hm0 run_45 trivial
theorem sok_49 : SummOK Try.prog 49 s_49 := sokN hm0 run_49 trivial
theorem sok_83 : SummOK Try.prog 83 s_83 := sokN hm0 run_83 trivial
theorem sok_78 : SummOK Try.prog 78 s_78 := sokS hm0 run_78 ⟨sok_49, sok_83, trivial⟩
theorem sok_50 : SummOK Try.prog 50 s_50 := sokN hm0 run_50 trivial
theorem sok_100 : SummOK Try.prog 100 s_100 := sokN hm0 run_100 ⟨sok_50, trivial⟩
theorem sok_77 : SummOK Try.prog 77 s_77 := sokN hm0 run_77 ⟨sok_78, sok_100, trivial⟩
theorem sok_57 : SummOK Try.prog 57 s_57 := sokN hm0 run_57 ⟨sok_77, trivial⟩
theorem sok_26 : SummOK Try.prog 26 s_26 := sokN hm0 run_26 ⟨sok_43, sok_45, sok_57, trivial⟩
theorem sok_44 : SummOK Try.prog 44 s_44 := sokN hm0 run_44 trivial
theorem sok_69 : SummOK Try.prog 69 s_69 := sokS hm0 run_69 ⟨sok_31, sok_90, trivial⟩
theorem sok_93 : SummOK Try.prog 93 s_93 := sokN hm0 run_93 ⟨sok_43, trivial⟩
theorem sok_73 : SummOK Try.prog 73 s_73 := sokS hm0 run_73 ⟨sok_31, sok_90, sok_93, trivial⟩
theorem sok_74 : SummOK Try.prog 74 s_74 := sokS hm0 run_74 ⟨sok_31, sok_90, sok_93, trivial⟩
theorem sok_47 : SummOK Try.prog 47 s_47 := sokS hm0 run_47 ⟨sok_69, sok_73, sok_74, trivial⟩
theorem sok_48 : SummOK Try.prog 48 s_48 := sokS hm0 run_48 trivial
theorem sok_61 : SummOK Try.prog 61 s_61 := sokOO hm0 run_61 ⟨sok_31, sok_86, trivial⟩
theorem sok_82 : SummOK Try.prog 82 s_82 := sokN hm0 run_82 trivial
theorem sok_58 : SummOK Try.prog 58 s_58 := sokO hm0 run_58 ⟨sok_61, sok_78, sok_82, sok_100, trivial⟩
theorem sok_59 : SummOK Try.prog 59 s_59 := sokS hm0 run_59 ⟨sok_50, sok_82, trivial⟩
theorem sok_46 : SummOK Try.prog 46 s_46 := sokO hm0 run_46 trivial
theorem sok_60 : SummOK Try.prog 60 s_60 := sokS hm0 run_60 ⟨sok_46, sok_48, sok_49, sok_50, sok_57, sok_59, sok_77, sok_83, trivial⟩
theorem sok_19 : SummOK Try.prog 19 s_19 := sokS hm0 run_19 ⟨sok_26, sok_44, sok_47, sok_48, sok_49, sok_57, sok_58, sok_59, sok_60, sok_61, trivial⟩
theorem sok_27 : SummOK Try.prog 27 s_27 := sokN hm0 run_27 trivial
theorem sok_28 : SummOK Try.prog 28 s_28 := sokN hm0 run_28 ⟨sok_26, sok_57, sok_58, trivial⟩
theorem sok_34 : SummOK Try.prog 34 s_34 := sokN hm0 run_34 trivial
theorem sok_18 : SummOK Try.prog 18 s_18 := sokS hm0 run_18 ⟨sok_26, sok_57, sok_58, trivial⟩
theorem sok_36 : SummOK Try.prog 36 s_36 := sokS hm0 run_36 ⟨sok_18, trivial⟩
theorem sok_11 : SummOK Try.prog 11 s_11 := sokS hm0 run_11 ⟨sok_43, sok_44, sok_45, sok_46, sok_47, sok_48, sok_49, sok_50, trivial⟩
theorem sok_108 : SummOK Try.prog 108 s_108 := sokN hm0 run_108 trivial
theorem sok_109 : SummOK Try.prog 109 s_109 := sokN hm0 run_109 trivial
theorem sok_105 : SummOK Try.prog 105 s_105 := sokN hm0 run_105 ⟨sok_108, sok_109, trivial⟩
theorem sok_91 : SummOK Try.prog 91 s_91 := sokS hm0 run_91 ⟨sok_105, trivial⟩
theorem sok_70 : SummOK Try.prog 70 s_70 := sokS hm0 run_70 ⟨sok_91, trivial⟩
theorem sok_41 : SummOK Try.prog 41 s_41 := sokS hm0 run_41 ⟨sok_11, sok_26, sok_27, sok_70, trivial⟩
theorem sok_9 : SummOK Try.prog 9 s_9 := sokN hm0 run_9 ⟨sok_19, sok_27, sok_28, sok_34, sok_36, sok_41, trivial⟩
theorem sok_10 : SummOK Try.prog 10 s_10 := sokN hm0 run_10 trivial
theorem sok_13 : SummOK Try.prog 13 s_13 := sokN hm0 run_13 trivial
theorem sok_68 : SummOK Try.prog 68 s_68 := sokN hm0 run_68 trivial
theorem sok_33 : SummOK Try.prog 33 s_33 := sokN hm0 run_33 ⟨sok_68, trivial⟩
theorem sok_14 : SummOK Try.prog 14 s_14 := sokN hm0 run_14 ⟨sok_33, trivial⟩
theorem sok_51 : SummOK Try.prog 51 s_51 := sokN hm0 run_51 trivial
theorem sok_12 : SummOK Try.prog 12 s_12 := sokN hm0 run_12 ⟨sok_51, trivial⟩
theorem sok_106 : SummOK Try.prog 106 s_106 := sokN hm0 run_106 trivial
theorem sok_98 : SummOK Try.prog 98 s_98 := sokS hm0 run_98 ⟨sok_12, sok_13, sok_106, trivial⟩
theorem sok_75 : SummOK Try.prog 75 s_75 := sokS hm0 run_75 ⟨sok_98, trivial⟩
theorem sok_99 : SummOK Try.prog 99 s_99 := sokS hm0 run_99 ⟨sok_12, sok_13, sok_106, trivial⟩
theorem sok_76 : SummOK Try.prog 76 s_76 := sokS hm0 run_76 ⟨sok_99, trivial⟩
theorem sok_56 : SummOK Try.prog 56 s_56 := sokS hm0 run_56 ⟨sok_75, sok_76, trivial⟩
theorem sok_17 : SummOK Try.prog 17 s_17 := sokN hm0 run_17 ⟨sok_14, sok_33, sok_56, trivial⟩
theorem sok_15 : SummOK Try.prog 15 s_15 := sokN hm0 run_15 trivial
theorem sok_64 : SummOK Try.prog 64 s_64 := sokN hm0 run_64 trivial
theorem sok_54 : SummOK Try.prog 54 s_54 := sokN hm0 run_54 ⟨sok_64, trivial⟩
theorem sok_87 : SummOK Try.prog 87 s_87 := sokN hm0 run_87 ⟨sok_54, trivial⟩
theorem sok_55 : SummOK Try.prog 55 s_55 := sokN hm0 run_55 trivial
theorem sok_88 : SummOK Try.prog 88 s_88 := sokN hm0 run_88 ⟨sok_55, trivial⟩
theorem sok_67 : SummOK Try.prog 67 s_67 := sokN hm0 run_67 ⟨sok_87, sok_88, trivial⟩
theorem sok_37 : SummOK Try.prog 37 s_37 := sokN hm0 run_37 ⟨sok_67, trivial⟩
theorem sok_20 : SummOK Try.prog 20 s_20 := sokN hm0 run_20 ⟨sok_12, sok_15, sok_37, trivial⟩
theorem sok_21 : SummOK Try.prog 21 s_21 := sokN hm0 run_21 trivial
theorem sok_52 : SummOK Try.prog 52 s_52 := sokN hm0 run_52 trivial
theorem sok_53 : SummOK Try.prog 53 s_53 := sokO hm0 run_53 trivial
theorem sok_89 : SummOK Try.prog 89 s_89 := sokN hm0 run_89 trivial
theorem sok_63 : SummOK Try.prog 63 s_63 := sokS hm0 run_63 ⟨sok_55, sok_89, trivial⟩
theorem sok_65 : SummOK Try.prog 65 s_65 := sokS hm0 run_65 trivial
theorem sok_24 : SummOK Try.prog 24 s_24 := sokS hm0 run_24 ⟨sok_37, sok_52, sok_53, sok_54, sok_55, sok_63, sok_64, sok_65, sok_67, trivial⟩
theorem sok_66 : SummOK Try.prog 66 s_66 := sokS hm0 run_66 trivial
theorem sok_62 : SummOK Try.prog 62 s_62 := sokS hm0 run_62 ⟨sok_21, sok_54, sok_64, sok_66, sok_87, sok_88, sok_89, trivial⟩
theorem sok_22 : SummOK Try.prog 22 s_22 := sokS hm0 run_22 ⟨sok_24, sok_37, sok_54, sok_62, sok_63, sok_64, sok_65, sok_66, trivial⟩
theorem call_4 {R : Type} (n base : Nat) : CallOK Try.prog base (rokOf Try.prog smB fns) (evFn (R := R) sm_4 fns FU n) := callG hm0 (l := [(9, s_9), (10, s_10), (13, s_13), (14, s_14), (17, s_17), (19, s_19), (20, s_20), (21, s_21), (22, s_22)]) ⟨sok_9, sok_10, sok_13, sok_14, sok_17, sok_19, sok_20, sok_21, sok_22, trivial⟩ n base
end Go.Ev
