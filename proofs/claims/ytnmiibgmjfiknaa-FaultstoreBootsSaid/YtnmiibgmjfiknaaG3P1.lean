/- Helpers: functions of the program as Lean functions, and what they compute. No condition. -/
import Derived.Test.YtnmiibgmjfiknaaProg
import Derived.WalkKit
import Derived.Test.YtnmiibgmjfiknaaE3P3
import Derived.Test.YtnmiibgmjfiknaaE3P2
set_option maxRecDepth 10000
set_option linter.unusedVariables false
set_option linter.unusedSimpArgs false
open Go.IntKind (wrap i64 i32 i16 i8 u64 u32 u16 u8)
open List (getD length take drop replicate)
open Int (toNat)
open Go.Ev.Sp
namespace Go.Ev
open Go Go.Proofs Go.RowKit
abbrev Zd0 := (Ty.dflt (.pair .bool (.pair (.int .i64) (.pair (.int .u32) .unit))))
abbrev Zd1 := (Ty.dflt (.pair (.int .i64) (.pair (.int .i64) (.pair (.int .i64) (.pair (.int .i64) (.pair (.int .i64) (.pair (.int .i64) (.pair .bool (.pair (.int .i64) .unit)))))))))
abbrev Zd2 := (Ty.dflt (.pair (.int .i64) (.pair (.int .i64) (.pair (.int .i64) (.pair (.int .i64) (.pair (.int .i64) (.pair (.slice (.int .i64)) (.pair (.int .i64) .unit))))))))
abbrev Zd3 := (Ty.dflt (.pair (.int .i64) (.pair (.slice (.int .u32)) .unit)))
set_option maxRecDepth 100000
noncomputable section
noncomputable def smB : Nat → Bool := fun f => [4, 5, 6, 7, 8, 9, 10, 11, 12, 13, 14, 15, 16, 17, 18, 19, 20, 21, 22, 23, 24, 25, 26, 27, 28, 29, 30, 31, 32, 33, 34, 36, 37, 40, 41, 42, 43, 44, 46, 47, 48, 49, 50, 51, 52, 54, 55, 56, 62, 63, 64, 65, 66, 67, 71, 72, 73, 75, 77, 78, 81, 82, 83].contains f
noncomputable def wF : Nat → Nat := fun f => 0
noncomputable def cF : Nat → Bool := fun f => false
noncomputable def dF : Nat → Bool := fun f => [].contains f
noncomputable def fns : Nat → Option IFn := fnsP Try.prog smB wF cF dF
theorem hm0 : Try.prog.follows .mixedOrders = true := by kernel_rfl
abbrev s_40 : Summ := vecS (.int .u32) 38 4
abbrev s_41 : Summ := vecS (.int .i64) 3 8
abbrev s_47 : Summ := codesS
abbrev s_48 : Summ := vecS (.pair (.int .i64) (.pair (.int .i64) (.pair (.int .i64) (.pair (.int .i64) (.pair (.int .i64) (.pair (.int .i64) (.pair .bool (.pair (.int .i64) .unit)))))))) 71 64
abbrev s_78 : Summ := insS (.pair (.int .i64) (.pair (.slice (.int .u32)) .unit)) 99 32
abbrev okF {R : Type} (sm : Nat → Option Summ) (d : Nat) (c : IC) (o : Orc R) : Prop := okN sm FU (evFn sm fns FU d) c o
abbrev nf (f i : Nat) : IC := nd (fB fns f) i
abbrev nr (f i : Nat) : IC := nd (fR fns f).2.2 i
abbrev ni (c : IC) (i : Nat) : IC := nd (inner c) i
abbrev rnF (sm : Nat → Option Summ) (n f : Nat) (A R : List Ty) (x : HDen A) (y : HDen R) : Prop := evFn sm fns FU n f (ofH A x) [] (pureK R) = some y
end
set_option maxHeartbeats 4000000
set_option linter.unusedVariables false
noncomputable section
abbrev A_34 : List Ty := [(.int .i64), (.int .i64)]
abbrev R_34 : List Ty := [.bool]
noncomputable def sm_34 : Nat → Option Summ := smL []
noncomputable def F_34 (a0 a1 : Int) : Option (Bool × Unit) :=
 bif decide (a0 ≥ 0) then some (decide (a0 ≤ a1), PUnit.unit) else some (false, PUnit.unit)
noncomputable def Sp.p_34 (a0 a1 : Int) : Bool := (F_34 a0 a1).isSome
noncomputable def Sp.v_34 (a0 a1 : Int) : Bool × Unit := (F_34 a0 a1).getD (dfH R_34)
noncomputable def s_34 : Summ := shN A_34 R_34 (fun x => p_34 x.1 x.2.1) (fun x => v_34 x.1 x.2.1)
theorem pv_34 (a0 a1 : Int) {y : Bool × Unit} (h : F_34 a0 a1 = some y) : p_34 a0 a1 = true ∧ v_34 a0 a1 = y := pvG h
theorem run_34 (x : HDen A_34) (y : HDen R_34) (h : F_34 x.1 x.2.1 = some y) : rnF sm_34 1 34 A_34 R_34 x y := runG noO_ok (os := []) trivial (Eq.trans (by kernel_rfl) h)
end
noncomputable section
abbrev A_37 : List Ty := [(.int .i64)]
abbrev R_37 : List Ty := [.bool]
noncomputable def sm_37 : Nat → Option Summ := smL []
noncomputable def F_37 (a0 : Int) : Option (Bool × Unit) :=
 bif decide (a0 ≥ (-1099511627776 : Int)) then some (decide (a0 ≤ 1099511627776), PUnit.unit) else some (false, PUnit.unit)
noncomputable def Sp.p_37 (a0 : Int) : Bool := (F_37 a0).isSome
noncomputable def Sp.v_37 (a0 : Int) : Bool × Unit := (F_37 a0).getD (dfH R_37)
noncomputable def s_37 : Summ := shN A_37 R_37 (fun x => p_37 x.1) (fun x => v_37 x.1)
theorem pv_37 (a0 : Int) {y : Bool × Unit} (h : F_37 a0 = some y) : p_37 a0 = true ∧ v_37 a0 = y := pvG h
theorem run_37 (x : HDen A_37) (y : HDen R_37) (h : F_37 x.1 = some y) : rnF sm_37 1 37 A_37 R_37 x y := runG noO_ok (os := []) trivial (Eq.trans (by kernel_rfl) h)
end
noncomputable section
abbrev Zt12_0 : Type := Int × Int × Int × Int × Int × List Int × Int × Unit
abbrev A_12 : List Ty := [(.pair (.int .i64) (.pair (.int .i64) (.pair (.int .i64) (.pair (.int .i64) (.pair (.int .i64) (.pair (.slice (.int .i64)) (.pair (.int .i64) .unit)))))))]
abbrev R_12 : List Ty := [(.slice (.int .u32)), (.int .i64)]
noncomputable def sm_12 : Nat → Option Summ := smL [(34, s_34), (37, s_37)]
noncomputable def T_12_53_0_0 : PS := ⟨19, [(0, .hv (.slice (.int .i64))), (1, .kc (.clo 36 (.pure .unit PUnit.unit))), (7, .hv (.int .i64)), (8, .hv (.int .i64))], [.mem (.hv (.pair (.int .i64) (.pair (.int .i64) (.pair (.int .i64) (.pair (.int .i64) (.pair (.int .i64) (.pair (.slice (.int .i64)) (.pair (.int .i64) .unit))))))))], 1⟩
inductive Sp.E_12_53_0_0 where
 | e0 (p2 : Int) (p3 : Zt12_0)
 | e1 (p3 : Zt12_0)
noncomputable def Sp.B_12_53_0_0 {R : Type} (r : Option E_12_53_0_0) (k0 : Int → Zt12_0 → Option R) (k1 : Zt12_0 → Option R) : Option R := match r with
 | none => none
 | some (.e0 p2 p3) => k0 p2 p3
 | some (.e1 p3) => k1 p3
noncomputable def Y_12_53_0_0 {R : Type} (k : Ex → St → Option R) : E_12_53_0_0 → Option R
 | .e0 p2 p3 => k Ex.ret (sx 19 [(4, CV.int i64 p2)] [Blk.mem (CV.pure (Ty.pair (Ty.int i64) (Ty.pair (Ty.int i64) (Ty.pair (Ty.int i64) (Ty.pair (Ty.int i64) (Ty.pair (Ty.int i64) (Ty.pair (Ty.slice (Ty.int i64)) (Ty.pair (Ty.int i64) Ty.unit))))))) p3)] 1)
 | .e1 p3 => k (Ex.exit 0) (sx 19 [] [Blk.mem (CV.pure (Ty.pair (Ty.int i64) (Ty.pair (Ty.int i64) (Ty.pair (Ty.int i64) (Ty.pair (Ty.int i64) (Ty.pair (Ty.int i64) (Ty.pair (Ty.slice (Ty.int i64)) (Ty.pair (Ty.int i64) Ty.unit))))))) p3)] 1)
noncomputable def Sp.S_12_53_0_0 {R : Type} (K : List Int → Int → Int → (Int × Int × Int × Int × Int × List Int × Int × Unit) → Option R) (k : E_12_53_0_0 → Option R) (p0 : List Int) (p1 p2 : Int) (p3 : Int × Int × Int × Int × Int × List Int × Int × Unit) : Option R :=
 bif decide (p2 < p1) then gd (inB p2 (length p0)) (gd (p_37 (getD p0 (toNat p2) 0)) (bif !(v_37 (getD p0 (toNat p2) 0)).1 then k (E_12_53_0_0.e0 p2 p3) else K p0 p1 (wrap i64 (p2 + 1)) p3)) else k (E_12_53_0_0.e1 p3)
noncomputable def Sp.L_12_53_0_0 : Nat → List Int → Int → Int → (Int × Int × Int × Int × Int × List Int × Int × Unit) → Option E_12_53_0_0
 | 0, _, _, _, _ => none
 | m + 1, p0, p1, p2, p3 => S_12_53_0_0 (L_12_53_0_0 m) some p0 p1 p2 p3
noncomputable def l_12_53_0_0 (m : Nat) (a : T_12_53_0_0.E) : Option E_12_53_0_0 := L_12_53_0_0 m a.1 a.2.1 a.2.2.1 a.2.2.2.1
noncomputable def O_12_53_0_0 {R : Type} : Orc R := orL T_12_53_0_0 (l_12_53_0_0 FU) Y_12_53_0_0
theorem OK_12_53_0_0 {R : Type} : okF (R := R) sm_12 2 (nf 53 0) O_12_53_0_0 := lp0 T_12_53_0_0 l_12_53_0_0 (fun R K k a => S_12_53_0_0 (fun p0 p1 p2 p3 => K (p0, p1, p2, p3, ())) k a.1 a.2.1 a.2.2.1 a.2.2.2.1) Y_12_53_0_0 (fun _ _ _ => by kernel_rfl) (fun _ _ _ => by
 unfold S_12_53_0_0
 repeat' first | apply gdN | apply condN | rfl) (ok0 _)
noncomputable def g_12_53 {R : Type} : List CV → List Blk → (CV → List Blk → Option R) → Option R := evFnL sm_12 FU (ovr noO (evFn sm_12 fns FU 2)) (mkT (fB fns 53) [O_12_53_0_0]) (fO fns 53)
theorem g_12_53_ok {R : Type} (args : List CV) (hp : List Blk) (k : CV → List Blk → Option R) (r : R) (h : g_12_53 args hp k = some r) : evFn sm_12 fns FU 3 53 args hp k = some r := runG noO_ok (os := [O_12_53_0_0]) ⟨OK_12_53_0_0, trivial⟩ h
noncomputable def ov_12_35 {R : Type} : Nat → Option (List CV → List Blk → (CV → List Blk → Option R) → Option R) := fun f' => bif Nat.beq f' 53 then some g_12_53 else none
theorem ov_12_35_ok {R : Type} : OvrOK (R := R) ov_12_35 (evFn sm_12 fns FU 3) := by
 intro f' g h args hp k r hg
 dsimp only [ov_12_35] at h
 by_cases h53 : f' = 53
 · subst h53
   injection h with h
   subst h
   exact evFn_le 0 (g_12_53_ok _ _ _ _ hg)
 rw [nbeq_ne h53, cond_false] at h
 cases h
noncomputable def g_12_35 {R : Type} : List CV → List Blk → (CV → List Blk → Option R) → Option R := evFnL sm_12 FU (ovr ov_12_35 (evFn sm_12 fns FU 3)) (mkT (fB fns 35) []) (fO fns 35)
theorem g_12_35_ok {R : Type} (args : List CV) (hp : List Blk) (k : CV → List Blk → Option R) (r : R) (h : g_12_35 args hp k = some r) : evFn sm_12 fns FU 4 35 args hp k = some r := runG ov_12_35_ok (os := []) trivial h
noncomputable def ov_12_12 {R : Type} : Nat → Option (List CV → List Blk → (CV → List Blk → Option R) → Option R) := fun f' => bif Nat.beq f' 35 then some g_12_35 else none
theorem ov_12_12_ok {R : Type} : OvrOK (R := R) ov_12_12 (evFn sm_12 fns FU 4) := by
 intro f' g h args hp k r hg
 dsimp only [ov_12_12] at h
 by_cases h35 : f' = 35
 · subst h35
   injection h with h
   subst h
   exact evFn_le 0 (g_12_35_ok _ _ _ _ hg)
 rw [nbeq_ne h35, cond_false] at h
 cases h
noncomputable def T_12_0 : PS := ⟨94, [(4, .kc (.ptr 0 [])), (5, .kc (.clo 38 (.pair (.ptr 0 []) (.pure .unit PUnit.unit)))), (76, .hv (.slice (.int .i64))), (77, .hv (.int .i64)), (78, .hv (.int .i64))], [.mem (.kc (.whole 1)), .vec 38 (.int .u32)], 0⟩
inductive Sp.E_12_0 where
 | e0 (p3 : List Int)
noncomputable def Sp.B_12_0 {R : Type} (r : Option E_12_0) (k0 : List Int → Option R) : Option R := match r with
 | none => none
 | some (.e0 p3) => k0 p3
noncomputable def Y_12_0 {R : Type} (k : Ex → St → Option R) : E_12_0 → Option R
 | .e0 p3 => k (Ex.exit 0) (sx 94 [(4, CV.ptr 0 [])] [Blk.mem (CV.whole 1), Blk.vec 38 (Ty.int u32) p3])
noncomputable def Sp.S_12_0 {R : Type} (K : List Int → Int → Int → List Int → Option R) (k : E_12_0 → Option R) (p0 : List Int) (p1 p2 : Int) (p3 : List Int) : Option R :=
 bif decide (p2 < p1) then gd (inB p2 (length p0)) (gd (room (length p3 + 1) 4) (gd (room (length (p3 ++ [wrap u32 (Int.fdiv (wrap i64 (getD p0 (toNat p2) (0 :Int) + (1099511627776 :Int))) 4294967296)]) + 1) 4) (K p0 p1 (wrap i64 (p2 + 1)) (p3 ++ [wrap u32 (Int.fdiv (wrap i64 (getD p0 (toNat p2) (0 :Int) + (1099511627776 :Int))) 4294967296)] ++ [wrap u32 (Sp.andI i64 (wrap i64 (getD p0 (toNat p2) (0 :Int) + (1099511627776 :Int))) 4294967295)])))) else k (E_12_0.e0 p3)
noncomputable def Sp.L_12_0 : Nat → List Int → Int → Int → List Int → Option E_12_0
 | 0, _, _, _, _ => none
 | m + 1, p0, p1, p2, p3 => S_12_0 (L_12_0 m) some p0 p1 p2 p3
noncomputable def l_12_0 (m : Nat) (a : T_12_0.E) : Option E_12_0 := L_12_0 m a.1 a.2.1 a.2.2.1 a.2.2.2.1
noncomputable def O_12_0 {R : Type} : Orc R := orL T_12_0 (l_12_0 FU) Y_12_0
theorem OK_12_0 {R : Type} : okF (R := R) sm_12 4 (nf 12 0) O_12_0 := lp ov_12_12_ok (os := []) trivial T_12_0 l_12_0 (fun R K k a => S_12_0 (fun p0 p1 p2 p3 => K (p0, p1, p2, p3, ())) k a.1 a.2.1 a.2.2.1 a.2.2.2.1) Y_12_0 (fun _ => rfl) (fun _ _ => rfl) (fun k K a => by kernel_rfl) (fun Y K a => by
 unfold S_12_0
 repeat' first | apply gdN | apply condN | rfl) (ok0 _)
noncomputable def F_12 (a0 : (Int × (Int × (Int × (Int × (Int × ((List Int) × (Int × Unit)))))))) : Option ((List Int) × Int × Unit) :=
 gd (p_34 (a0.1) 31) (bif !(v_34 (a0.1) 31).1 then some ([], 1, PUnit.unit) else gd (p_34 (a0.2.2.1) 2) (bif !(v_34 (a0.2.2.1) 2).1 then some ([], 1, PUnit.unit) else gd (p_34 (a0.2.2.2.1) 254) (bif !(v_34 (a0.2.2.2.1) 254).1 then some ([], 1, PUnit.unit) else gd (p_34 (a0.2.2.2.2.1) 255) (bif !(v_34 (a0.2.2.2.2.1) 255).1 then some ([], 1, PUnit.unit) else gd (p_34 (a0.2.2.2.2.2.2.1) 1073741824) (bif !(v_34 (a0.2.2.2.2.2.2.1) 1073741824).1 then some ([], 1, PUnit.unit) else bif decide ((↑(length (a0.2.2.2.2.2.1)) : Int) > 8) then some ([], 1, PUnit.unit) else B_12_53_0_0 (L_12_53_0_0 4611686018427387904 (a0.2.2.2.2.2.1) (↑(length (a0.2.2.2.2.2.1)) : Int) 0 a0) (fun y13 y14 => bif decide (y13 ≥ 0) then some ([], 1, PUnit.unit) else B_12_0 (L_12_0 4611686018427387904 (y14.2.2.2.2.2.1) (↑(length (y14.2.2.2.2.2.1)) : Int) 0 ([wrap u32 (Sp.orI i64 (Sp.orI i64 (Sp.orI i64 (Sp.andI i64 (y14.1) 22) (wrap i64 (y14.2.2.1 * 256))) (wrap i64 (y14.2.2.2.1 * 65536))) (wrap i64 (y14.2.2.2.2.1 * 16777216)))] ++ [wrap u32 (y14.2.2.2.2.2.2.1)] ++ [wrap u32 (↑(length (y14.2.2.2.2.2.1)) : Int)])) fun y15 => some (y15, 0, PUnit.unit)) fun y16 => B_12_0 (L_12_0 4611686018427387904 (y16.2.2.2.2.2.1) (↑(length (y16.2.2.2.2.2.1)) : Int) 0 ([wrap u32 (Sp.orI i64 (Sp.orI i64 (Sp.orI i64 (Sp.andI i64 (y16.1) 22) (wrap i64 (y16.2.2.1 * 256))) (wrap i64 (y16.2.2.2.1 * 65536))) (wrap i64 (y16.2.2.2.2.1 * 16777216)))] ++ [wrap u32 (y16.2.2.2.2.2.2.1)] ++ [wrap u32 (↑(length (y16.2.2.2.2.2.1)) : Int)])) fun y17 => some (y17, 0, PUnit.unit))))))
noncomputable def Sp.p_12 (a0 : (Int × (Int × (Int × (Int × (Int × ((List Int) × (Int × Unit)))))))) : Bool := (F_12 a0).isSome
noncomputable def Sp.v_12 (a0 : (Int × (Int × (Int × (Int × (Int × ((List Int) × (Int × Unit)))))))) : (List Int) × Int × Unit := (F_12 a0).getD (dfH R_12)
noncomputable def s_12 : Summ := shS A_12 R_12 (fun x => p_12 x.1) (fun x => v_12 x.1)
theorem pv_12 (a0 : (Int × (Int × (Int × (Int × (Int × ((List Int) × (Int × Unit)))))))) {y : (List Int) × Int × Unit} (h : F_12 a0 = some y) : p_12 a0 = true ∧ v_12 a0 = y := pvG h
theorem run_12 (x : HDen A_12) (y : HDen R_12) (h : F_12 x.1 = some y) : rnF sm_12 5 12 A_12 R_12 x y := runG ov_12_12_ok (os := [O_12_0]) ⟨OK_12_0, trivial⟩ (Eq.trans (by kernel_rfl) h)
end
noncomputable section
abbrev A_13 : List Ty := [(.slice (.int .u32)), (.slice (.int .u32))]
abbrev R_13 : List Ty := [.bool]
noncomputable def sm_13 : Nat → Option Summ := smL []
noncomputable def T_13_0 : PS := ⟨26, [(0, .hv (.slice (.int .u32))), (1, .hv (.slice (.int .u32))), (12, .hv (.int .i64)), (13, .hv (.int .i64))], [], 0⟩
inductive Sp.E_13_0 where
 | e0
 | e1
noncomputable def Sp.B_13_0 {R : Type} (r : Option E_13_0) (k0 k1 : Option R) : Option R := match r with
 | none => none
 | some (.e0) => k0
 | some (.e1) => k1
noncomputable def Y_13_0 {R : Type} (k : Ex → St → Option R) : E_13_0 → Option R
 | .e0 => k Ex.ret (sx 26 [(4, CV.bool false)] [])
 | .e1 => k (Ex.exit 0) (sx 26 [] [])
noncomputable def Sp.S_13_0 {R : Type} (K : List Int → List Int → Int → Int → Option R) (k : E_13_0 → Option R) (p0 p1 : List Int) (p2 p3 : Int) : Option R :=
 bif decide (p3 < p2) then gd (inB p3 (length p0)) (gd (inB p3 (length p1)) (bif getD p0 (toNat p3) 0 != getD p1 (toNat p3) 0 then k (E_13_0.e0) else K p0 p1 p2 (wrap i64 (p3 + 1)))) else k (E_13_0.e1)
noncomputable def Sp.L_13_0 : Nat → List Int → List Int → Int → Int → Option E_13_0
 | 0, _, _, _, _ => none
 | m + 1, p0, p1, p2, p3 => S_13_0 (L_13_0 m) some p0 p1 p2 p3
noncomputable def l_13_0 (m : Nat) (a : T_13_0.E) : Option E_13_0 := L_13_0 m a.1 a.2.1 a.2.2.1 a.2.2.2.1
noncomputable def O_13_0 {R : Type} : Orc R := orL T_13_0 (l_13_0 FU) Y_13_0
theorem OK_13_0 {R : Type} : okF (R := R) sm_13 0 (nf 13 0) O_13_0 := lp0 T_13_0 l_13_0 (fun R K k a => S_13_0 (fun p0 p1 p2 p3 => K (p0, p1, p2, p3, ())) k a.1 a.2.1 a.2.2.1 a.2.2.2.1) Y_13_0 (fun _ _ _ => by kernel_rfl) (fun _ _ _ => by
 unfold S_13_0
 repeat' first | apply gdN | apply condN | rfl) (ok0 _)
noncomputable def F_13 (a0 a1 : (List Int)) : Option (Bool × Unit) :=
 bif (↑(length a0) : Int) != (↑(length a1) : Int) then some (false, PUnit.unit) else B_13_0 (L_13_0 4611686018427387904 a0 a1 (↑(length a0) : Int) 0) (some (false, PUnit.unit)) (some (true, PUnit.unit))
noncomputable def Sp.p_13 (a0 a1 : (List Int)) : Bool := (F_13 a0 a1).isSome
noncomputable def Sp.v_13 (a0 a1 : (List Int)) : Bool × Unit := (F_13 a0 a1).getD (dfH R_13)
noncomputable def s_13 : Summ := shN A_13 R_13 (fun x => p_13 x.1 x.2.1) (fun x => v_13 x.1 x.2.1)
theorem run_13 (x : HDen A_13) (y : HDen R_13) (h : F_13 x.1 x.2.1 = some y) : rnF sm_13 1 13 A_13 R_13 x y := runG noO_ok (os := [O_13_0]) ⟨OK_13_0, trivial⟩ (Eq.trans (by kernel_rfl) h)
end
noncomputable section
abbrev A_4 : List Ty := []
abbrev R_4 : List Ty := [.bool]
noncomputable def sm_4 : Nat → Option Summ := smL [(12, s_12), (13, s_13)]
noncomputable def F_4  : Option (Bool × Unit) :=
 gd (p_12 (6, 0, 2, 0, 3, [5], 9, PUnit.unit)) (bif (v_12 (6, 0, 2, 0, 3, [5], 9, PUnit.unit)).2.1 == 0 then gd (p_13 ((v_12 (6, 0, 2, 0, 3, [5], 9, PUnit.unit)).1) [50332166, 9, 1, 256, 5]) (some ((v_13 ((v_12 (6, 0, 2, 0, 3, [5], 9, PUnit.unit)).1) [50332166, 9, 1, 256, 5]).1, PUnit.unit)) else some (false, PUnit.unit))
noncomputable def Sp.p_4  : Bool := (F_4 ).isSome
noncomputable def Sp.v_4  : Bool × Unit := (F_4 ).getD (dfH R_4)
noncomputable def s_4 : Summ := shN A_4 R_4 (fun x => p_4 ) (fun x => v_4 )
theorem pv_4  {y : Bool × Unit} (h : F_4  = some y) : p_4  = true ∧ v_4  = y := pvG h
theorem run_4 (x : HDen A_4) (y : HDen R_4) (h : F_4  = some y) : rnF sm_4 1 4 A_4 R_4 x y := runG noO_ok (os := []) trivial (Eq.trans (by kernel_rfl) h)
end
noncomputable section
abbrev A_14 : List Ty := [(.pair (.slice (.int .u32)) (.pair (.slice (.int .i64)) (.pair (.int .i64) .unit)))]
abbrev R_14 : List Ty := [.bool]
noncomputable def sm_14 : Nat → Option Summ := smL []
noncomputable def T_14_53_0_0 : PS := ⟨19, [(0, .hv (.slice (.int .i64))), (1, .kc (.clo 39 (.pair (.ptr 0 []) (.pure .unit PUnit.unit)))), (7, .hv (.int .i64)), (8, .hv (.int .i64))], [.mem (.hv (.pair (.slice (.int .u32)) (.pair (.slice (.int .i64)) (.pair (.int .i64) .unit))))], 1⟩
inductive Sp.E_14_53_0_0 where
 | e0 (p2 : Int) (p3 : List Int × List Int × Int × Unit)
 | e1 (p3 : List Int × List Int × Int × Unit)
noncomputable def Sp.B_14_53_0_0 {R : Type} (r : Option E_14_53_0_0) (k0 : Int → (List Int × List Int × Int × Unit) → Option R) (k1 : (List Int × List Int × Int × Unit) → Option R) : Option R := match r with
 | none => none
 | some (.e0 p2 p3) => k0 p2 p3
 | some (.e1 p3) => k1 p3
noncomputable def Y_14_53_0_0 {R : Type} (k : Ex → St → Option R) : E_14_53_0_0 → Option R
 | .e0 p2 p3 => k Ex.ret (sx 19 [(4, CV.int i64 p2)] [Blk.mem (CV.pure (Ty.pair (Ty.slice (Ty.int u32)) (Ty.pair (Ty.slice (Ty.int i64)) (Ty.pair (Ty.int i64) Ty.unit))) p3)] 1)
 | .e1 p3 => k (Ex.exit 0) (sx 19 [] [Blk.mem (CV.pure (Ty.pair (Ty.slice (Ty.int u32)) (Ty.pair (Ty.slice (Ty.int i64)) (Ty.pair (Ty.int i64) Ty.unit))) p3)] 1)
noncomputable def Sp.S_14_53_0_0 {R : Type} (K : List Int → Int → Int → (List Int × List Int × Int × Unit) → Option R) (k : E_14_53_0_0 → Option R) (p0 : List Int) (p1 p2 : Int) (p3 : List Int × List Int × Int × Unit) : Option R :=
 bif decide (p2 < p1) then gd (inB p2 (length p0)) (bif decide (getD p0 (toNat p2) (0 :Int) < (0 :Int)) then k (E_14_53_0_0.e0 p2 p3) else bif decide (getD p0 (toNat p2) 0 > p3.2.2.1) then k (E_14_53_0_0.e0 p2 p3) else K p0 p1 (wrap i64 (p2 + 1)) p3) else k (E_14_53_0_0.e1 p3)
noncomputable def Sp.L_14_53_0_0 : Nat → List Int → Int → Int → (List Int × List Int × Int × Unit) → Option E_14_53_0_0
 | 0, _, _, _, _ => none
 | m + 1, p0, p1, p2, p3 => S_14_53_0_0 (L_14_53_0_0 m) some p0 p1 p2 p3
noncomputable def l_14_53_0_0 (m : Nat) (a : T_14_53_0_0.E) : Option E_14_53_0_0 := L_14_53_0_0 m a.1 a.2.1 a.2.2.1 a.2.2.2.1
noncomputable def O_14_53_0_0 {R : Type} : Orc R := orL T_14_53_0_0 (l_14_53_0_0 FU) Y_14_53_0_0
theorem OK_14_53_0_0 {R : Type} : okF (R := R) sm_14 2 (nf 53 0) O_14_53_0_0 := lp0 T_14_53_0_0 l_14_53_0_0 (fun R K k a => S_14_53_0_0 (fun p0 p1 p2 p3 => K (p0, p1, p2, p3, ())) k a.1 a.2.1 a.2.2.1 a.2.2.2.1) Y_14_53_0_0 (fun _ _ _ => by kernel_rfl) (fun _ _ _ => by
 unfold S_14_53_0_0
 repeat' first | apply gdN | apply condN | rfl) (ok0 _)
noncomputable def g_14_53 {R : Type} : List CV → List Blk → (CV → List Blk → Option R) → Option R := evFnL sm_14 FU (ovr noO (evFn sm_14 fns FU 2)) (mkT (fB fns 53) [O_14_53_0_0]) (fO fns 53)
theorem g_14_53_ok {R : Type} (args : List CV) (hp : List Blk) (k : CV → List Blk → Option R) (r : R) (h : g_14_53 args hp k = some r) : evFn sm_14 fns FU 3 53 args hp k = some r := runG noO_ok (os := [O_14_53_0_0]) ⟨OK_14_53_0_0, trivial⟩ h
noncomputable def ov_14_35 {R : Type} : Nat → Option (List CV → List Blk → (CV → List Blk → Option R) → Option R) := fun f' => bif Nat.beq f' 53 then some g_14_53 else none
theorem ov_14_35_ok {R : Type} : OvrOK (R := R) ov_14_35 (evFn sm_14 fns FU 3) := by
 intro f' g h args hp k r hg
 dsimp only [ov_14_35] at h
 by_cases h53 : f' = 53
 · subst h53
   injection h with h
   subst h
   exact evFn_le 0 (g_14_53_ok _ _ _ _ hg)
 rw [nbeq_ne h53, cond_false] at h
 cases h
noncomputable def g_14_35 {R : Type} : List CV → List Blk → (CV → List Blk → Option R) → Option R := evFnL sm_14 FU (ovr ov_14_35 (evFn sm_14 fns FU 3)) (mkT (fB fns 35) []) (fO fns 35)
theorem g_14_35_ok {R : Type} (args : List CV) (hp : List Blk) (k : CV → List Blk → Option R) (r : R) (h : g_14_35 args hp k = some r) : evFn sm_14 fns FU 4 35 args hp k = some r := runG ov_14_35_ok (os := []) trivial h
noncomputable def ov_14_14 {R : Type} : Nat → Option (List CV → List Blk → (CV → List Blk → Option R) → Option R) := fun f' => bif Nat.beq f' 35 then some g_14_35 else none
theorem ov_14_14_ok {R : Type} : OvrOK (R := R) ov_14_14 (evFn sm_14 fns FU 4) := by
 intro f' g h args hp k r hg
 dsimp only [ov_14_14] at h
 by_cases h35 : f' = 35
 · subst h35
   injection h with h
   subst h
   exact evFn_le 0 (g_14_35_ok _ _ _ _ hg)
 rw [nbeq_ne h35, cond_false] at h
 cases h
noncomputable def F_14 (a0 : ((List Int) × ((List Int) × (Int × Unit)))) : Option (Bool × Unit) :=
 bif decide ((↑(length (a0.2.1)) : Int) < 1) then some (false, PUnit.unit) else bif decide ((↑(length (a0.2.1)) : Int) > 64) then some (false, PUnit.unit) else bif (↑(length (a0.1)) : Int) != wrap i64 ((↑(length (a0.2.1)) : Int) * 64) then some (false, PUnit.unit) else bif decide (a0.2.2.1 < 1) then some (false, PUnit.unit) else bif decide (a0.2.2.1 > 1000000) then some (false, PUnit.unit) else B_14_53_0_0 (L_14_53_0_0 4611686018427387904 (a0.2.1) (↑(length (a0.2.1)) : Int) 0 a0) (fun y23 y24 => some (!decide (y23 ≥ 0), PUnit.unit)) fun y25 => some (true, PUnit.unit)
noncomputable def Sp.p_14 (a0 : ((List Int) × ((List Int) × (Int × Unit)))) : Bool := (F_14 a0).isSome
noncomputable def Sp.v_14 (a0 : ((List Int) × ((List Int) × (Int × Unit)))) : Bool × Unit := (F_14 a0).getD (dfH R_14)
noncomputable def s_14 : Summ := shN A_14 R_14 (fun x => p_14 x.1) (fun x => v_14 x.1)
theorem pv_14 (a0 : ((List Int) × ((List Int) × (Int × Unit)))) {y : Bool × Unit} (h : F_14 a0 = some y) : p_14 a0 = true ∧ v_14 a0 = y := pvG h
theorem run_14 (x : HDen A_14) (y : HDen R_14) (h : F_14 x.1 = some y) : rnF sm_14 5 14 A_14 R_14 x y := runG ov_14_14_ok (os := []) trivial (Eq.trans (by kernel_rfl) h)
end
noncomputable section
abbrev A_15 : List Ty := [(.pair (.slice (.int .u32)) (.pair (.slice (.int .i64)) (.pair (.int .i64) .unit)))]
abbrev R_15 : List Ty := [(.pair (.slice (.int .u32)) (.pair (.slice (.int .i64)) (.pair (.int .i64) .unit)))]
noncomputable def sm_15 : Nat → Option Summ := smL [(40, s_40), (41, s_41)]
noncomputable def F_15 (a0 : ((List Int) × ((List Int) × (Int × Unit)))) : Option (((List Int) × ((List Int) × (Int × Unit))) × Unit) :=
 gd (room (length (a0.1)) 4) (gd (room (length (a0.2.1)) 8) (some ((a0.1, a0.2.1, a0.2.2.1, PUnit.unit), PUnit.unit)))
noncomputable def Sp.p_15 (a0 : ((List Int) × ((List Int) × (Int × Unit)))) : Bool := (F_15 a0).isSome
noncomputable def Sp.v_15 (a0 : ((List Int) × ((List Int) × (Int × Unit)))) : ((List Int) × ((List Int) × (Int × Unit))) × Unit := (F_15 a0).getD (dfH R_15)
noncomputable def s_15 : Summ := shS A_15 R_15 (fun x => p_15 x.1) (fun x => v_15 x.1)
theorem pv_15 (a0 : ((List Int) × ((List Int) × (Int × Unit)))) {y : ((List Int) × ((List Int) × (Int × Unit))) × Unit} (h : F_15 a0 = some y) : p_15 a0 = true ∧ v_15 a0 = y := pvG h
theorem run_15 (x : HDen A_15) (y : HDen R_15) (h : F_15 x.1 = some y) : rnF sm_15 1 15 A_15 R_15 x y := runG noO_ok (os := []) trivial (Eq.trans (by kernel_rfl) h)
end
noncomputable section
abbrev A_16 : List Ty := [(.pair (.pair (.slice (.int .u32)) (.pair (.slice (.int .i64)) (.pair (.int .i64) .unit))) (.pair (.int .i64) (.pair (.int .i64) .unit)))]
abbrev R_16 : List Ty := [.bool]
noncomputable def sm_16 : Nat → Option Summ := smL []
noncomputable def F_16 (a0 : (((List Int) × ((List Int) × (Int × Unit))) × (Int × (Int × Unit)))) : Option (Bool × Unit) :=
 bif decide (a0.2.2.1 ≥ 2) then bif decide (a0.2.2.1 ≤ 16) then bif Int.tmod (a0.2.2.1) (2 :Int) == (0 :Int) then bif decide (a0.2.1 ≥ 0) then some (decide (a0.2.1 ≤ wrap i64 ((↑(length (a0.1.2.1)) : Int) - a0.2.2.1)), PUnit.unit) else some (false, PUnit.unit) else some (false, PUnit.unit) else some (false, PUnit.unit) else some (false, PUnit.unit)
noncomputable def Sp.p_16 (a0 : (((List Int) × ((List Int) × (Int × Unit))) × (Int × (Int × Unit)))) : Bool := (F_16 a0).isSome
noncomputable def Sp.v_16 (a0 : (((List Int) × ((List Int) × (Int × Unit))) × (Int × (Int × Unit)))) : Bool × Unit := (F_16 a0).getD (dfH R_16)
noncomputable def s_16 : Summ := shN A_16 R_16 (fun x => p_16 x.1) (fun x => v_16 x.1)
theorem pv_16 (a0 : (((List Int) × ((List Int) × (Int × Unit))) × (Int × (Int × Unit)))) {y : Bool × Unit} (h : F_16 a0 = some y) : p_16 a0 = true ∧ v_16 a0 = y := pvG h
theorem run_16 (x : HDen A_16) (y : HDen R_16) (h : F_16 x.1 = some y) : rnF sm_16 1 16 A_16 R_16 x y := runG noO_ok (os := []) trivial (Eq.trans (by kernel_rfl) h)
end
noncomputable section
abbrev A_24 : List Ty := [(.int .i64)]
abbrev R_24 : List Ty := [(.int .u32)]
noncomputable def sm_24 : Nat → Option Summ := smL []
noncomputable def F_24 (a0 : Int) : Option (Int × Unit) :=
 some (Sp.orI u32 (wrap u32 (wrap u32 a0 * 65536)) (wrap u32 (Sp.andI i64 (Sp.xorI i64 (-1 : Int) a0) 65535)), PUnit.unit)
noncomputable def Sp.p_24 (a0 : Int) : Bool := (F_24 a0).isSome
noncomputable def Sp.v_24 (a0 : Int) : Int × Unit := (F_24 a0).getD (dfH R_24)
noncomputable def s_24 : Summ := shN A_24 R_24 (fun x => p_24 x.1) (fun x => v_24 x.1)
theorem pv_24 (a0 : Int) {y : Int × Unit} (h : F_24 a0 = some y) : p_24 a0 = true ∧ v_24 a0 = y := pvG h
theorem run_24 (x : HDen A_24) (y : HDen R_24) (h : F_24 x.1 = some y) : rnF sm_24 1 24 A_24 R_24 x y := runG noO_ok (os := []) trivial (Eq.trans (by kernel_rfl) h)
end
noncomputable section
abbrev A_54 : List Ty := [(.int .u32)]
abbrev R_54 : List Ty := [(.int .i64), .bool]
noncomputable def sm_54 : Nat → Option Summ := smL [(24, s_24)]
noncomputable def F_54 (a0 : Int) : Option (Int × Bool × Unit) :=
 gd (p_24 (wrap i64 (Int.fdiv a0 65536))) (some (wrap i64 (Int.fdiv a0 65536), (v_24 (wrap i64 (Int.fdiv a0 65536))).1 == a0, PUnit.unit))
noncomputable def Sp.p_54 (a0 : Int) : Bool := (F_54 a0).isSome
noncomputable def Sp.v_54 (a0 : Int) : Int × Bool × Unit := (F_54 a0).getD (dfH R_54)
noncomputable def s_54 : Summ := shN A_54 R_54 (fun x => p_54 x.1) (fun x => v_54 x.1)
theorem pv_54 (a0 : Int) {y : Int × Bool × Unit} (h : F_54 a0 = some y) : p_54 a0 = true ∧ v_54 a0 = y := pvG h
theorem run_54 (x : HDen A_54) (y : HDen R_54) (h : F_54 x.1 = some y) : rnF sm_54 1 54 A_54 R_54 x y := runG noO_ok (os := []) trivial (Eq.trans (by kernel_rfl) h)
end
noncomputable section
abbrev A_23 : List Ty := [(.pair (.pair (.slice (.int .u32)) (.pair (.slice (.int .i64)) (.pair (.int .i64) .unit))) (.pair (.int .i64) (.pair (.int .i64) .unit))), (.int .i64), (.int .i64)]
abbrev R_23 : List Ty := [(.int .i64)]
noncomputable def sm_23 : Nat → Option Summ := smL []
noncomputable def F_23 (a0 : (((List Int) × ((List Int) × (Int × Unit))) × (Int × (Int × Unit)))) (a1 a2 : Int) : Option (Int × Unit) :=
 some (wrap i64 (wrap i64 (64 * wrap i64 (a0.2.1 + wrap i64 (Int.tdiv (wrap i64 (a1 * a0.2.2.1)) 2))) + a2), PUnit.unit)
noncomputable def Sp.p_23 (a0 : (((List Int) × ((List Int) × (Int × Unit))) × (Int × (Int × Unit)))) (a1 a2 : Int) : Bool := (F_23 a0 a1 a2).isSome
noncomputable def Sp.v_23 (a0 : (((List Int) × ((List Int) × (Int × Unit))) × (Int × (Int × Unit)))) (a1 a2 : Int) : Int × Unit := (F_23 a0 a1 a2).getD (dfH R_23)
noncomputable def s_23 : Summ := shN A_23 R_23 (fun x => p_23 x.1 x.2.1 x.2.2.1) (fun x => v_23 x.1 x.2.1 x.2.2.1)
theorem pv_23 (a0 : (((List Int) × ((List Int) × (Int × Unit))) × (Int × (Int × Unit)))) (a1 a2 : Int) {y : Int × Unit} (h : F_23 a0 a1 a2 = some y) : p_23 a0 a1 a2 = true ∧ v_23 a0 a1 a2 = y := pvG h
theorem run_23 (x : HDen A_23) (y : HDen R_23) (h : F_23 x.1 x.2.1 x.2.2.1 = some y) : rnF sm_23 1 23 A_23 R_23 x y := runG noO_ok (os := []) trivial (Eq.trans (by kernel_rfl) h)
end
noncomputable section
abbrev A_67 : List Ty := [(.pair (.pair (.slice (.int .u32)) (.pair (.slice (.int .i64)) (.pair (.int .i64) .unit))) (.pair (.int .i64) (.pair (.int .i64) .unit)))]
abbrev R_67 : List Ty := [(.int .i64)]
noncomputable def sm_67 : Nat → Option Summ := smL []
noncomputable def F_67 (a0 : (((List Int) × ((List Int) × (Int × Unit))) × (Int × (Int × Unit)))) : Option (Int × Unit) :=
 some (wrap i64 (Int.tdiv (wrap i64 (64 * a0.2.2.1)) 2), PUnit.unit)
noncomputable def Sp.p_67 (a0 : (((List Int) × ((List Int) × (Int × Unit))) × (Int × (Int × Unit)))) : Bool := (F_67 a0).isSome
noncomputable def Sp.v_67 (a0 : (((List Int) × ((List Int) × (Int × Unit))) × (Int × (Int × Unit)))) : Int × Unit := (F_67 a0).getD (dfH R_67)
noncomputable def s_67 : Summ := shN A_67 R_67 (fun x => p_67 x.1) (fun x => v_67 x.1)
theorem pv_67 (a0 : (((List Int) × ((List Int) × (Int × Unit))) × (Int × (Int × Unit)))) {y : Int × Unit} (h : F_67 a0 = some y) : p_67 a0 = true ∧ v_67 a0 = y := pvG h
theorem run_67 (x : HDen A_67) (y : HDen R_67) (h : F_67 x.1 = some y) : rnF sm_67 1 67 A_67 R_67 x y := runG noO_ok (os := []) trivial (Eq.trans (by kernel_rfl) h)
end
noncomputable section
abbrev A_55 : List Ty := [(.pair (.pair (.slice (.int .u32)) (.pair (.slice (.int .i64)) (.pair (.int .i64) .unit))) (.pair (.int .i64) (.pair (.int .i64) .unit))), (.int .i64)]
abbrev R_55 : List Ty := [(.slice (.int .u32))]
noncomputable def sm_55 : Nat → Option Summ := smL [(23, s_23), (67, s_67)]
noncomputable def F_55 (a0 : (((List Int) × ((List Int) × (Int × Unit))) × (Int × (Int × Unit)))) (a1 : Int) : Option ((List Int) × Unit) :=
 gd (p_23 a0 a1 0) (gd (p_67 a0) (gd (p_23 a0 a1 ((v_67 a0).1)) (gd (sl3 ((v_23 a0 a1 0).1) ((v_23 a0 a1 ((v_67 a0).1)).1) (↑(length (a0.1.1)) : Int)) (some (take (toNat ((v_23 a0 a1 ((v_67 a0).1)).1) - toNat ((v_23 a0 a1 0).1)) (drop (toNat ((v_23 a0 a1 0).1)) (a0.1.1)), PUnit.unit)))))
noncomputable def Sp.p_55 (a0 : (((List Int) × ((List Int) × (Int × Unit))) × (Int × (Int × Unit)))) (a1 : Int) : Bool := (F_55 a0 a1).isSome
noncomputable def Sp.v_55 (a0 : (((List Int) × ((List Int) × (Int × Unit))) × (Int × (Int × Unit)))) (a1 : Int) : (List Int) × Unit := (F_55 a0 a1).getD (dfH R_55)
noncomputable def s_55 : Summ := shS A_55 R_55 (fun x => p_55 x.1 x.2.1) (fun x => v_55 x.1 x.2.1)
theorem pv_55 (a0 : (((List Int) × ((List Int) × (Int × Unit))) × (Int × (Int × Unit)))) (a1 : Int) {y : (List Int) × Unit} (h : F_55 a0 a1 = some y) : p_55 a0 a1 = true ∧ v_55 a0 a1 = y := pvG h
theorem run_55 (x : HDen A_55) (y : HDen R_55) (h : F_55 x.1 x.2.1 = some y) : rnF sm_55 1 55 A_55 R_55 x y := runG noO_ok (os := []) trivial (Eq.trans (by kernel_rfl) h)
end
noncomputable section
abbrev A_42 : List Ty := [(.pair (.pair (.slice (.int .u32)) (.pair (.slice (.int .i64)) (.pair (.int .i64) .unit))) (.pair (.int .i64) (.pair (.int .i64) .unit))), (.int .i64)]
abbrev R_42 : List Ty := [(.int .i64)]
noncomputable def sm_42 : Nat → Option Summ := smL [(54, s_54), (55, s_55)]
noncomputable def F_42 (a0 : (((List Int) × ((List Int) × (Int × Unit))) × (Int × (Int × Unit)))) (a1 : Int) : Option (Int × Unit) :=
 gd (p_55 a0 a1) (gd (inB 0 (length ((v_55 a0 a1).1))) (gd (p_54 (getD ((v_55 a0 a1).1) 0 0)) (bif !(v_54 (getD ((v_55 a0 a1).1) 0 0)).2.1 then some (0, PUnit.unit) else some ((v_54 (getD ((v_55 a0 a1).1) 0 0)).1, PUnit.unit))))
noncomputable def Sp.p_42 (a0 : (((List Int) × ((List Int) × (Int × Unit))) × (Int × (Int × Unit)))) (a1 : Int) : Bool := (F_42 a0 a1).isSome
noncomputable def Sp.v_42 (a0 : (((List Int) × ((List Int) × (Int × Unit))) × (Int × (Int × Unit)))) (a1 : Int) : Int × Unit := (F_42 a0 a1).getD (dfH R_42)
noncomputable def s_42 : Summ := shN A_42 R_42 (fun x => p_42 x.1 x.2.1) (fun x => v_42 x.1 x.2.1)
theorem pv_42 (a0 : (((List Int) × ((List Int) × (Int × Unit))) × (Int × (Int × Unit)))) (a1 : Int) {y : Int × Unit} (h : F_42 a0 a1 = some y) : p_42 a0 a1 = true ∧ v_42 a0 a1 = y := pvG h
theorem run_42 (x : HDen A_42) (y : HDen R_42) (h : F_42 x.1 x.2.1 = some y) : rnF sm_42 1 42 A_42 R_42 x y := runG noO_ok (os := []) trivial (Eq.trans (by kernel_rfl) h)
end
noncomputable section
abbrev A_17 : List Ty := [(.pair (.pair (.slice (.int .u32)) (.pair (.slice (.int .i64)) (.pair (.int .i64) .unit))) (.pair (.int .i64) (.pair (.int .i64) .unit)))]
abbrev R_17 : List Ty := [(.int .i64), .bool]
noncomputable def sm_17 : Nat → Option Summ := smL [(42, s_42)]
noncomputable def F_17 (a0 : (((List Int) × ((List Int) × (Int × Unit))) × (Int × (Int × Unit)))) : Option (Int × Bool × Unit) :=
 gd (p_42 a0 0) (gd (p_42 a0 1) (bif decide ((v_42 a0 1).1 > (v_42 a0 0).1) then some (1, true, PUnit.unit) else some (0, decide ((v_42 a0 0).1 > 0), PUnit.unit)))
noncomputable def Sp.p_17 (a0 : (((List Int) × ((List Int) × (Int × Unit))) × (Int × (Int × Unit)))) : Bool := (F_17 a0).isSome
noncomputable def Sp.v_17 (a0 : (((List Int) × ((List Int) × (Int × Unit))) × (Int × (Int × Unit)))) : Int × Bool × Unit := (F_17 a0).getD (dfH R_17)
noncomputable def s_17 : Summ := shN A_17 R_17 (fun x => p_17 x.1) (fun x => v_17 x.1)
theorem pv_17 (a0 : (((List Int) × ((List Int) × (Int × Unit))) × (Int × (Int × Unit)))) {y : Int × Bool × Unit} (h : F_17 a0 = some y) : p_17 a0 = true ∧ v_17 a0 = y := pvG h
theorem run_17 (x : HDen A_17) (y : HDen R_17) (h : F_17 x.1 = some y) : rnF sm_17 1 17 A_17 R_17 x y := runG noO_ok (os := []) trivial (Eq.trans (by kernel_rfl) h)
end
noncomputable section
abbrev A_6 : List Ty := [(.pair (.slice (.int .u32)) (.pair (.slice (.int .i64)) (.pair (.int .i64) .unit))), (.int .i64), (.int .i64)]
abbrev R_6 : List Ty := [(.pair (.pair (.slice (.int .u32)) (.pair (.slice (.int .i64)) (.pair (.int .i64) .unit))) (.pair (.int .i64) (.pair (.int .i64) .unit))), (.int .i64)]
noncomputable def sm_6 : Nat → Option Summ := smL [(14, s_14), (15, s_15), (16, s_16), (17, s_17)]
noncomputable def F_6 (a0 : ((List Int) × ((List Int) × (Int × Unit)))) (a1 a2 : Int) : Option ((((List Int) × ((List Int) × (Int × Unit))) × (Int × (Int × Unit))) × Int × Unit) :=
 gd (p_14 a0) (bif !(v_14 a0).1 then some ((([], [], 0, PUnit.unit), 0, 0, PUnit.unit), 1, PUnit.unit) else gd (p_15 a0) (gd (p_16 ((v_15 a0).1, a1, a2, PUnit.unit)) (bif !(v_16 ((v_15 a0).1, a1, a2, PUnit.unit)).1 then some ((([], [], 0, PUnit.unit), 0, 0, PUnit.unit), 2, PUnit.unit) else gd (p_17 ((v_15 a0).1, a1, a2, PUnit.unit)) (bif !(v_17 ((v_15 a0).1, a1, a2, PUnit.unit)).2.1 then some ((([], [], 0, PUnit.unit), 0, 0, PUnit.unit), 7, PUnit.unit) else some (((v_15 a0).1, a1, a2, PUnit.unit), 0, PUnit.unit)))))
noncomputable def Sp.p_6 (a0 : ((List Int) × ((List Int) × (Int × Unit)))) (a1 a2 : Int) : Bool := (F_6 a0 a1 a2).isSome
noncomputable def Sp.v_6 (a0 : ((List Int) × ((List Int) × (Int × Unit)))) (a1 a2 : Int) : (((List Int) × ((List Int) × (Int × Unit))) × (Int × (Int × Unit))) × Int × Unit := (F_6 a0 a1 a2).getD (dfH R_6)
noncomputable def s_6 : Summ := shS A_6 R_6 (fun x => p_6 x.1 x.2.1 x.2.2.1) (fun x => v_6 x.1 x.2.1 x.2.2.1)
theorem pv_6 (a0 : ((List Int) × ((List Int) × (Int × Unit)))) (a1 a2 : Int) {y : (((List Int) × ((List Int) × (Int × Unit))) × (Int × (Int × Unit))) × Int × Unit} (h : F_6 a0 a1 a2 = some y) : p_6 a0 a1 a2 = true ∧ v_6 a0 a1 a2 = y := pvG h
theorem run_6 (x : HDen A_6) (y : HDen R_6) (h : F_6 x.1 x.2.1 x.2.2.1 = some y) : rnF sm_6 1 6 A_6 R_6 x y := runG noO_ok (os := []) trivial (Eq.trans (by kernel_rfl) h)
end
noncomputable section
abbrev A_19 : List Ty := [(.pair (.int .i64) (.pair (.int .u32) .unit))]
abbrev R_19 : List Ty := [.bool]
noncomputable def sm_19 : Nat → Option Summ := smL []
noncomputable def F_19 (a0 : (Int × (Int × Unit))) : Option (Bool × Unit) :=
 bif decide (a0.1 ≥ 0) then some (decide (a0.1 ≤ 1099511627776), PUnit.unit) else some (false, PUnit.unit)
noncomputable def Sp.p_19 (a0 : (Int × (Int × Unit))) : Bool := (F_19 a0).isSome
noncomputable def Sp.v_19 (a0 : (Int × (Int × Unit))) : Bool × Unit := (F_19 a0).getD (dfH R_19)
noncomputable def s_19 : Summ := shN A_19 R_19 (fun x => p_19 x.1) (fun x => v_19 x.1)
theorem pv_19 (a0 : (Int × (Int × Unit))) {y : Bool × Unit} (h : F_19 a0 = some y) : p_19 a0 = true ∧ v_19 a0 = y := pvG h
theorem run_19 (x : HDen A_19) (y : HDen R_19) (h : F_19 x.1 = some y) : rnF sm_19 1 19 A_19 R_19 x y := runG noO_ok (os := []) trivial (Eq.trans (by kernel_rfl) h)
end
noncomputable section
abbrev A_20 : List Ty := [(.pair (.pair (.slice (.int .u32)) (.pair (.slice (.int .i64)) (.pair (.int .i64) .unit))) (.pair (.int .i64) (.pair (.int .i64) .unit))), (.int .i64), (.int .i64)]
abbrev R_20 : List Ty := [(.slice (.pair .bool (.pair (.int .i64) (.pair (.int .u32) .unit)))), .bool]
noncomputable def sm_20 : Nat → Option Summ := smL []
noncomputable def T_20_0 : PS := ⟨32, [(2, .hv (.int .i64)), (3, .kc (.ptr 0 [])), (8, .kc (.whole 1)), (9, .hv (.int .i64))], [.mem (.hv (.pair (.pair (.slice (.int .u32)) (.pair (.slice (.int .i64)) (.pair (.int .i64) .unit))) (.pair (.int .i64) (.pair (.int .i64) .unit)))), .vec 87 (.pair .bool (.pair (.int .i64) (.pair (.int .u32) .unit)))], 0⟩
inductive Sp.E_20_0 where
 | e0
 | e1 (p3 : List (Bool × Int × Int × Unit))
noncomputable def Sp.B_20_0 {R : Type} (r : Option E_20_0) (k0 : Option R) (k1 : (List (Bool × Int × Int × Unit)) → Option R) : Option R := match r with
 | none => none
 | some (.e0) => k0
 | some (.e1 p3) => k1 p3
noncomputable def Y_20_0 {R : Type} (k : Ex → St → Option R) : E_20_0 → Option R
 | .e0 => k Ex.ret (sx 32 [(6, CV.whole 0), (7, CV.bool false)] [Blk.vec 87 (Ty.pair Ty.bool (Ty.pair (Ty.int i64) (Ty.pair (Ty.int u32) Ty.unit))) []])
 | .e1 p3 => k (Ex.exit 0) (sx 32 [(8, CV.whole 0)] [Blk.vec 87 (Ty.pair Ty.bool (Ty.pair (Ty.int i64) (Ty.pair (Ty.int u32) Ty.unit))) p3])
noncomputable def Sp.S_20_0 {R : Type} (K : Int → Int → ((List Int × List Int × Int × Unit) × Int × Int × Unit) → (List (Bool × Int × Int × Unit)) → Option R) (k : E_20_0 → Option R) (p0 p1 : Int) (p2 : (List Int × List Int × Int × Unit) × Int × Int × Unit) (p3 : List (Bool × Int × Int × Unit)) : Option R :=
 bif decide (p1 < p0) then gd (inB p1 (length (p2.1.2.1))) (bif decide (getD (p2.1.2.1) (toNat p1) 0 ≥ p2.1.2.2.1) then k (E_20_0.e0) else gd (room (length p3 + 1) 24) (K p0 (wrap i64 (p1 + 1)) p2 (p3 ++ [(true, p1, 0, PUnit.unit)]))) else k (E_20_0.e1 p3)
noncomputable def Sp.L_20_0 : Nat → Int → Int → ((List Int × List Int × Int × Unit) × Int × Int × Unit) → (List (Bool × Int × Int × Unit)) → Option E_20_0
 | 0, _, _, _, _ => none
 | m + 1, p0, p1, p2, p3 => S_20_0 (L_20_0 m) some p0 p1 p2 p3
noncomputable def l_20_0 (m : Nat) (a : T_20_0.E) : Option E_20_0 := L_20_0 m a.1 a.2.1 a.2.2.1 a.2.2.2.1
noncomputable def O_20_0 {R : Type} : Orc R := orL T_20_0 (l_20_0 FU) Y_20_0
theorem OK_20_0 {R : Type} : okF (R := R) sm_20 0 (nf 20 0) O_20_0 := lp0 T_20_0 l_20_0 (fun R K k a => S_20_0 (fun p0 p1 p2 p3 => K (p0, p1, p2, p3, ())) k a.1 a.2.1 a.2.2.1 a.2.2.2.1) Y_20_0 (fun _ _ _ => by kernel_rfl) (fun _ _ _ => by
 unfold S_20_0
 repeat' first | apply gdN | apply condN | rfl) (ok0 _)
noncomputable def F_20 (a0 : (((List Int) × ((List Int) × (Int × Unit))) × (Int × (Int × Unit)))) (a1 a2 : Int) : Option ((List (Bool × (Int × (Int × Unit)))) × Bool × Unit) :=
 B_20_0 (L_20_0 4611686018427387904 a2 a1 a0 []) (some ([], false, PUnit.unit)) fun y1 => some (y1, true, PUnit.unit)
noncomputable def Sp.p_20 (a0 : (((List Int) × ((List Int) × (Int × Unit))) × (Int × (Int × Unit)))) (a1 a2 : Int) : Bool := (F_20 a0 a1 a2).isSome
noncomputable def Sp.v_20 (a0 : (((List Int) × ((List Int) × (Int × Unit))) × (Int × (Int × Unit)))) (a1 a2 : Int) : (List (Bool × (Int × (Int × Unit)))) × Bool × Unit := (F_20 a0 a1 a2).getD (dfH R_20)
noncomputable def s_20 : Summ := ownS A_20 87 [] (.slice (.pair .bool (.pair (.int .i64) (.pair (.int .u32) .unit)))) [.bool] (fun x => p_20 x.1 x.2.1 x.2.2.1) (fun x => v_20 x.1 x.2.1 x.2.2.1)
theorem pv_20 (a0 : (((List Int) × ((List Int) × (Int × Unit))) × (Int × (Int × Unit)))) (a1 a2 : Int) {y : (List (Bool × (Int × (Int × Unit)))) × Bool × Unit} (h : F_20 a0 a1 a2 = some y) : p_20 a0 a1 a2 = true ∧ v_20 a0 a1 a2 = y := pvG h
theorem run_20 (x : HDen A_20) (y : HDen R_20) (h : F_20 x.1 x.2.1 x.2.2.1 = some y) : evFn sm_20 fns FU 1 20 (ofH A_20 x) [] (ownK 87 [] (.slice (.pair .bool (.pair (.int .i64) (.pair (.int .u32) .unit)))) [.bool]) = some y := runG noO_ok (os := [O_20_0]) ⟨OK_20_0, trivial⟩ (Eq.trans (by kernel_rfl) h)
end
noncomputable section
abbrev A_56 : List Ty := [(.pair (.slice (.int .u32)) (.pair (.slice (.int .i64)) (.pair (.int .i64) .unit))), (.pair (.int .i64) (.pair (.int .u32) .unit)), (.int .i64), (.int .i64)]
abbrev R_56 : List Ty := [(.int .i64)]
noncomputable def sm_56 : Nat → Option Summ := smL [(14, s_14)]
noncomputable def F_56 (a0 : ((List Int) × ((List Int) × (Int × Unit)))) (a1 : (Int × (Int × Unit))) (a2 a3 : Int) : Option (Int × Unit) :=
 gd (p_14 a0) (bif !(v_14 a0).1 then some (1, PUnit.unit) else bif decide (a1.1 < 0) then some (1, PUnit.unit) else bif decide (a1.1 > 1099511627776) then some (1, PUnit.unit) else bif decide (a2 < 0) then some (2, PUnit.unit) else bif decide (a2 ≥ a3) then some (2, PUnit.unit) else some (0, PUnit.unit))
noncomputable def Sp.p_56 (a0 : ((List Int) × ((List Int) × (Int × Unit)))) (a1 : (Int × (Int × Unit))) (a2 a3 : Int) : Bool := (F_56 a0 a1 a2 a3).isSome
noncomputable def Sp.v_56 (a0 : ((List Int) × ((List Int) × (Int × Unit)))) (a1 : (Int × (Int × Unit))) (a2 a3 : Int) : Int × Unit := (F_56 a0 a1 a2 a3).getD (dfH R_56)
noncomputable def s_56 : Summ := shN A_56 R_56 (fun x => p_56 x.1 x.2.1 x.2.2.1 x.2.2.2.1) (fun x => v_56 x.1 x.2.1 x.2.2.1 x.2.2.2.1)
theorem pv_56 (a0 : ((List Int) × ((List Int) × (Int × Unit)))) (a1 : (Int × (Int × Unit))) (a2 a3 : Int) {y : Int × Unit} (h : F_56 a0 a1 a2 a3 = some y) : p_56 a0 a1 a2 a3 = true ∧ v_56 a0 a1 a2 a3 = y := pvG h
theorem run_56 (x : HDen A_56) (y : HDen R_56) (h : F_56 x.1 x.2.1 x.2.2.1 x.2.2.2.1 = some y) : rnF sm_56 1 56 A_56 R_56 x y := runG noO_ok (os := []) trivial (Eq.trans (by kernel_rfl) h)
end
noncomputable section
abbrev Zt43_0 : Type := List Int × List Int × Int × Unit
abbrev Zt43_1 : Type := Int × Int × Unit
abbrev Zy43_2 : Ty := (.pair (.int .i64) (.pair (.int .u32) .unit))
abbrev Zy43_3 : Ty := (.pair (.slice (.int .u32)) (.pair (.slice (.int .i64)) (.pair (.int .i64) .unit)))
abbrev A_43 : List Ty := [(.pair (.slice (.int .u32)) (.pair (.slice (.int .i64)) (.pair (.int .i64) .unit))), (.int .i64), (.pair (.int .i64) (.pair (.int .u32) .unit))]
abbrev R_43 : List Ty := [(.pair (.slice (.int .u32)) (.pair (.slice (.int .i64)) (.pair (.int .i64) .unit))), (.pair (.int .i64) (.pair (.int .u32) .unit)), (.int .i64)]
noncomputable def sm_43 : Nat → Option Summ := smL [(40, s_40), (41, s_41), (56, s_56)]
noncomputable def T_43_58_0_0 : PS := ⟨30, [(1, .hv (.int .u32)), (2, .kc (.ptr 1 [])), (3, .kc (.ptr 12 [])), (5, .sb 9 [] 1 none none none), (11, .hv (.int .i64)), (12, .hv (.int .i64))], [.mem (.hv Zy43_3), .mem (.hv (.int .i64)), .mem (.hv Zy43_2), .mem (.pr (.kc (.nil 38 (.int .u32))) (.pr (.kc (.nil 3 (.int .i64))) (.hv (.pair (.int .i64) .unit)))), .mem (.hv Zy43_2), .mem (.hv Zy43_3), .mem (.hv Zy43_2), .mem (.pr (.kc (.nil 38 (.int .u32))) (.pr (.kc (.nil 3 (.int .i64))) (.hv (.pair (.int .i64) .unit)))), .mem (.hv Zy43_2), .vec 38 (.int .u32), .vec 3 (.int .i64), .mem (.pr (.kc (.whole 9)) (.pr (.kc (.whole 10)) (.hv (.pair (.int .i64) .unit)))), .mem (.pr (.kc (.whole 9)) (.pr (.kc (.whole 10)) (.hv (.pair (.int .i64) .unit))))], 12⟩
inductive Sp.E_43_58_0_0 where
 | e0 (p5 : Zt43_0) (p6 : Int) (p7 : Zt43_1) (p8 : Int × Unit) (p9 : Zt43_1) (p10 : Zt43_0) (p11 : Zt43_1) (p12 : Int × Unit) (p13 : Zt43_1) (p14 p15 : List Int) (p16 p17 : Int × Unit)
noncomputable def Sp.B_43_58_0_0 {R : Type} (r : Option E_43_58_0_0) (k0 : Zt43_0 → Int → Zt43_1 → (Int × Unit) → Zt43_1 → Zt43_0 → Zt43_1 → (Int × Unit) → Zt43_1 → List Int → List Int → (Int × Unit) → (Int × Unit) → Option R) : Option R := match r with
 | none => none
 | some (.e0 p5 p6 p7 p8 p9 p10 p11 p12 p13 p14 p15 p16 p17) => k0 p5 p6 p7 p8 p9 p10 p11 p12 p13 p14 p15 p16 p17
noncomputable def Y_43_58_0_0 {R : Type} (k : Ex → St → Option R) : E_43_58_0_0 → Option R
 | .e0 p5 p6 p7 p8 p9 p10 p11 p12 p13 p14 p15 p16 p17 => k (Ex.exit 0) (sx 30 [(2, CV.ptr 1 []), (3, CV.ptr 12 [])] [Blk.mem (CV.pure (Ty.pair (Ty.slice (Ty.int u32)) (Ty.pair (Ty.slice (Ty.int i64)) (Ty.pair (Ty.int i64) Ty.unit))) p5), Blk.mem (CV.int i64 p6), Blk.mem (CV.pure (Ty.pair (Ty.int i64) (Ty.pair (Ty.int u32) Ty.unit)) p7), Blk.mem (CV.pair (CV.nil 38 (Ty.int u32)) (CV.pair (CV.nil 3 (Ty.int i64)) (CV.pure (Ty.pair (Ty.int i64) Ty.unit) p8))), Blk.mem (CV.pure (Ty.pair (Ty.int i64) (Ty.pair (Ty.int u32) Ty.unit)) p9), Blk.mem (CV.pure (Ty.pair (Ty.slice (Ty.int u32)) (Ty.pair (Ty.slice (Ty.int i64)) (Ty.pair (Ty.int i64) Ty.unit))) p10), Blk.mem (CV.pure (Ty.pair (Ty.int i64) (Ty.pair (Ty.int u32) Ty.unit)) p11), Blk.mem (CV.pair (CV.nil 38 (Ty.int u32)) (CV.pair (CV.nil 3 (Ty.int i64)) (CV.pure (Ty.pair (Ty.int i64) Ty.unit) p12))), Blk.mem (CV.pure (Ty.pair (Ty.int i64) (Ty.pair (Ty.int u32) Ty.unit)) p13), Blk.vec 38 (Ty.int u32) p14, Blk.vec 3 (Ty.int i64) p15, Blk.mem (CV.pair (CV.whole 9) (CV.pair (CV.whole 10) (CV.pure (Ty.pair (Ty.int i64) Ty.unit) p16))), Blk.mem (CV.pair (CV.whole 9) (CV.pair (CV.whole 10) (CV.pure (Ty.pair (Ty.int i64) Ty.unit) p17)))] 12)
noncomputable def Sp.S_43_58_0_0 {R : Type} (K : Int → Nat → Nat → Int → Int → (List Int × List Int × Int × Unit) → Int → (Int × Int × Unit) → (Int × Unit) → (Int × Int × Unit) → (List Int × List Int × Int × Unit) → (Int × Int × Unit) → (Int × Unit) → (Int × Int × Unit) → List Int → List Int → (Int × Unit) → (Int × Unit) → Option R) (k : E_43_58_0_0 → Option R) (p0 : Int) (p1 p2 : Nat) (p3 p4 : Int) (p5 : List Int × List Int × Int × Unit) (p6 : Int) (p7 : Int × Int × Unit) (p8 : Int × Unit) (p9 : Int × Int × Unit) (p10 : List Int × List Int × Int × Unit) (p11 : Int × Int × Unit) (p12 : Int × Unit) (p13 : Int × Int × Unit) (p14 p15 : List Int) (p16 p17 : Int × Unit) : Option R :=
 bif decide (p4 < p3) then gd (inB p4 p2) (gd (decide (p1 + toNat p4 < length p14) && true) (gd (inB p4 p2) (gd (decide (p1 + toNat p4 < length p14) && true && true) (K p0 p1 p2 p3 (wrap i64 (p4 + 1)) p5 p6 p7 p8 p9 p10 p11 p12 p13 (List.set p14 (p1 + toNat p4) (Sp.orI u32 (getD p14 (p1 + toNat p4) 0) p0)) p15 p16 p17)))) else k (E_43_58_0_0.e0 p5 p6 p7 p8 p9 p10 p11 p12 p13 p14 p15 p16 p17)
noncomputable def Sp.L_43_58_0_0 : Nat → Int → Nat → Nat → Int → Int → (List Int × List Int × Int × Unit) → Int → (Int × Int × Unit) → (Int × Unit) → (Int × Int × Unit) → (List Int × List Int × Int × Unit) → (Int × Int × Unit) → (Int × Unit) → (Int × Int × Unit) → List Int → List Int → (Int × Unit) → (Int × Unit) → Option E_43_58_0_0
 | 0, _, _, _, _, _, _, _, _, _, _, _, _, _, _, _, _, _, _ => none
 | m + 1, p0, p1, p2, p3, p4, p5, p6, p7, p8, p9, p10, p11, p12, p13, p14, p15, p16, p17 => S_43_58_0_0 (L_43_58_0_0 m) some p0 p1 p2 p3 p4 p5 p6 p7 p8 p9 p10 p11 p12 p13 p14 p15 p16 p17
noncomputable def l_43_58_0_0 (m : Nat) (a : T_43_58_0_0.E) : Option E_43_58_0_0 := L_43_58_0_0 m a.1 a.2.1 a.2.2.1 a.2.2.2.1 a.2.2.2.2.1 a.2.2.2.2.2.1 a.2.2.2.2.2.2.1 a.2.2.2.2.2.2.2.1 a.2.2.2.2.2.2.2.2.1 a.2.2.2.2.2.2.2.2.2.1 a.2.2.2.2.2.2.2.2.2.2.1 a.2.2.2.2.2.2.2.2.2.2.2.1 a.2.2.2.2.2.2.2.2.2.2.2.2.1 a.2.2.2.2.2.2.2.2.2.2.2.2.2.1 a.2.2.2.2.2.2.2.2.2.2.2.2.2.2.1 a.2.2.2.2.2.2.2.2.2.2.2.2.2.2.2.1 a.2.2.2.2.2.2.2.2.2.2.2.2.2.2.2.2.1 a.2.2.2.2.2.2.2.2.2.2.2.2.2.2.2.2.2.1
noncomputable def O_43_58_0_0 {R : Type} : Orc R := orL T_43_58_0_0 (l_43_58_0_0 FU) Y_43_58_0_0
theorem OK_43_58_0_0 {R : Type} : okF (R := R) sm_43 1 (nf 58 0) O_43_58_0_0 := lp0 T_43_58_0_0 l_43_58_0_0 (fun R K k a => S_43_58_0_0 (fun p0 p1 p2 p3 p4 p5 p6 p7 p8 p9 p10 p11 p12 p13 p14 p15 p16 p17 => K (p0, p1, p2, p3, p4, p5, p6, p7, p8, p9, p10, p11, p12, p13, p14, p15, p16, p17, ())) k a.1 a.2.1 a.2.2.1 a.2.2.2.1 a.2.2.2.2.1 a.2.2.2.2.2.1 a.2.2.2.2.2.2.1 a.2.2.2.2.2.2.2.1 a.2.2.2.2.2.2.2.2.1 a.2.2.2.2.2.2.2.2.2.1 a.2.2.2.2.2.2.2.2.2.2.1 a.2.2.2.2.2.2.2.2.2.2.2.1 a.2.2.2.2.2.2.2.2.2.2.2.2.1 a.2.2.2.2.2.2.2.2.2.2.2.2.2.1 a.2.2.2.2.2.2.2.2.2.2.2.2.2.2.1 a.2.2.2.2.2.2.2.2.2.2.2.2.2.2.2.1 a.2.2.2.2.2.2.2.2.2.2.2.2.2.2.2.2.1 a.2.2.2.2.2.2.2.2.2.2.2.2.2.2.2.2.2.1) Y_43_58_0_0 (fun _ _ _ => by kernel_rfl) (fun _ _ _ => by
 unfold S_43_58_0_0
 repeat' first | apply gdN | apply condN | rfl) (ok0 _)
noncomputable def g_43_58 {R : Type} : List CV → List Blk → (CV → List Blk → Option R) → Option R := evFnL sm_43 FU (ovr noO (evFn sm_43 fns FU 1)) (mkT (fB fns 58) [O_43_58_0_0]) (fO fns 58)
theorem g_43_58_ok {R : Type} (args : List CV) (hp : List Blk) (k : CV → List Blk → Option R) (r : R) (h : g_43_58 args hp k = some r) : evFn sm_43 fns FU 2 58 args hp k = some r := runG noO_ok (os := [O_43_58_0_0]) ⟨OK_43_58_0_0, trivial⟩ h
noncomputable def ov_43_57 {R : Type} : Nat → Option (List CV → List Blk → (CV → List Blk → Option R) → Option R) := fun f' => bif Nat.beq f' 58 then some g_43_58 else none
theorem ov_43_57_ok {R : Type} : OvrOK (R := R) ov_43_57 (evFn sm_43 fns FU 2) := by
 intro f' g h args hp k r hg
 dsimp only [ov_43_57] at h
 by_cases h58 : f' = 58
 · subst h58
   injection h with h
   subst h
   exact evFn_le 0 (g_43_58_ok _ _ _ _ hg)
 rw [nbeq_ne h58, cond_false] at h
 cases h
noncomputable def g_43_57 {R : Type} : List CV → List Blk → (CV → List Blk → Option R) → Option R := evFnL sm_43 FU (ovr ov_43_57 (evFn sm_43 fns FU 2)) (mkT (fB fns 57) []) (fO fns 57)
theorem g_43_57_ok {R : Type} (args : List CV) (hp : List Blk) (k : CV → List Blk → Option R) (r : R) (h : g_43_57 args hp k = some r) : evFn sm_43 fns FU 3 57 args hp k = some r := runG ov_43_57_ok (os := []) trivial h
noncomputable def ov_43_43 {R : Type} : Nat → Option (List CV → List Blk → (CV → List Blk → Option R) → Option R) := fun f' => bif Nat.beq f' 57 then some g_43_57 else bif Nat.beq f' 58 then some g_43_58 else none
theorem ov_43_43_ok {R : Type} : OvrOK (R := R) ov_43_43 (evFn sm_43 fns FU 3) := by
 intro f' g h args hp k r hg
 dsimp only [ov_43_43] at h
 by_cases h57 : f' = 57
 · subst h57
   injection h with h
   subst h
   exact evFn_le 0 (g_43_57_ok _ _ _ _ hg)
 rw [nbeq_ne h57, cond_false] at h
 by_cases h58 : f' = 58
 · subst h58
   injection h with h
   subst h
   exact evFn_le 1 (g_43_58_ok _ _ _ _ hg)
 rw [nbeq_ne h58, cond_false] at h
 cases h
noncomputable def F_43 (a0 : ((List Int) × ((List Int) × (Int × Unit)))) (a1 : Int) (a2 : (Int × (Int × Unit))) : Option (((List Int) × ((List Int) × (Int × Unit))) × (Int × (Int × Unit)) × Int × Unit) :=
 gd (p_56 a0 a2 a1 (↑(length (a0.2.1)) : Int)) (bif (v_56 a0 a2 a1 (↑(length (a0.2.1)) : Int)).1 != 0 then some (([], [], 0, PUnit.unit), (0, 0, PUnit.unit), (v_56 a0 a2 a1 (↑(length (a0.2.1)) : Int)).1, PUnit.unit) else gd (inB a1 (length (a0.2.1))) (bif getD (a0.2.1) (toNat a1) 0 == a0.2.2.1 then some (([], [], 0, PUnit.unit), (0, 0, PUnit.unit), 19, PUnit.unit) else gd (room (length (a0.1)) 4) (gd (room (length (a0.2.1)) 8) (bif a2.1 == 0 then some ((a0.1, a0.2.1, a0.2.2.1, PUnit.unit), a2, 18, PUnit.unit) else bif a2.1 == 1 then gd (sl3 (wrap i64 (a1 * 64)) (wrap i64 (wrap i64 (a1 + 1) * 64)) (↑(length (a0.1)) : Int)) (B_43_58_0_0 (L_43_58_0_0 4611686018427387904 (a2.2.1) (toNat (wrap i64 (a1 * 64))) (toNat (wrap i64 (wrap i64 (a1 + 1) * 64)) - toNat (wrap i64 (a1 * 64))) (↑(toNat (wrap i64 (wrap i64 (a1 + 1) * 64)) - toNat (wrap i64 (a1 * 64))) : Int) 0 a0 a1 a2 (0, PUnit.unit) (0, 0, PUnit.unit) a0 (0, a2.2) (0, PUnit.unit) (0, 0, PUnit.unit) (a0.1) (a0.2.1) (a0.2.2.1, PUnit.unit) (a0.2.2.1, PUnit.unit)) fun y26 y27 y28 y29 y30 y31 y32 y33 y34 y35 y36 y37 y38 => gd (inB y27 (length y36)) (gd (decide (toNat y27 < length y36) && true) (gd (inB y27 (length y36)) (gd (decide (toNat y27 < length y36) && true && true) (some ((y35, List.set y36 (toNat y27) (wrap i64 (getD y36 (toNat y27) (0 :Int) + (1 :Int))), y37), y32, 18, PUnit.unit)))))) else gd (sl3 (wrap i64 (a1 * 64)) (wrap i64 (wrap i64 (a1 + 1) * 64)) (↑(length (a0.1)) : Int)) (B_43_58_0_0 (L_43_58_0_0 4611686018427387904 4294967295 (toNat (wrap i64 (a1 * 64))) (toNat (wrap i64 (wrap i64 (a1 + 1) * 64)) - toNat (wrap i64 (a1 * 64))) (↑(toNat (wrap i64 (wrap i64 (a1 + 1) * 64)) - toNat (wrap i64 (a1 * 64))) : Int) 0 a0 a1 a2 (0, PUnit.unit) (0, 0, PUnit.unit) a0 (wrap i64 (a2.1 - 1), a2.2) (0, PUnit.unit) (0, 0, PUnit.unit) (a0.1) (a0.2.1) (a0.2.2.1, PUnit.unit) (a0.2.2.1, PUnit.unit)) fun y39 y40 y41 y42 y43 y44 y45 y46 y47 y48 y49 y50 y51 => gd (inB y40 (length y49)) (gd (decide (toNat y40 < length y49) && true) (gd (inB y40 (length y49)) (gd (decide (toNat y40 < length y49) && true && true) (some ((y48, List.set y49 (toNat y40) (wrap i64 (getD y49 (toNat y40) (0 :Int) + (1 :Int))), y50), y45, 0, PUnit.unit))))))))))
noncomputable def Sp.p_43 (a0 : ((List Int) × ((List Int) × (Int × Unit)))) (a1 : Int) (a2 : (Int × (Int × Unit))) : Bool := (F_43 a0 a1 a2).isSome
noncomputable def Sp.v_43 (a0 : ((List Int) × ((List Int) × (Int × Unit)))) (a1 : Int) (a2 : (Int × (Int × Unit))) : ((List Int) × ((List Int) × (Int × Unit))) × (Int × (Int × Unit)) × Int × Unit := (F_43 a0 a1 a2).getD (dfH R_43)
noncomputable def s_43 : Summ := shS A_43 R_43 (fun x => p_43 x.1 x.2.1 x.2.2.1) (fun x => v_43 x.1 x.2.1 x.2.2.1)
theorem pv_43 (a0 : ((List Int) × ((List Int) × (Int × Unit)))) (a1 : Int) (a2 : (Int × (Int × Unit))) {y : ((List Int) × ((List Int) × (Int × Unit))) × (Int × (Int × Unit)) × Int × Unit} (h : F_43 a0 a1 a2 = some y) : p_43 a0 a1 a2 = true ∧ v_43 a0 a1 a2 = y := pvG h
theorem run_43 (x : HDen A_43) (y : HDen R_43) (h : F_43 x.1 x.2.1 x.2.2.1 = some y) : rnF sm_43 4 43 A_43 R_43 x y := runG ov_43_43_ok (os := []) trivial (Eq.trans (by kernel_rfl) h)
end
noncomputable section
abbrev A_44 : List Ty := [(.pair (.slice (.int .u32)) (.pair (.slice (.int .i64)) (.pair (.int .i64) .unit))), (.int .i64), (.int .u32), (.pair (.int .i64) (.pair (.int .u32) .unit))]
abbrev R_44 : List Ty := [(.pair (.slice (.int .u32)) (.pair (.slice (.int .i64)) (.pair (.int .i64) .unit))), (.pair (.int .i64) (.pair (.int .u32) .unit)), (.int .i64)]
noncomputable def sm_44 : Nat → Option Summ := smL [(40, s_40), (41, s_41), (56, s_56)]
noncomputable def F_44 (a0 : ((List Int) × ((List Int) × (Int × Unit)))) (a1 a2 : Int) (a3 : (Int × (Int × Unit))) : Option (((List Int) × ((List Int) × (Int × Unit))) × (Int × (Int × Unit)) × Int × Unit) :=
 gd (p_56 a0 a3 a1 (↑(length (a0.1)) : Int)) (bif (v_56 a0 a3 a1 (↑(length (a0.1)) : Int)).1 != 0 then some (([], [], 0, PUnit.unit), (0, 0, PUnit.unit), (v_56 a0 a3 a1 (↑(length (a0.1)) : Int)).1, PUnit.unit) else gd (room (length (a0.1)) 4) (gd (room (length (a0.2.1)) 8) (bif a3.1 == 0 then some ((a0.1, a0.2.1, a0.2.2.1, PUnit.unit), a3, 18, PUnit.unit) else bif a3.1 == 1 then gd (inB a1 (length (a0.1))) (gd (decide (toNat a1 < length (a0.1)) && true) (gd (inB a1 (length (a0.1))) (gd (decide (toNat a1 < length (a0.1)) && true && true) (some ((List.set (a0.1) (toNat a1) (Sp.andnI u32 (getD (a0.1) (toNat a1) 0) (Sp.andnI u32 (a3.2.1) a2)), a0.2.1, a0.2.2.1, PUnit.unit), (0, a3.2), 18, PUnit.unit))))) else gd (inB a1 (length (a0.1))) (gd (decide (toNat a1 < length (a0.1)) && true) (gd (inB a1 (length (a0.1))) (gd (decide (toNat a1 < length (a0.1)) && true && true) (some ((List.set (a0.1) (toNat a1) (Sp.andnI u32 (getD (a0.1) (toNat a1) 0) (Sp.andnI u32 4294967295 a2)), a0.2.1, a0.2.2.1, PUnit.unit), (wrap i64 (a3.1 - 1), a3.2), 0, PUnit.unit))))))))
noncomputable def Sp.p_44 (a0 : ((List Int) × ((List Int) × (Int × Unit)))) (a1 a2 : Int) (a3 : (Int × (Int × Unit))) : Bool := (F_44 a0 a1 a2 a3).isSome
noncomputable def Sp.v_44 (a0 : ((List Int) × ((List Int) × (Int × Unit)))) (a1 a2 : Int) (a3 : (Int × (Int × Unit))) : ((List Int) × ((List Int) × (Int × Unit))) × (Int × (Int × Unit)) × Int × Unit := (F_44 a0 a1 a2 a3).getD (dfH R_44)
noncomputable def s_44 : Summ := shS A_44 R_44 (fun x => p_44 x.1 x.2.1 x.2.2.1 x.2.2.2.1) (fun x => v_44 x.1 x.2.1 x.2.2.1 x.2.2.2.1)
theorem pv_44 (a0 : ((List Int) × ((List Int) × (Int × Unit)))) (a1 a2 : Int) (a3 : (Int × (Int × Unit))) {y : ((List Int) × ((List Int) × (Int × Unit))) × (Int × (Int × Unit)) × Int × Unit} (h : F_44 a0 a1 a2 a3 = some y) : p_44 a0 a1 a2 a3 = true ∧ v_44 a0 a1 a2 a3 = y := pvG h
theorem run_44 (x : HDen A_44) (y : HDen R_44) (h : F_44 x.1 x.2.1 x.2.2.1 x.2.2.2.1 = some y) : rnF sm_44 4 44 A_44 R_44 x y := runG noO_ok (os := []) trivial (Eq.trans (by kernel_rfl) h)
end
noncomputable section
abbrev Zt21_0 : Type := (List Int × List Int × Int × Unit) × Int × Int × Unit
abbrev Zt21_1 : Type := Int × Int × Unit
abbrev Zy21_2 : Ty := (.pair (.pair (.slice (.int .u32)) (.pair (.slice (.int .i64)) (.pair (.int .i64) .unit))) (.pair (.int .i64) (.pair (.int .i64) .unit)))
abbrev Zy21_3 : Ty := (.pair (.int .i64) (.pair (.int .u32) .unit))
abbrev Zy21_4 : Ty := (.slice (.pair .bool (.pair (.int .i64) (.pair (.int .u32) .unit))))
abbrev Zt21_5 : Type := List (Bool × Int × Int × Unit)
abbrev A_21 : List Ty := [(.pair (.pair (.slice (.int .u32)) (.pair (.slice (.int .i64)) (.pair (.int .i64) .unit))) (.pair (.int .i64) (.pair (.int .i64) .unit))), (.slice (.pair .bool (.pair (.int .i64) (.pair (.int .u32) .unit)))), (.pair (.int .i64) (.pair (.int .u32) .unit))]
abbrev R_21 : List Ty := [(.pair (.pair (.slice (.int .u32)) (.pair (.slice (.int .i64)) (.pair (.int .i64) .unit))) (.pair (.int .i64) (.pair (.int .i64) .unit))), (.pair (.int .i64) (.pair (.int .u32) .unit)), (.int .i64)]
noncomputable def sm_21 : Nat → Option Summ := smL [(15, s_15), (43, s_43), (44, s_44)]
noncomputable def T_21_1 : PS := ⟨61, [(3, .kc (.ptr 0 [])), (5, .kc (.ptr 1 [])), (6, .kc (.ptr 2 [])), (7, .kc (.ptr 5 [])), (11, .hv (.int .i64)), (16, .hv Zy21_4), (17, .hv (.int .i64)), (18, .hv (.int .i64))], [.mem (.hv Zy21_2), .mem (.hv Zy21_3), .mem (.pr (.pr (.kc (.whole 3)) (.pr (.kc (.whole 4)) (.hv (.pair (.int .i64) .unit)))) (.hv (.pair (.int .i64) (.pair (.int .i64) .unit)))), .vec 38 (.int .u32), .vec 3 (.int .i64), .mem (.hv Zy21_3)], 0⟩
inductive Sp.E_21_1 where
 | e0 (p0 : Int) (p4 : Zt21_0) (p5 : Zt21_1)
 | e1 (p0 : Int)
 | e2 (p0 : Int) (p1 : Zt21_5) (p2 p3 : Int) (p4 : Zt21_0) (p5 : Zt21_1) (p6 : Int × Unit) (p7 : Zt21_1) (p8 p9 : List Int) (p10 : Zt21_1)
noncomputable def Sp.B_21_1 {R : Type} (r : Option E_21_1) (k0 : Int → Zt21_0 → Zt21_1 → Option R) (k1 : Int → Option R) (k2 : Int → Zt21_5 → Int → Int → Zt21_0 → Zt21_1 → (Int × Unit) → Zt21_1 → List Int → List Int → Zt21_1 → Option R) : Option R := match r with
 | none => none
 | some (.e0 p0 p4 p5) => k0 p0 p4 p5
 | some (.e1 p0) => k1 p0
 | some (.e2 p0 p1 p2 p3 p4 p5 p6 p7 p8 p9 p10) => k2 p0 p1 p2 p3 p4 p5 p6 p7 p8 p9 p10
theorem Bn_21_1 {A R : Type} {r : Option E_21_1} {f : A → Option R} {k0 : Int → Zt21_0 → Zt21_1 → Option A} {k1 : Int → Option A} {k2 : Int → Zt21_5 → Int → Int → Zt21_0 → Zt21_1 → (Int × Unit) → Zt21_1 → List Int → List Int → Zt21_1 → Option A} {l0 : Int → Zt21_0 → Zt21_1 → Option R} {l1 : Int → Option R} {l2 : Int → Zt21_5 → Int → Int → Zt21_0 → Zt21_1 → (Int × Unit) → Zt21_1 → List Int → List Int → Zt21_1 → Option R} (h0 : ∀ p0 p4 p5, (k0 p0 p4 p5).bind f = l0 p0 p4 p5) (h1 : ∀ p0, (k1 p0).bind f = l1 p0) (h2 : ∀ p0 p1 p2 p3 p4 p5 p6 p7 p8 p9 p10, (k2 p0 p1 p2 p3 p4 p5 p6 p7 p8 p9 p10).bind f = l2 p0 p1 p2 p3 p4 p5 p6 p7 p8 p9 p10) : (B_21_1 r k0 k1 k2).bind f = B_21_1 r l0 l1 l2 := by
 cases r with
 | none => rfl
 | some e => cases e <;> first | apply h0 | apply h1 | apply h2
noncomputable def Y_21_1 {R : Type} (k : Ex → St → Option R) : E_21_1 → Option R
 | .e0 p0 p4 p5 => k Ex.ret (sx 61 [(6, CV.ptr 0 []), (7, CV.ptr 1 []), (8, CV.int i64 p0)] [Blk.mem (CV.pure (Ty.pair (Ty.pair (Ty.slice (Ty.int u32)) (Ty.pair (Ty.slice (Ty.int i64)) (Ty.pair (Ty.int i64) Ty.unit))) (Ty.pair (Ty.int i64) (Ty.pair (Ty.int i64) Ty.unit))) p4), Blk.mem (CV.pure (Ty.pair (Ty.int i64) (Ty.pair (Ty.int u32) Ty.unit)) p5)])
 | .e1 p0 => k Ex.ret (sx 61 [(6, CV.ptr 0 []), (7, CV.ptr 3 []), (8, CV.int i64 p0)] [Blk.mem (CV.pair (CV.pair (CV.whole 1) (CV.pair (CV.whole 2) (CV.pure (Ty.pair (Ty.int i64) Ty.unit) ((0, PUnit.unit) : (Int × Unit))))) (CV.pure (Ty.pair (Ty.int i64) (Ty.pair (Ty.int i64) Ty.unit)) ((0, 0, PUnit.unit) : (Int × (Int × Unit))))), Blk.vec 38 (Ty.int u32) [], Blk.vec 3 (Ty.int i64) [], Blk.mem (CV.pure (Ty.pair (Ty.int i64) (Ty.pair (Ty.int u32) Ty.unit)) ((0, 0, PUnit.unit) : (Int × (Int × Unit))))])
 | .e2 p0 p1 p2 p3 p4 p5 p6 p7 p8 p9 p10 => k Ex.normal (sx 61 [(3, CV.ptr 0 []), (5, CV.ptr 1 []), (6, CV.ptr 2 []), (7, CV.ptr 5 []), (11, CV.int i64 p0), (16, CV.pure (Ty.slice (Ty.pair Ty.bool (Ty.pair (Ty.int i64) (Ty.pair (Ty.int u32) Ty.unit)))) p1), (17, CV.int i64 p2), (18, CV.int i64 p3), (48, CV.int i64 p0), (49, CV.bool false), (53, CV.int i64 p0), (54, CV.bool false)] [Blk.mem (CV.pure (Ty.pair (Ty.pair (Ty.slice (Ty.int u32)) (Ty.pair (Ty.slice (Ty.int i64)) (Ty.pair (Ty.int i64) Ty.unit))) (Ty.pair (Ty.int i64) (Ty.pair (Ty.int i64) Ty.unit))) p4), Blk.mem (CV.pure (Ty.pair (Ty.int i64) (Ty.pair (Ty.int u32) Ty.unit)) p5), Blk.mem (CV.pair (CV.pair (CV.whole 3) (CV.pair (CV.whole 4) (CV.pure (Ty.pair (Ty.int i64) Ty.unit) p6))) (CV.pure (Ty.pair (Ty.int i64) (Ty.pair (Ty.int i64) Ty.unit)) p7)), Blk.vec 38 (Ty.int u32) p8, Blk.vec 3 (Ty.int i64) p9, Blk.mem (CV.pure (Ty.pair (Ty.int i64) (Ty.pair (Ty.int u32) Ty.unit)) p10)])
noncomputable def Sp.S_21_1 {R : Type} (k : E_21_1 → Option R) (p0 : Int) (p1 : List (Bool × Int × Int × Unit)) (p2 p3 : Int) (p4 : (List Int × List Int × Int × Unit) × Int × Int × Unit) (p5 : Int × Int × Unit) (p6 : Int × Unit) (p7 : Int × Int × Unit) (p8 p9 : List Int) (p10 : Int × Int × Unit) : Option R :=
 bif p0 == 18 then k (E_21_1.e0 p0 p4 p5) else bif p0 != 0 then k (E_21_1.e1 p0) else k (E_21_1.e2 p0 p1 p2 p3 p4 p5 p6 p7 p8 p9 p10)
noncomputable def Sp.J_21_1 (p0 : Int) (p1 : List (Bool × Int × Int × Unit)) (p2 p3 : Int) (p4 : (List Int × List Int × Int × Unit) × Int × Int × Unit) (p5 : Int × Int × Unit) (p6 : Int × Unit) (p7 : Int × Int × Unit) (p8 p9 : List Int) (p10 : Int × Int × Unit) : Option E_21_1 := S_21_1 some p0 p1 p2 p3 p4 p5 p6 p7 p8 p9 p10
noncomputable def O_21_1 {R : Type} : Orc R := orL T_21_1 (fun a => J_21_1 a.1 a.2.1 a.2.2.1 a.2.2.2.1 a.2.2.2.2.1 a.2.2.2.2.2.1 a.2.2.2.2.2.2.1 a.2.2.2.2.2.2.2.1 a.2.2.2.2.2.2.2.2.1 a.2.2.2.2.2.2.2.2.2.1 a.2.2.2.2.2.2.2.2.2.2.1) Y_21_1
theorem OK_21_1 {R : Type} : okF (R := R) sm_21 0 (ni (nf 21 0) 0) O_21_1 := jp noO_ok (os := []) trivial T_21_1 (fun R k a => S_21_1 k a.1 a.2.1 a.2.2.1 a.2.2.2.1 a.2.2.2.2.1 a.2.2.2.2.2.1 a.2.2.2.2.2.2.1 a.2.2.2.2.2.2.2.1 a.2.2.2.2.2.2.2.2.1 a.2.2.2.2.2.2.2.2.2.1 a.2.2.2.2.2.2.2.2.2.2.1) Y_21_1 (fun k a => by kernel_rfl) (fun Y a => by
 unfold S_21_1
 repeat' first | apply gdN | apply condN | rfl) (ok0 _)
noncomputable def T_21_0 : PS := ⟨61, [(3, .kc (.ptr 0 [])), (5, .kc (.ptr 1 [])), (6, .kc (.ptr 2 [])), (7, .kc (.ptr 5 [])), (16, .hv Zy21_4), (17, .hv (.int .i64)), (18, .hv (.int .i64))], [.mem (.hv Zy21_2), .mem (.hv Zy21_3), .mem (.pr (.pr (.kc (.whole 3)) (.pr (.kc (.whole 4)) (.hv (.pair (.int .i64) .unit)))) (.hv (.pair (.int .i64) (.pair (.int .i64) .unit)))), .vec 38 (.int .u32), .vec 3 (.int .i64), .mem (.hv Zy21_3)], 0⟩
inductive Sp.E_21_0 where
 | e0 (y30 : Int) (y31 : Zt21_0) (y32 : Zt21_1)
 | e1 (y33 : Int)
 | e2 (p3 : Zt21_0) (p4 : Zt21_1) (p5 : Int × Unit) (p6 : Zt21_1) (p7 p8 : List Int) (p9 : Zt21_1)
noncomputable def Sp.B_21_0 {R : Type} (r : Option E_21_0) (k0 : Int → Zt21_0 → Zt21_1 → Option R) (k1 : Int → Option R) (k2 : Zt21_0 → Zt21_1 → (Int × Unit) → Zt21_1 → List Int → List Int → Zt21_1 → Option R) : Option R := match r with
 | none => none
 | some (.e0 y30 y31 y32) => k0 y30 y31 y32
 | some (.e1 y33) => k1 y33
 | some (.e2 p3 p4 p5 p6 p7 p8 p9) => k2 p3 p4 p5 p6 p7 p8 p9
noncomputable def Y_21_0 {R : Type} (k : Ex → St → Option R) : E_21_0 → Option R
 | .e0 y30 y31 y32 => k Ex.ret (sx 61 [(6, CV.ptr 0 []), (7, CV.ptr 1 []), (8, CV.int i64 y30)] [Blk.mem (CV.pure (Ty.pair (Ty.pair (Ty.slice (Ty.int u32)) (Ty.pair (Ty.slice (Ty.int i64)) (Ty.pair (Ty.int i64) Ty.unit))) (Ty.pair (Ty.int i64) (Ty.pair (Ty.int i64) Ty.unit))) y31), Blk.mem (CV.pure (Ty.pair (Ty.int i64) (Ty.pair (Ty.int u32) Ty.unit)) y32)])
 | .e1 y33 => k Ex.ret (sx 61 [(6, CV.ptr 0 []), (7, CV.ptr 3 []), (8, CV.int i64 y33)] [Blk.mem (CV.pair (CV.pair (CV.whole 1) (CV.pair (CV.whole 2) (CV.pure (Ty.pair (Ty.int i64) Ty.unit) ((0, PUnit.unit) : (Int × Unit))))) (CV.pure (Ty.pair (Ty.int i64) (Ty.pair (Ty.int i64) Ty.unit)) ((0, 0, PUnit.unit) : (Int × (Int × Unit))))), Blk.vec 38 (Ty.int u32) [], Blk.vec 3 (Ty.int i64) [], Blk.mem (CV.pure (Ty.pair (Ty.int i64) (Ty.pair (Ty.int u32) Ty.unit)) ((0, 0, PUnit.unit) : (Int × (Int × Unit))))])
 | .e2 p3 p4 p5 p6 p7 p8 p9 => k (Ex.exit 0) (sx 61 [(3, CV.ptr 0 []), (5, CV.ptr 1 []), (6, CV.ptr 2 []), (7, CV.ptr 5 [])] [Blk.mem (CV.pure (Ty.pair (Ty.pair (Ty.slice (Ty.int u32)) (Ty.pair (Ty.slice (Ty.int i64)) (Ty.pair (Ty.int i64) Ty.unit))) (Ty.pair (Ty.int i64) (Ty.pair (Ty.int i64) Ty.unit))) p3), Blk.mem (CV.pure (Ty.pair (Ty.int i64) (Ty.pair (Ty.int u32) Ty.unit)) p4), Blk.mem (CV.pair (CV.pair (CV.whole 3) (CV.pair (CV.whole 4) (CV.pure (Ty.pair (Ty.int i64) Ty.unit) p5))) (CV.pure (Ty.pair (Ty.int i64) (Ty.pair (Ty.int i64) Ty.unit)) p6)), Blk.vec 38 (Ty.int u32) p7, Blk.vec 3 (Ty.int i64) p8, Blk.mem (CV.pure (Ty.pair (Ty.int i64) (Ty.pair (Ty.int u32) Ty.unit)) p9)])
noncomputable def Sp.S_21_0 {R : Type} (K : (List (Bool × Int × Int × Unit)) → Int → Int → ((List Int × List Int × Int × Unit) × Int × Int × Unit) → (Int × Int × Unit) → (Int × Unit) → (Int × Int × Unit) → List Int → List Int → (Int × Int × Unit) → Option R) (k : E_21_0 → Option R) (p0 : List (Bool × Int × Int × Unit)) (p1 p2 : Int) (p3 : (List Int × List Int × Int × Unit) × Int × Int × Unit) (p4 : Int × Int × Unit) (p5 : Int × Unit) (p6 : Int × Int × Unit) (p7 p8 : List Int) (p9 : Int × Int × Unit) : Option R :=
 bif decide (p2 < p1) then gd (inB p2 (length p0)) (bif (getD p0 (toNat p2) Zd0).1 then gd (p_43 (p3.1) ((getD p0 (toNat p2) Zd0).2.1) p4) (B_21_1 (J_21_1 ((v_43 (p3.1) ((getD p0 (toNat p2) Zd0).2.1) p4).2.2.1) p0 p1 p2 ((v_43 (p3.1) ((getD p0 (toNat p2) Zd0).2.1) p4).1, p3.2) ((v_43 (p3.1) ((getD p0 (toNat p2) Zd0).2.1) p4).2.1) p5 p6 p7 p8 p9) (fun y30 y31 y32 => k (E_21_0.e0 y30 y31 y32)) (fun y33 => k (E_21_0.e1 y33)) fun y34 y35 y36 y37 y38 y39 y40 y41 y42 y43 y44 => K y35 y36 (wrap i64 (y37 + 1)) y38 y39 y40 y41 y42 y43 y44) else gd (p_44 (p3.1) ((getD p0 (toNat p2) Zd0).2.1) ((getD p0 (toNat p2) Zd0).2.2.1) p4) (B_21_1 (J_21_1 ((v_44 (p3.1) ((getD p0 (toNat p2) Zd0).2.1) ((getD p0 (toNat p2) Zd0).2.2.1) p4).2.2.1) p0 p1 p2 ((v_44 (p3.1) ((getD p0 (toNat p2) Zd0).2.1) ((getD p0 (toNat p2) Zd0).2.2.1) p4).1, p3.2) ((v_44 (p3.1) ((getD p0 (toNat p2) Zd0).2.1) ((getD p0 (toNat p2) Zd0).2.2.1) p4).2.1) p5 p6 p7 p8 p9) (fun y45 y46 y47 => k (E_21_0.e0 y45 y46 y47)) (fun y48 => k (E_21_0.e1 y48)) fun y49 y50 y51 y52 y53 y54 y55 y56 y57 y58 y59 => K y50 y51 (wrap i64 (y52 + 1)) y53 y54 y55 y56 y57 y58 y59)) else k (E_21_0.e2 p3 p4 p5 p6 p7 p8 p9)
noncomputable def Sp.L_21_0 : Nat → (List (Bool × Int × Int × Unit)) → Int → Int → ((List Int × List Int × Int × Unit) × Int × Int × Unit) → (Int × Int × Unit) → (Int × Unit) → (Int × Int × Unit) → List Int → List Int → (Int × Int × Unit) → Option E_21_0
 | 0, _, _, _, _, _, _, _, _, _, _ => none
 | m + 1, p0, p1, p2, p3, p4, p5, p6, p7, p8, p9 => S_21_0 (L_21_0 m) some p0 p1 p2 p3 p4 p5 p6 p7 p8 p9
noncomputable def l_21_0 (m : Nat) (a : T_21_0.E) : Option E_21_0 := L_21_0 m a.1 a.2.1 a.2.2.1 a.2.2.2.1 a.2.2.2.2.1 a.2.2.2.2.2.1 a.2.2.2.2.2.2.1 a.2.2.2.2.2.2.2.1 a.2.2.2.2.2.2.2.2.1 a.2.2.2.2.2.2.2.2.2.1
noncomputable def O_21_0 {R : Type} : Orc R := orL T_21_0 (l_21_0 FU) Y_21_0
theorem OK_21_0 {R : Type} : okF (R := R) sm_21 0 (nf 21 0) O_21_0 := lp noO_ok (os := [O_21_1]) ⟨OK_21_1, trivial⟩ T_21_0 l_21_0 (fun R K k a => S_21_0 (fun p0 p1 p2 p3 p4 p5 p6 p7 p8 p9 => K (p0, p1, p2, p3, p4, p5, p6, p7, p8, p9, ())) k a.1 a.2.1 a.2.2.1 a.2.2.2.1 a.2.2.2.2.1 a.2.2.2.2.2.1 a.2.2.2.2.2.2.1 a.2.2.2.2.2.2.2.1 a.2.2.2.2.2.2.2.2.1 a.2.2.2.2.2.2.2.2.2.1) Y_21_0 (fun _ => rfl) (fun _ _ => rfl) (fun k K a => by kernel_rfl) (fun Y K a => by
 unfold S_21_0
 repeat' first | apply gdN | apply condN | (apply Bn_21_1 <;> intros) | rfl) (ok0 _)
noncomputable def F_21 (a0 : (((List Int) × ((List Int) × (Int × Unit))) × (Int × (Int × Unit)))) (a1 : (List (Bool × (Int × (Int × Unit))))) (a2 : (Int × (Int × Unit))) : Option ((((List Int) × ((List Int) × (Int × Unit))) × (Int × (Int × Unit))) × (Int × (Int × Unit)) × Int × Unit) :=
 gd (p_15 (a0.1)) (B_21_0 (L_21_0 4611686018427387904 a1 (↑(length a1) : Int) 0 ((v_15 (a0.1)).1, a0.2) a2 (0, PUnit.unit) (0, 0, PUnit.unit) [] [] (0, 0, PUnit.unit)) (fun y11 y12 y13 => some (y12, y13, y11, PUnit.unit)) (fun y14 => some ((([], [], 0, PUnit.unit), 0, 0, PUnit.unit), (0, 0, PUnit.unit), y14, PUnit.unit)) fun y15 y16 y17 y18 y19 y20 y21 => some (y15, y16, 0, PUnit.unit))
noncomputable def Sp.p_21 (a0 : (((List Int) × ((List Int) × (Int × Unit))) × (Int × (Int × Unit)))) (a1 : (List (Bool × (Int × (Int × Unit))))) (a2 : (Int × (Int × Unit))) : Bool := (F_21 a0 a1 a2).isSome
noncomputable def Sp.v_21 (a0 : (((List Int) × ((List Int) × (Int × Unit))) × (Int × (Int × Unit)))) (a1 : (List (Bool × (Int × (Int × Unit))))) (a2 : (Int × (Int × Unit))) : (((List Int) × ((List Int) × (Int × Unit))) × (Int × (Int × Unit))) × (Int × (Int × Unit)) × Int × Unit := (F_21 a0 a1 a2).getD (dfH R_21)
noncomputable def s_21 : Summ := shS A_21 R_21 (fun x => p_21 x.1 x.2.1 x.2.2.1) (fun x => v_21 x.1 x.2.1 x.2.2.1)
theorem pv_21 (a0 : (((List Int) × ((List Int) × (Int × Unit))) × (Int × (Int × Unit)))) (a1 : (List (Bool × (Int × (Int × Unit))))) (a2 : (Int × (Int × Unit))) {y : (((List Int) × ((List Int) × (Int × Unit))) × (Int × (Int × Unit))) × (Int × (Int × Unit)) × Int × Unit} (h : F_21 a0 a1 a2 = some y) : p_21 a0 a1 a2 = true ∧ v_21 a0 a1 a2 = y := pvG h
theorem run_21 (x : HDen A_21) (y : HDen R_21) (h : F_21 x.1 x.2.1 x.2.2.1 = some y) : rnF sm_21 1 21 A_21 R_21 x y := runG noO_ok (os := [O_21_0]) ⟨OK_21_0, trivial⟩ (Eq.trans (by kernel_rfl) h)
end
noncomputable section
abbrev A_22 : List Ty := [(.int .i64), (.slice (.int .u32))]
abbrev R_22 : List Ty := [(.slice (.pair .bool (.pair (.int .i64) (.pair (.int .u32) .unit))))]
noncomputable def sm_22 : Nat → Option Summ := smL []
noncomputable def T_22_0 : PS := ⟨25, [(0, .hv (.int .i64)), (5, .kc (.whole 0)), (8, .hv (.slice (.int .u32))), (9, .hv (.int .i64)), (10, .hv (.int .i64))], [.vec 87 (.pair .bool (.pair (.int .i64) (.pair (.int .u32) .unit)))], 0⟩
inductive Sp.E_22_0 where
 | e0 (p4 : List (Bool × Int × Int × Unit))
noncomputable def Sp.B_22_0 {R : Type} (r : Option E_22_0) (k0 : (List (Bool × Int × Int × Unit)) → Option R) : Option R := match r with
 | none => none
 | some (.e0 p4) => k0 p4
noncomputable def Y_22_0 {R : Type} (k : Ex → St → Option R) : E_22_0 → Option R
 | .e0 p4 => k (Ex.exit 0) (sx 25 [(5, CV.whole 0)] [Blk.vec 87 (Ty.pair Ty.bool (Ty.pair (Ty.int i64) (Ty.pair (Ty.int u32) Ty.unit))) p4])
noncomputable def Sp.S_22_0 {R : Type} (K : Int → List Int → Int → Int → (List (Bool × Int × Int × Unit)) → Option R) (k : E_22_0 → Option R) (p0 : Int) (p1 : List Int) (p2 p3 : Int) (p4 : List (Bool × Int × Int × Unit)) : Option R :=
 bif decide (p3 < p2) then gd (inB p3 (length p1)) (gd (room (length p4 + 1) 24) (K p0 p1 p2 (wrap i64 (p3 + 1)) (p4 ++ [(false, wrap i64 (p0 + p3), getD p1 (toNat p3) 0, PUnit.unit)]))) else k (E_22_0.e0 p4)
noncomputable def Sp.L_22_0 : Nat → Int → List Int → Int → Int → (List (Bool × Int × Int × Unit)) → Option E_22_0
 | 0, _, _, _, _, _ => none
 | m + 1, p0, p1, p2, p3, p4 => S_22_0 (L_22_0 m) some p0 p1 p2 p3 p4
noncomputable def l_22_0 (m : Nat) (a : T_22_0.E) : Option E_22_0 := L_22_0 m a.1 a.2.1 a.2.2.1 a.2.2.2.1 a.2.2.2.2.1
noncomputable def O_22_0 {R : Type} : Orc R := orL T_22_0 (l_22_0 FU) Y_22_0
theorem OK_22_0 {R : Type} : okF (R := R) sm_22 0 (nf 22 0) O_22_0 := lp0 T_22_0 l_22_0 (fun R K k a => S_22_0 (fun p0 p1 p2 p3 p4 => K (p0, p1, p2, p3, p4, ())) k a.1 a.2.1 a.2.2.1 a.2.2.2.1 a.2.2.2.2.1) Y_22_0 (fun _ _ _ => by kernel_rfl) (fun _ _ _ => by
 unfold S_22_0
 repeat' first | apply gdN | apply condN | rfl) (ok0 _)
noncomputable def F_22 (a0 : Int) (a1 : (List Int)) : Option ((List (Bool × (Int × (Int × Unit)))) × Unit) :=
 B_22_0 (L_22_0 4611686018427387904 a0 a1 (↑(length a1) : Int) 0 []) fun y1 => some (y1, PUnit.unit)
noncomputable def Sp.p_22 (a0 : Int) (a1 : (List Int)) : Bool := (F_22 a0 a1).isSome
noncomputable def Sp.v_22 (a0 : Int) (a1 : (List Int)) : (List (Bool × (Int × (Int × Unit)))) × Unit := (F_22 a0 a1).getD (dfH R_22)
noncomputable def s_22 : Summ := shS A_22 R_22 (fun x => p_22 x.1 x.2.1) (fun x => v_22 x.1 x.2.1)
theorem pv_22 (a0 : Int) (a1 : (List Int)) {y : (List (Bool × (Int × (Int × Unit)))) × Unit} (h : F_22 a0 a1 = some y) : p_22 a0 a1 = true ∧ v_22 a0 a1 = y := pvG h
theorem run_22 (x : HDen A_22) (y : HDen R_22) (h : F_22 x.1 x.2.1 = some y) : rnF sm_22 1 22 A_22 R_22 x y := runG noO_ok (os := [O_22_0]) ⟨OK_22_0, trivial⟩ (Eq.trans (by kernel_rfl) h)
end
noncomputable section
abbrev A_7 : List Ty := [(.pair (.slice (.int .u32)) (.pair (.slice (.int .i64)) (.pair (.int .i64) .unit))), (.int .i64), (.int .i64), (.pair (.int .i64) (.pair (.int .u32) .unit))]
abbrev R_7 : List Ty := [(.pair (.pair (.slice (.int .u32)) (.pair (.slice (.int .i64)) (.pair (.int .i64) .unit))) (.pair (.int .i64) (.pair (.int .i64) .unit))), (.pair (.int .i64) (.pair (.int .u32) .unit)), (.int .i64)]
noncomputable def sm_7 : Nat → Option Summ := smL [(14, s_14), (16, s_16), (19, s_19), (20, s_20), (21, s_21), (22, s_22), (23, s_23), (24, s_24)]
noncomputable def T_7_0 : PS := ⟨71, [(8, .kc (.ptr 0 [])), (9, .kc (.ptr 3 [])), (11, .kc (.clo 18 (.pure .unit PUnit.unit)))], [.mem (.pr (.pr (.kc (.whole 1)) (.pr (.kc (.whole 2)) (.hv (.pair (.int .i64) .unit)))) (.hv (.pair (.int .i64) (.pair (.int .i64) .unit)))), .vec 38 (.int .u32), .vec 3 (.int .i64), .mem (.hv (.pair (.int .i64) (.pair (.int .u32) .unit)))], 0⟩
inductive Sp.E_7_0 where
 | e0
noncomputable def Sp.B_7_0 {R : Type} (r : Option E_7_0) (k0 : Option R) : Option R := match r with
 | none => none
 | some (.e0) => k0
noncomputable def Y_7_0 {R : Type} (k : Ex → St → Option R) : E_7_0 → Option R
 | .e0 => k Ex.ret (sx 71 [(8, CV.ptr 0 []), (9, CV.ptr 3 []), (10, CV.int i64 1)] [Blk.mem (CV.pair (CV.pair (CV.whole 1) (CV.pair (CV.whole 2) (CV.pure (Ty.pair (Ty.int i64) Ty.unit) ((0, PUnit.unit) : (Int × Unit))))) (CV.pure (Ty.pair (Ty.int i64) (Ty.pair (Ty.int i64) Ty.unit)) ((0, 0, PUnit.unit) : (Int × (Int × Unit))))), Blk.vec 38 (Ty.int u32) [], Blk.vec 3 (Ty.int i64) [], Blk.mem (CV.pure (Ty.pair (Ty.int i64) (Ty.pair (Ty.int u32) Ty.unit)) ((0, 0, PUnit.unit) : (Int × (Int × Unit))))])
noncomputable def Sp.S_7_0 {R : Type} (k : E_7_0 → Option R) (p0 : Int × Unit) (p1 : Int × Int × Unit) (p2 p3 : List Int) (p4 : Int × Int × Unit) : Option R :=
 k (E_7_0.e0)
noncomputable def Sp.J_7_0 (p0 : Int × Unit) (p1 : Int × Int × Unit) (p2 p3 : List Int) (p4 : Int × Int × Unit) : Option E_7_0 := S_7_0 some p0 p1 p2 p3 p4
noncomputable def O_7_0 {R : Type} : Orc R := orL T_7_0 (fun a => J_7_0 a.1 a.2.1 a.2.2.1 a.2.2.2.1 a.2.2.2.2.1) Y_7_0
theorem OK_7_0 {R : Type} : okF (R := R) sm_7 2 (nf 7 0) O_7_0 := jp noO_ok (os := []) trivial T_7_0 (fun R k a => S_7_0 k a.1 a.2.1 a.2.2.1 a.2.2.2.1 a.2.2.2.2.1) Y_7_0 (fun k a => by kernel_rfl) (fun Y a => by
 unfold S_7_0
 repeat' first | apply gdN | apply condN | rfl) (ok0 _)
noncomputable def F_7 (a0 : ((List Int) × ((List Int) × (Int × Unit)))) (a1 a2 : Int) (a3 : (Int × (Int × Unit))) : Option ((((List Int) × ((List Int) × (Int × Unit))) × (Int × (Int × Unit))) × (Int × (Int × Unit)) × Int × Unit) :=
 gd (p_14 a0) (bif !(v_14 a0).1 then B_7_0 (J_7_0 (0, PUnit.unit) (0, 0, PUnit.unit) [] [] (0, 0, PUnit.unit)) (some ((([], [], 0, PUnit.unit), 0, 0, PUnit.unit), (0, 0, PUnit.unit), 1, PUnit.unit)) else gd (p_19 a3) (bif !(v_19 a3).1 then B_7_0 (J_7_0 (0, PUnit.unit) (0, 0, PUnit.unit) [] [] (0, 0, PUnit.unit)) (some ((([], [], 0, PUnit.unit), 0, 0, PUnit.unit), (0, 0, PUnit.unit), 1, PUnit.unit)) else gd (p_16 (a0, a1, a2, PUnit.unit)) (bif !(v_16 (a0, a1, a2, PUnit.unit)).1 then some ((([], [], 0, PUnit.unit), 0, 0, PUnit.unit), (0, 0, PUnit.unit), 2, PUnit.unit) else gd (p_20 (a0, a1, a2, PUnit.unit) a1 (wrap i64 (a1 + a2))) (bif !(v_20 (a0, a1, a2, PUnit.unit) a1 (wrap i64 (a1 + a2))).2.1 then some ((([], [], 0, PUnit.unit), 0, 0, PUnit.unit), (0, 0, PUnit.unit), 19, PUnit.unit) else gd (p_23 (a0, a1, a2, PUnit.unit) 0 0) (gd (p_24 1) (gd (p_22 ((v_23 (a0, a1, a2, PUnit.unit) 0 0).1) [(v_24 1).1]) (gd (room (length ((v_20 (a0, a1, a2, PUnit.unit) a1 (wrap i64 (a1 + a2))).1) + length ((v_22 ((v_23 (a0, a1, a2, PUnit.unit) 0 0).1) [(v_24 1).1]).1)) 24) (gd (p_21 (a0, a1, a2, PUnit.unit) ((v_20 (a0, a1, a2, PUnit.unit) a1 (wrap i64 (a1 + a2))).1 ++ (v_22 ((v_23 (a0, a1, a2, PUnit.unit) 0 0).1) [(v_24 1).1]).1) a3) (some ((v_21 (a0, a1, a2, PUnit.unit) ((v_20 (a0, a1, a2, PUnit.unit) a1 (wrap i64 (a1 + a2))).1 ++ (v_22 ((v_23 (a0, a1, a2, PUnit.unit) 0 0).1) [(v_24 1).1]).1) a3).1, (v_21 (a0, a1, a2, PUnit.unit) ((v_20 (a0, a1, a2, PUnit.unit) a1 (wrap i64 (a1 + a2))).1 ++ (v_22 ((v_23 (a0, a1, a2, PUnit.unit) 0 0).1) [(v_24 1).1]).1) a3).2.1, (v_21 (a0, a1, a2, PUnit.unit) ((v_20 (a0, a1, a2, PUnit.unit) a1 (wrap i64 (a1 + a2))).1 ++ (v_22 ((v_23 (a0, a1, a2, PUnit.unit) 0 0).1) [(v_24 1).1]).1) a3).2.2.1, PUnit.unit))))))))))
noncomputable def Sp.p_7 (a0 : ((List Int) × ((List Int) × (Int × Unit)))) (a1 a2 : Int) (a3 : (Int × (Int × Unit))) : Bool := (F_7 a0 a1 a2 a3).isSome
noncomputable def Sp.v_7 (a0 : ((List Int) × ((List Int) × (Int × Unit)))) (a1 a2 : Int) (a3 : (Int × (Int × Unit))) : (((List Int) × ((List Int) × (Int × Unit))) × (Int × (Int × Unit))) × (Int × (Int × Unit)) × Int × Unit := (F_7 a0 a1 a2 a3).getD (dfH R_7)
noncomputable def s_7 : Summ := shS A_7 R_7 (fun x => p_7 x.1 x.2.1 x.2.2.1 x.2.2.2.1) (fun x => v_7 x.1 x.2.1 x.2.2.1 x.2.2.2.1)
theorem pv_7 (a0 : ((List Int) × ((List Int) × (Int × Unit)))) (a1 a2 : Int) (a3 : (Int × (Int × Unit))) {y : (((List Int) × ((List Int) × (Int × Unit))) × (Int × (Int × Unit))) × (Int × (Int × Unit)) × Int × Unit} (h : F_7 a0 a1 a2 a3 = some y) : p_7 a0 a1 a2 a3 = true ∧ v_7 a0 a1 a2 a3 = y := pvG h
theorem run_7 (x : HDen A_7) (y : HDen R_7) (h : F_7 x.1 x.2.1 x.2.2.1 x.2.2.2.1 = some y) : rnF sm_7 3 7 A_7 R_7 x y := runG noO_ok (os := [O_7_0]) ⟨OK_7_0, trivial⟩ (Eq.trans (by kernel_rfl) h)
end
noncomputable section
abbrev A_8 : List Ty := []
abbrev R_8 : List Ty := [(.pair (.int .i64) (.pair (.int .u32) .unit))]
noncomputable def sm_8 : Nat → Option Summ := smL []
noncomputable def F_8  : Option ((Int × (Int × Unit)) × Unit) :=
 some ((1099511627776, 0, PUnit.unit), PUnit.unit)
noncomputable def Sp.p_8  : Bool := (F_8 ).isSome
noncomputable def Sp.v_8  : (Int × (Int × Unit)) × Unit := (F_8 ).getD (dfH R_8)
noncomputable def s_8 : Summ := shN A_8 R_8 (fun x => p_8 ) (fun x => v_8 )
theorem pv_8  {y : (Int × (Int × Unit)) × Unit} (h : F_8  = some y) : p_8  = true ∧ v_8  = y := pvG h
theorem run_8 (x : HDen A_8) (y : HDen R_8) (h : F_8  = some y) : rnF sm_8 1 8 A_8 R_8 x y := runG noO_ok (os := []) trivial (Eq.trans (by kernel_rfl) h)
end
noncomputable section
abbrev A_25 : List Ty := [(.pair (.pair (.slice (.int .u32)) (.pair (.slice (.int .i64)) (.pair (.int .i64) .unit))) (.pair (.int .i64) (.pair (.int .i64) .unit)))]
abbrev R_25 : List Ty := [.bool]
noncomputable def sm_25 : Nat → Option Summ := smL [(14, s_14), (16, s_16), (17, s_17)]
noncomputable def F_25 (a0 : (((List Int) × ((List Int) × (Int × Unit))) × (Int × (Int × Unit)))) : Option (Bool × Unit) :=
 gd (p_14 (a0.1)) (bif !(v_14 (a0.1)).1 then some (false, PUnit.unit) else gd (p_16 a0) (bif !(v_16 a0).1 then some (false, PUnit.unit) else gd (p_17 a0) (some ((v_17 a0).2.1, PUnit.unit))))
noncomputable def Sp.p_25 (a0 : (((List Int) × ((List Int) × (Int × Unit))) × (Int × (Int × Unit)))) : Bool := (F_25 a0).isSome
noncomputable def Sp.v_25 (a0 : (((List Int) × ((List Int) × (Int × Unit))) × (Int × (Int × Unit)))) : Bool × Unit := (F_25 a0).getD (dfH R_25)
noncomputable def s_25 : Summ := shN A_25 R_25 (fun x => p_25 x.1) (fun x => v_25 x.1)
theorem pv_25 (a0 : (((List Int) × ((List Int) × (Int × Unit))) × (Int × (Int × Unit)))) {y : Bool × Unit} (h : F_25 a0 = some y) : p_25 a0 = true ∧ v_25 a0 = y := pvG h
theorem run_25 (x : HDen A_25) (y : HDen R_25) (h : F_25 x.1 = some y) : rnF sm_25 1 25 A_25 R_25 x y := runG noO_ok (os := []) trivial (Eq.trans (by kernel_rfl) h)
end
noncomputable section
abbrev A_50 : List Ty := [(.int .i64), (.int .i64), (.int .i64)]
abbrev R_50 : List Ty := [.bool]
noncomputable def sm_50 : Nat → Option Summ := smL []
noncomputable def F_50 (a0 a1 a2 : Int) : Option (Bool × Unit) :=
 bif decide (a0 ≥ a1) then some (decide (a0 ≤ a2), PUnit.unit) else some (false, PUnit.unit)
noncomputable def Sp.p_50 (a0 a1 a2 : Int) : Bool := (F_50 a0 a1 a2).isSome
noncomputable def Sp.v_50 (a0 a1 a2 : Int) : Bool × Unit := (F_50 a0 a1 a2).getD (dfH R_50)
noncomputable def s_50 : Summ := shN A_50 R_50 (fun x => p_50 x.1 x.2.1 x.2.2.1) (fun x => v_50 x.1 x.2.1 x.2.2.1)
theorem pv_50 (a0 a1 a2 : Int) {y : Bool × Unit} (h : F_50 a0 a1 a2 = some y) : p_50 a0 a1 a2 = true ∧ v_50 a0 a1 a2 = y := pvG h
theorem run_50 (x : HDen A_50) (y : HDen R_50) (h : F_50 x.1 x.2.1 x.2.2.1 = some y) : rnF sm_50 1 50 A_50 R_50 x y := runG noO_ok (os := []) trivial (Eq.trans (by kernel_rfl) h)
end
noncomputable section
abbrev A_62 : List Ty := [(.pair (.int .i64) (.pair (.int .i64) (.pair (.int .i64) (.pair (.int .i64) (.pair (.int .i64) (.pair (.int .i64) (.pair .bool (.pair (.int .i64) .unit))))))))]
abbrev R_62 : List Ty := [.bool]
noncomputable def sm_62 : Nat → Option Summ := smL [(50, s_50)]
noncomputable def F_62 (a0 : (Int × (Int × (Int × (Int × (Int × (Int × (Bool × (Int × Unit))))))))) : Option (Bool × Unit) :=
 gd (p_50 (a0.1) 1 16777215) (bif (v_50 (a0.1) 1 16777215).1 then gd (p_50 (a0.2.1) 1 100) (bif (v_50 (a0.2.1) 1 100).1 then gd (p_50 (a0.2.2.1) 1 100) (bif (v_50 (a0.2.2.1) 1 100).1 then gd (p_50 (a0.2.2.2.1) 1 100) (bif (v_50 (a0.2.2.2.1) 1 100).1 then gd (p_50 (a0.2.2.2.2.1) (a0.2.2.2.1) 255) (bif (v_50 (a0.2.2.2.2.1) (a0.2.2.2.1) 255).1 then gd (p_50 (a0.2.2.2.2.2.1) 0 255) (bif (v_50 (a0.2.2.2.2.2.1) 0 255).1 then gd (p_50 (a0.2.2.2.2.2.2.2.1) 0 8) (some ((v_50 (a0.2.2.2.2.2.2.2.1) 0 8).1, PUnit.unit)) else some (false, PUnit.unit)) else some (false, PUnit.unit)) else some (false, PUnit.unit)) else some (false, PUnit.unit)) else some (false, PUnit.unit)) else some (false, PUnit.unit))
noncomputable def Sp.p_62 (a0 : (Int × (Int × (Int × (Int × (Int × (Int × (Bool × (Int × Unit))))))))) : Bool := (F_62 a0).isSome
noncomputable def Sp.v_62 (a0 : (Int × (Int × (Int × (Int × (Int × (Int × (Bool × (Int × Unit))))))))) : Bool × Unit := (F_62 a0).getD (dfH R_62)
noncomputable def s_62 : Summ := shN A_62 R_62 (fun x => p_62 x.1) (fun x => v_62 x.1)
theorem pv_62 (a0 : (Int × (Int × (Int × (Int × (Int × (Int × (Bool × (Int × Unit))))))))) {y : Bool × Unit} (h : F_62 a0 = some y) : p_62 a0 = true ∧ v_62 a0 = y := pvG h
theorem run_62 (x : HDen A_62) (y : HDen R_62) (h : F_62 x.1 = some y) : rnF sm_62 1 62 A_62 R_62 x y := runG noO_ok (os := []) trivial (Eq.trans (by kernel_rfl) h)
end
noncomputable section
abbrev Zy26_0 : Ty := (.pair (.slice (.pair (.int .i64) (.pair (.int .i64) (.pair (.int .i64) (.pair (.int .i64) (.pair (.int .i64) (.pair (.int .i64) (.pair .bool (.pair (.int .i64) .unit))))))))) (.pair (.slice (.pair (.int .i64) (.pair (.int .i64) (.pair (.int .i64) (.pair (.int .i64) (.pair (.int .i64) (.pair (.slice (.int .i64)) (.pair (.int .i64) .unit)))))))) (.pair (.int .i64) (.pair .bool .unit))))
abbrev Zt26_1 : Type := Int × Bool × Unit
abbrev A_26 : List Ty := [(.slice (.pair (.int .i64) (.pair (.int .i64) (.pair (.int .i64) (.pair (.int .i64) (.pair (.int .i64) (.pair (.int .i64) (.pair .bool (.pair (.int .i64) .unit)))))))))]
abbrev R_26 : List Ty := [(.pair (.slice (.pair (.int .i64) (.pair (.int .i64) (.pair (.int .i64) (.pair (.int .i64) (.pair (.int .i64) (.pair (.int .i64) (.pair .bool (.pair (.int .i64) .unit))))))))) (.pair (.slice (.pair (.int .i64) (.pair (.int .i64) (.pair (.int .i64) (.pair (.int .i64) (.pair (.int .i64) (.pair (.slice (.int .i64)) (.pair (.int .i64) .unit)))))))) (.pair (.int .i64) (.pair .bool .unit)))), (.int .i64)]
noncomputable def sm_26 : Nat → Option Summ := smL [(47, s_47), (48, s_48), (62, s_62)]
noncomputable def T_26_61_0_0 : PS := ⟨19, [(0, .hv (.slice (.pair (.int .i64) (.pair (.int .i64) (.pair (.int .i64) (.pair (.int .i64) (.pair (.int .i64) (.pair (.int .i64) (.pair .bool (.pair (.int .i64) .unit)))))))))), (1, .kc (.clo 46 (.pure .unit PUnit.unit))), (7, .hv (.int .i64)), (8, .hv (.int .i64))], [.mem (.pr (.kc (.nil 71 (.pair (.int .i64) (.pair (.int .i64) (.pair (.int .i64) (.pair (.int .i64) (.pair (.int .i64) (.pair (.int .i64) (.pair .bool (.pair (.int .i64) .unit)))))))))) (.pr (.kc (.nil 52 (.pair (.int .i64) (.pair (.int .i64) (.pair (.int .i64) (.pair (.int .i64) (.pair (.int .i64) (.pair (.slice (.int .i64)) (.pair (.int .i64) .unit))))))))) (.hv (.pair (.int .i64) (.pair .bool .unit)))))], 1⟩
inductive Sp.E_26_61_0_0 where
 | e0 (p2 : Int) (p3 : Zt26_1)
 | e1 (p3 : Int × Bool × Unit)
noncomputable def Sp.B_26_61_0_0 {R : Type} (r : Option E_26_61_0_0) (k0 : Int → Zt26_1 → Option R) (k1 : Zt26_1 → Option R) : Option R := match r with
 | none => none
 | some (.e0 p2 p3) => k0 p2 p3
 | some (.e1 p3) => k1 p3
noncomputable def Y_26_61_0_0 {R : Type} (k : Ex → St → Option R) : E_26_61_0_0 → Option R
 | .e0 p2 p3 => k Ex.ret (sx 19 [(4, CV.int i64 p2)] [Blk.mem (CV.pair (CV.nil 71 (Ty.pair (Ty.int i64) (Ty.pair (Ty.int i64) (Ty.pair (Ty.int i64) (Ty.pair (Ty.int i64) (Ty.pair (Ty.int i64) (Ty.pair (Ty.int i64) (Ty.pair Ty.bool (Ty.pair (Ty.int i64) Ty.unit))))))))) (CV.pair (CV.nil 52 (Ty.pair (Ty.int i64) (Ty.pair (Ty.int i64) (Ty.pair (Ty.int i64) (Ty.pair (Ty.int i64) (Ty.pair (Ty.int i64) (Ty.pair (Ty.slice (Ty.int i64)) (Ty.pair (Ty.int i64) Ty.unit)))))))) (CV.pure (Ty.pair (Ty.int i64) (Ty.pair Ty.bool Ty.unit)) p3)))] 1)
 | .e1 p3 => k (Ex.exit 0) (sx 19 [] [Blk.mem (CV.pair (CV.nil 71 (Ty.pair (Ty.int i64) (Ty.pair (Ty.int i64) (Ty.pair (Ty.int i64) (Ty.pair (Ty.int i64) (Ty.pair (Ty.int i64) (Ty.pair (Ty.int i64) (Ty.pair Ty.bool (Ty.pair (Ty.int i64) Ty.unit))))))))) (CV.pair (CV.nil 52 (Ty.pair (Ty.int i64) (Ty.pair (Ty.int i64) (Ty.pair (Ty.int i64) (Ty.pair (Ty.int i64) (Ty.pair (Ty.int i64) (Ty.pair (Ty.slice (Ty.int i64)) (Ty.pair (Ty.int i64) Ty.unit)))))))) (CV.pure (Ty.pair (Ty.int i64) (Ty.pair Ty.bool Ty.unit)) p3)))] 1)
noncomputable def Sp.S_26_61_0_0 {R : Type} (K : (List (Int × Int × Int × Int × Int × Int × Bool × Int × Unit)) → Int → Int → (Int × Bool × Unit) → Option R) (k : E_26_61_0_0 → Option R) (p0 : List (Int × Int × Int × Int × Int × Int × Bool × Int × Unit)) (p1 p2 : Int) (p3 : Int × Bool × Unit) : Option R :=
 bif decide (p2 < p1) then gd (inB p2 (length p0)) (gd (p_62 (getD p0 (toNat p2) Zd1)) (bif !(v_62 (getD p0 (toNat p2) Zd1)).1 then k (E_26_61_0_0.e0 p2 p3) else K p0 p1 (wrap i64 (p2 + 1)) p3)) else k (E_26_61_0_0.e1 p3)
noncomputable def Sp.L_26_61_0_0 : Nat → (List (Int × Int × Int × Int × Int × Int × Bool × Int × Unit)) → Int → Int → (Int × Bool × Unit) → Option E_26_61_0_0
 | 0, _, _, _, _ => none
 | m + 1, p0, p1, p2, p3 => S_26_61_0_0 (L_26_61_0_0 m) some p0 p1 p2 p3
noncomputable def l_26_61_0_0 (m : Nat) (a : T_26_61_0_0.E) : Option E_26_61_0_0 := L_26_61_0_0 m a.1 a.2.1 a.2.2.1 a.2.2.2.1
noncomputable def O_26_61_0_0 {R : Type} : Orc R := orL T_26_61_0_0 (l_26_61_0_0 FU) Y_26_61_0_0
theorem OK_26_61_0_0 {R : Type} : okF (R := R) sm_26 2 (nf 61 0) O_26_61_0_0 := lp0 T_26_61_0_0 l_26_61_0_0 (fun R K k a => S_26_61_0_0 (fun p0 p1 p2 p3 => K (p0, p1, p2, p3, ())) k a.1 a.2.1 a.2.2.1 a.2.2.2.1) Y_26_61_0_0 (fun _ _ _ => by kernel_rfl) (fun _ _ _ => by
 unfold S_26_61_0_0
 repeat' first | apply gdN | apply condN | rfl) (ok0 _)
noncomputable def g_26_61 {R : Type} : List CV → List Blk → (CV → List Blk → Option R) → Option R := evFnL sm_26 FU (ovr noO (evFn sm_26 fns FU 2)) (mkT (fB fns 61) [O_26_61_0_0]) (fO fns 61)
theorem g_26_61_ok {R : Type} (args : List CV) (hp : List Blk) (k : CV → List Blk → Option R) (r : R) (h : g_26_61 args hp k = some r) : evFn sm_26 fns FU 3 61 args hp k = some r := runG noO_ok (os := [O_26_61_0_0]) ⟨OK_26_61_0_0, trivial⟩ h
noncomputable def ov_26_45 {R : Type} : Nat → Option (List CV → List Blk → (CV → List Blk → Option R) → Option R) := fun f' => bif Nat.beq f' 61 then some g_26_61 else none
theorem ov_26_45_ok {R : Type} : OvrOK (R := R) ov_26_45 (evFn sm_26 fns FU 3) := by
 intro f' g h args hp k r hg
 dsimp only [ov_26_45] at h
 by_cases h61 : f' = 61
 · subst h61
   injection h with h
   subst h
   exact evFn_le 0 (g_26_61_ok _ _ _ _ hg)
 rw [nbeq_ne h61, cond_false] at h
 cases h
noncomputable def g_26_45 {R : Type} : List CV → List Blk → (CV → List Blk → Option R) → Option R := evFnL sm_26 FU (ovr ov_26_45 (evFn sm_26 fns FU 3)) (mkT (fB fns 45) []) (fO fns 45)
theorem g_26_45_ok {R : Type} (args : List CV) (hp : List Blk) (k : CV → List Blk → Option R) (r : R) (h : g_26_45 args hp k = some r) : evFn sm_26 fns FU 4 45 args hp k = some r := runG ov_26_45_ok (os := []) trivial h
noncomputable def ov_26_26 {R : Type} : Nat → Option (List CV → List Blk → (CV → List Blk → Option R) → Option R) := fun f' => bif Nat.beq f' 45 then some g_26_45 else none
theorem ov_26_26_ok {R : Type} : OvrOK (R := R) ov_26_26 (evFn sm_26 fns FU 4) := by
 intro f' g h args hp k r hg
 dsimp only [ov_26_26] at h
 by_cases h45 : f' = 45
 · subst h45
   injection h with h
   subst h
   exact evFn_le 0 (g_26_45_ok _ _ _ _ hg)
 rw [nbeq_ne h45, cond_false] at h
 cases h
noncomputable def F_26 (a0 : (List (Int × (Int × (Int × (Int × (Int × (Int × (Bool × (Int × Unit)))))))))) : Option (((List (Int × (Int × (Int × (Int × (Int × (Int × (Bool × (Int × Unit))))))))) × ((List (Int × (Int × (Int × (Int × (Int × ((List Int) × (Int × Unit)))))))) × (Int × (Bool × Unit)))) × Int × Unit) :=
 bif decide ((↑(length a0) : Int) > 64) then some (([], [], 0, false, PUnit.unit), 5, PUnit.unit) else B_26_61_0_0 (L_26_61_0_0 4611686018427387904 a0 (↑(length a0) : Int) 0 (0, false, PUnit.unit)) (fun y7 y8 => bif decide (y7 ≥ 0) then some (([], [], 0, false, PUnit.unit), 1, PUnit.unit) else bif !Sp.dst (List.map (fun y9 => y9.1) a0) then some (([], [], 0, false, PUnit.unit), 8, PUnit.unit) else gd (room (length a0) 64) (gd ((↑(length a0) : Int) == (↑(length a0) : Int) && room (toNat (↑(length a0) : Int)) 72) (some ((a0, replicate (toNat (↑(length a0) : Int)) Zd2, 0, false, PUnit.unit), 0, PUnit.unit)))) fun y10 => bif !Sp.dst (List.map (fun y11 => y11.1) a0) then some (([], [], 0, false, PUnit.unit), 8, PUnit.unit) else gd (room (length a0) 64) (gd ((↑(length a0) : Int) == (↑(length a0) : Int) && room (toNat (↑(length a0) : Int)) 72) (some ((a0, replicate (toNat (↑(length a0) : Int)) Zd2, 0, false, PUnit.unit), 0, PUnit.unit)))
noncomputable def Sp.p_26 (a0 : (List (Int × (Int × (Int × (Int × (Int × (Int × (Bool × (Int × Unit)))))))))) : Bool := (F_26 a0).isSome
noncomputable def Sp.v_26 (a0 : (List (Int × (Int × (Int × (Int × (Int × (Int × (Bool × (Int × Unit)))))))))) : ((List (Int × (Int × (Int × (Int × (Int × (Int × (Bool × (Int × Unit))))))))) × ((List (Int × (Int × (Int × (Int × (Int × ((List Int) × (Int × Unit)))))))) × (Int × (Bool × Unit)))) × Int × Unit := (F_26 a0).getD (dfH R_26)
noncomputable def s_26 : Summ := ownS A_26 52 [true] Zy26_0 [(.int .i64)] (fun x => p_26 x.1) (fun x => v_26 x.1)
theorem pv_26 (a0 : (List (Int × (Int × (Int × (Int × (Int × (Int × (Bool × (Int × Unit)))))))))) {y : ((List (Int × (Int × (Int × (Int × (Int × (Int × (Bool × (Int × Unit))))))))) × ((List (Int × (Int × (Int × (Int × (Int × ((List Int) × (Int × Unit)))))))) × (Int × (Bool × Unit)))) × Int × Unit} (h : F_26 a0 = some y) : p_26 a0 = true ∧ v_26 a0 = y := pvG h
theorem run_26 (x : HDen A_26) (y : HDen R_26) (h : F_26 x.1 = some y) : evFn sm_26 fns FU 5 26 (ofH A_26 x) [] (ownK 52 [true] Zy26_0 [(.int .i64)]) = some y := runG ov_26_26_ok (os := []) trivial (Eq.trans (by kernel_rfl) h)
end
noncomputable section
abbrev A_75 : List Ty := [(.slice (.int .u32))]
abbrev R_75 : List Ty := [(.int .i64)]
noncomputable def sm_75 : Nat → Option Summ := smL []
noncomputable def T_75_0 : PS := ⟨26, [(3, .hv (.int .i64)), (6, .hv (.slice (.int .u32))), (7, .hv (.int .i64)), (8, .hv (.int .i64))], [], 0⟩
inductive Sp.E_75_0 where
 | e0 (p0 : Int)
noncomputable def Sp.B_75_0 {R : Type} (r : Option E_75_0) (k0 : Int → Option R) : Option R := match r with
 | none => none
 | some (.e0 p0) => k0 p0
noncomputable def Y_75_0 {R : Type} (k : Ex → St → Option R) : E_75_0 → Option R
 | .e0 p0 => k (Ex.exit 0) (sx 26 [(3, CV.int i64 p0)] [])
noncomputable def Sp.S_75_0 {R : Type} (K : Int → List Int → Int → Int → Option R) (k : E_75_0 → Option R) (p0 : Int) (p1 : List Int) (p2 p3 : Int) : Option R :=
 bif decide (p3 < p2) then gd (inB p3 (length p1)) (K (Int.tmod (wrap i64 (wrap i64 (wrap i64 (31 * p0) + wrap i64 (Int.fdiv (getD p1 (toNat p3) 0) 65536)) + wrap i64 (7 * wrap i64 (Sp.andI u32 (getD p1 (toNat p3) 0) 65535)))) 65536) p1 p2 (wrap i64 (p3 + 1))) else k (E_75_0.e0 p0)
noncomputable def Sp.L_75_0 : Nat → Int → List Int → Int → Int → Option E_75_0
 | 0, _, _, _, _ => none
 | m + 1, p0, p1, p2, p3 => S_75_0 (L_75_0 m) some p0 p1 p2 p3
noncomputable def l_75_0 (m : Nat) (a : T_75_0.E) : Option E_75_0 := L_75_0 m a.1 a.2.1 a.2.2.1 a.2.2.2.1
noncomputable def O_75_0 {R : Type} : Orc R := orL T_75_0 (l_75_0 FU) Y_75_0
theorem OK_75_0 {R : Type} : okF (R := R) sm_75 0 (nf 75 0) O_75_0 := lp0 T_75_0 l_75_0 (fun R K k a => S_75_0 (fun p0 p1 p2 p3 => K (p0, p1, p2, p3, ())) k a.1 a.2.1 a.2.2.1 a.2.2.2.1) Y_75_0 (fun _ _ _ => by kernel_rfl) (fun _ _ _ => by
 unfold S_75_0
 repeat' first | apply gdN | apply condN | rfl) (ok0 _)
noncomputable def F_75 (a0 : (List Int)) : Option (Int × Unit) :=
 B_75_0 (L_75_0 4611686018427387904 0 a0 (↑(length a0) : Int) 0) fun y1 => some (y1, PUnit.unit)
noncomputable def Sp.p_75 (a0 : (List Int)) : Bool := (F_75 a0).isSome
noncomputable def Sp.v_75 (a0 : (List Int)) : Int × Unit := (F_75 a0).getD (dfH R_75)
noncomputable def s_75 : Summ := shN A_75 R_75 (fun x => p_75 x.1) (fun x => v_75 x.1)
theorem pv_75 (a0 : (List Int)) {y : Int × Unit} (h : F_75 a0 = some y) : p_75 a0 = true ∧ v_75 a0 = y := pvG h
theorem run_75 (x : HDen A_75) (y : HDen R_75) (h : F_75 x.1 = some y) : rnF sm_75 1 75 A_75 R_75 x y := runG noO_ok (os := [O_75_0]) ⟨OK_75_0, trivial⟩ (Eq.trans (by kernel_rfl) h)
end
noncomputable section
abbrev Zt63_0 : Type := (List Int × List Int × Int × Unit) × Int × Int × Unit
abbrev Zt63_1 : Type := Int × Int × Unit
abbrev Zt63_2 : Type := List (Int × List Int × Unit)
abbrev Zy63_3 : Ty := (.pair (.int .i64) (.pair (.slice (.int .u32)) .unit))
abbrev Zy63_4 : Ty := (.pair (.pair (.slice (.int .u32)) (.pair (.slice (.int .i64)) (.pair (.int .i64) .unit))) (.pair (.int .i64) (.pair (.int .i64) .unit)))
abbrev Zy63_5 : Ty := (.pair (.int .i64) (.pair (.int .i64) .unit))
abbrev Zt63_6 : Type := Int × List Int × Unit
abbrev Zy63_7 : Ty := (.pair (.slice (.pair (.int .i64) (.pair (.slice (.int .u32)) .unit))) (.pair (.int .i64) (.pair (.int .i64) .unit)))
abbrev Zt63_8 : Type := (List (Int × ((List Int) × Unit)))
abbrev A_63 : List Ty := [(.pair (.pair (.slice (.int .u32)) (.pair (.slice (.int .i64)) (.pair (.int .i64) .unit))) (.pair (.int .i64) (.pair (.int .i64) .unit))), (.int .i64)]
abbrev R_63 : List Ty := [(.pair (.slice (.pair (.int .i64) (.pair (.slice (.int .u32)) .unit))) (.pair (.int .i64) (.pair (.int .i64) .unit)))]
noncomputable def sm_63 : Nat → Option Summ := smL [(40, s_40), (54, s_54), (55, s_55), (75, s_75), (78, s_78)]
noncomputable def T_63_76_0_0 : PS := ⟨49, [(0, .kc (.whole 7)), (1, .hv (.int .i64)), (2, .kc (.clo 77 (.pure .unit PUnit.unit))), (8, .hv (.int .i64)), (9, .hv (.int .i64)), (10, .hv (.int .i64))], [.mem (.hv Zy63_4), .mem (.pr (.kc (.nil 99 Zy63_3)) (.hv Zy63_5)), .mem (.pr (.kc (.nil 99 Zy63_3)) (.hv Zy63_5)), .mem (.hv (.slice (.int .u32))), .gh 1, .mem (.hv Zy63_3), .mem (.hv Zy63_3), .vec 99 Zy63_3], 7⟩
inductive Sp.E_63_76_0_0 where
 | e0 (p0 p1 p2 : Int) (p4 : Zt63_0) (p5 p6 : Zt63_1) (p7 : List Int) (p8 p9 : Zt63_6) (p10 : Zt63_2)
noncomputable def Sp.B_63_76_0_0 {R : Type} (r : Option E_63_76_0_0) (k0 : Int → Int → Int → Zt63_0 → Zt63_1 → Zt63_1 → List Int → Zt63_6 → Zt63_6 → Zt63_2 → Option R) : Option R := match r with
 | none => none
 | some (.e0 p0 p1 p2 p4 p5 p6 p7 p8 p9 p10) => k0 p0 p1 p2 p4 p5 p6 p7 p8 p9 p10
theorem Bn_63_76_0_0 {A R : Type} {r : Option E_63_76_0_0} {f : A → Option R} {k0 : Int → Int → Int → Zt63_0 → Zt63_1 → Zt63_1 → List Int → Zt63_6 → Zt63_6 → Zt63_2 → Option A} {l0 : Int → Int → Int → Zt63_0 → Zt63_1 → Zt63_1 → List Int → Zt63_6 → Zt63_6 → Zt63_2 → Option R} (h0 : ∀ p0 p1 p2 p4 p5 p6 p7 p8 p9 p10, (k0 p0 p1 p2 p4 p5 p6 p7 p8 p9 p10).bind f = l0 p0 p1 p2 p4 p5 p6 p7 p8 p9 p10) : (B_63_76_0_0 r k0).bind f = B_63_76_0_0 r l0 := by
 cases r with
 | none => rfl
 | some e => cases e <;> first | apply h0
noncomputable def Y_63_76_0_0 {R : Type} (k : Ex → St → Option R) : E_63_76_0_0 → Option R
 | .e0 p0 p1 p2 p4 p5 p6 p7 p8 p9 p10 => k (Ex.exit 0) (sx 49 [(0, CV.whole 7), (1, CV.int i64 p0), (2, CV.clo 77 (CV.pure Ty.unit PUnit.unit)), (8, CV.int i64 p1), (9, CV.int i64 p2)] [Blk.mem (CV.pure (Ty.pair (Ty.pair (Ty.slice (Ty.int u32)) (Ty.pair (Ty.slice (Ty.int i64)) (Ty.pair (Ty.int i64) Ty.unit))) (Ty.pair (Ty.int i64) (Ty.pair (Ty.int i64) Ty.unit))) p4), Blk.mem (CV.pair (CV.nil 99 (Ty.pair (Ty.int i64) (Ty.pair (Ty.slice (Ty.int u32)) Ty.unit))) (CV.pure (Ty.pair (Ty.int i64) (Ty.pair (Ty.int i64) Ty.unit)) p5)), Blk.mem (CV.pair (CV.nil 99 (Ty.pair (Ty.int i64) (Ty.pair (Ty.slice (Ty.int u32)) Ty.unit))) (CV.pure (Ty.pair (Ty.int i64) (Ty.pair (Ty.int i64) Ty.unit)) p6)), Blk.mem (CV.pure (Ty.slice (Ty.int u32)) p7), Blk.ghost 1, Blk.mem (CV.pure (Ty.pair (Ty.int i64) (Ty.pair (Ty.slice (Ty.int u32)) Ty.unit)) p8), Blk.mem (CV.pure (Ty.pair (Ty.int i64) (Ty.pair (Ty.slice (Ty.int u32)) Ty.unit)) p9), Blk.vec 99 (Ty.pair (Ty.int i64) (Ty.pair (Ty.slice (Ty.int u32)) Ty.unit)) p10] 7)
noncomputable def Sp.S_63_76_0_0 {R : Type} (K : Int → Int → Int → Int → ((List Int × List Int × Int × Unit) × Int × Int × Unit) → (Int × Int × Unit) → (Int × Int × Unit) → List Int → (Int × List Int × Unit) → (Int × List Int × Unit) → (List (Int × List Int × Unit)) → Option R) (k : E_63_76_0_0 → Option R) (p0 p1 p2 p3 : Int) (p4 : (List Int × List Int × Int × Unit) × Int × Int × Unit) (p5 p6 : Int × Int × Unit) (p7 : List Int) (p8 p9 : Int × List Int × Unit) (p10 : List (Int × List Int × Unit)) : Option R :=
 bif decide (p2 < p3) then gd (inB (wrap i64 (Int.fdiv (wrap u64 (wrap i64 (p2 + p3))) 2)) (length p10)) (gd (decide (toNat (wrap i64 (Int.fdiv (wrap u64 (wrap i64 (p2 + p3))) 2)) < length p10) && true) (bif decide (wrap i64 ((getD p10 (toNat (wrap i64 (Int.fdiv (wrap u64 (wrap i64 (p2 + p3))) 2))) Zd3).1 - p0) < 0) then K p0 p1 (wrap i64 (wrap i64 (Int.fdiv (wrap u64 (wrap i64 (p2 + p3))) 2) + 1)) p3 p4 p5 p6 p7 p8 p9 p10 else K p0 p1 p2 (wrap i64 (Int.fdiv (wrap u64 (wrap i64 (p2 + p3))) 2)) p4 p5 p6 p7 p8 p9 p10)) else k (E_63_76_0_0.e0 p0 p1 p2 p4 p5 p6 p7 p8 p9 p10)
noncomputable def Sp.L_63_76_0_0 : Nat → Int → Int → Int → Int → ((List Int × List Int × Int × Unit) × Int × Int × Unit) → (Int × Int × Unit) → (Int × Int × Unit) → List Int → (Int × List Int × Unit) → (Int × List Int × Unit) → (List (Int × List Int × Unit)) → Option E_63_76_0_0
 | 0, _, _, _, _, _, _, _, _, _, _, _ => none
 | m + 1, p0, p1, p2, p3, p4, p5, p6, p7, p8, p9, p10 => S_63_76_0_0 (L_63_76_0_0 m) some p0 p1 p2 p3 p4 p5 p6 p7 p8 p9 p10
noncomputable def l_63_76_0_0 (m : Nat) (a : T_63_76_0_0.E) : Option E_63_76_0_0 := L_63_76_0_0 m a.1 a.2.1 a.2.2.1 a.2.2.2.1 a.2.2.2.2.1 a.2.2.2.2.2.1 a.2.2.2.2.2.2.1 a.2.2.2.2.2.2.2.1 a.2.2.2.2.2.2.2.2.1 a.2.2.2.2.2.2.2.2.2.1 a.2.2.2.2.2.2.2.2.2.2.1
noncomputable def O_63_76_0_0 {R : Type} : Orc R := orL T_63_76_0_0 (l_63_76_0_0 FU) Y_63_76_0_0
theorem OK_63_76_0_0 {R : Type} : okF (R := R) sm_63 2 (nf 76 0) O_63_76_0_0 := lp0 T_63_76_0_0 l_63_76_0_0 (fun R K k a => S_63_76_0_0 (fun p0 p1 p2 p3 p4 p5 p6 p7 p8 p9 p10 => K (p0, p1, p2, p3, p4, p5, p6, p7, p8, p9, p10, ())) k a.1 a.2.1 a.2.2.1 a.2.2.2.1 a.2.2.2.2.1 a.2.2.2.2.2.1 a.2.2.2.2.2.2.1 a.2.2.2.2.2.2.2.1 a.2.2.2.2.2.2.2.2.1 a.2.2.2.2.2.2.2.2.2.1 a.2.2.2.2.2.2.2.2.2.2.1) Y_63_76_0_0 (fun _ _ _ => by kernel_rfl) (fun _ _ _ => by
 unfold S_63_76_0_0
 repeat' first | apply gdN | apply condN | rfl) (ok0 _)
noncomputable def T_63_76_0_1 : PS := ⟨49, [(0, .kc (.whole 8)), (1, .hv (.int .i64)), (2, .kc (.clo 77 (.pure .unit PUnit.unit))), (8, .hv (.int .i64)), (9, .hv (.int .i64)), (10, .hv (.int .i64))], [.mem (.hv Zy63_4), .mem (.pr (.kc (.nil 99 Zy63_3)) (.hv Zy63_5)), .mem (.pr (.kc (.nil 99 Zy63_3)) (.hv Zy63_5)), .mem (.hv (.slice (.int .u32))), .gh 1, .mem (.pr (.hv (.int .i64)) (.kc (.pair (.whole 6) (.pure .unit PUnit.unit)))), .vec 38 (.int .u32), .mem (.pr (.hv (.int .i64)) (.kc (.pair (.whole 6) (.pure .unit PUnit.unit)))), .vec 99 Zy63_3], 8⟩
inductive Sp.E_63_76_0_1 where
 | e0 (p0 p1 p2 : Int) (p4 : Zt63_0) (p5 p6 : Zt63_1) (p7 : List Int) (p8 : Int) (p9 : List Int) (p10 : Int) (p11 : Zt63_2)
noncomputable def Sp.B_63_76_0_1 {R : Type} (r : Option E_63_76_0_1) (k0 : Int → Int → Int → Zt63_0 → Zt63_1 → Zt63_1 → List Int → Int → List Int → Int → Zt63_2 → Option R) : Option R := match r with
 | none => none
 | some (.e0 p0 p1 p2 p4 p5 p6 p7 p8 p9 p10 p11) => k0 p0 p1 p2 p4 p5 p6 p7 p8 p9 p10 p11
theorem Bn_63_76_0_1 {A R : Type} {r : Option E_63_76_0_1} {f : A → Option R} {k0 : Int → Int → Int → Zt63_0 → Zt63_1 → Zt63_1 → List Int → Int → List Int → Int → Zt63_2 → Option A} {l0 : Int → Int → Int → Zt63_0 → Zt63_1 → Zt63_1 → List Int → Int → List Int → Int → Zt63_2 → Option R} (h0 : ∀ p0 p1 p2 p4 p5 p6 p7 p8 p9 p10 p11, (k0 p0 p1 p2 p4 p5 p6 p7 p8 p9 p10 p11).bind f = l0 p0 p1 p2 p4 p5 p6 p7 p8 p9 p10 p11) : (B_63_76_0_1 r k0).bind f = B_63_76_0_1 r l0 := by
 cases r with
 | none => rfl
 | some e => cases e <;> first | apply h0
noncomputable def Y_63_76_0_1 {R : Type} (k : Ex → St → Option R) : E_63_76_0_1 → Option R
 | .e0 p0 p1 p2 p4 p5 p6 p7 p8 p9 p10 p11 => k (Ex.exit 0) (sx 49 [(0, CV.whole 8), (1, CV.int i64 p0), (2, CV.clo 77 (CV.pure Ty.unit PUnit.unit)), (8, CV.int i64 p1), (9, CV.int i64 p2)] [Blk.mem (CV.pure (Ty.pair (Ty.pair (Ty.slice (Ty.int u32)) (Ty.pair (Ty.slice (Ty.int i64)) (Ty.pair (Ty.int i64) Ty.unit))) (Ty.pair (Ty.int i64) (Ty.pair (Ty.int i64) Ty.unit))) p4), Blk.mem (CV.pair (CV.nil 99 (Ty.pair (Ty.int i64) (Ty.pair (Ty.slice (Ty.int u32)) Ty.unit))) (CV.pure (Ty.pair (Ty.int i64) (Ty.pair (Ty.int i64) Ty.unit)) p5)), Blk.mem (CV.pair (CV.nil 99 (Ty.pair (Ty.int i64) (Ty.pair (Ty.slice (Ty.int u32)) Ty.unit))) (CV.pure (Ty.pair (Ty.int i64) (Ty.pair (Ty.int i64) Ty.unit)) p6)), Blk.mem (CV.pure (Ty.slice (Ty.int u32)) p7), Blk.ghost 1, Blk.mem (CV.pair (CV.int i64 p8) (CV.pair (CV.whole 6) (CV.pure Ty.unit PUnit.unit))), Blk.vec 38 (Ty.int u32) p9, Blk.mem (CV.pair (CV.int i64 p10) (CV.pair (CV.whole 6) (CV.pure Ty.unit PUnit.unit))), Blk.vec 99 (Ty.pair (Ty.int i64) (Ty.pair (Ty.slice (Ty.int u32)) Ty.unit)) p11] 8)
noncomputable def Sp.S_63_76_0_1 {R : Type} (K : Int → Int → Int → Int → ((List Int × List Int × Int × Unit) × Int × Int × Unit) → (Int × Int × Unit) → (Int × Int × Unit) → List Int → Int → List Int → Int → (List (Int × List Int × Unit)) → Option R) (k : E_63_76_0_1 → Option R) (p0 p1 p2 p3 : Int) (p4 : (List Int × List Int × Int × Unit) × Int × Int × Unit) (p5 p6 : Int × Int × Unit) (p7 : List Int) (p8 : Int) (p9 : List Int) (p10 : Int) (p11 : List (Int × List Int × Unit)) : Option R :=
 bif decide (p2 < p3) then gd (inB (wrap i64 (Int.fdiv (wrap u64 (wrap i64 (p2 + p3))) 2)) (length p11)) (gd (decide (toNat (wrap i64 (Int.fdiv (wrap u64 (wrap i64 (p2 + p3))) 2)) < length p11) && true) (bif decide (wrap i64 ((getD p11 (toNat (wrap i64 (Int.fdiv (wrap u64 (wrap i64 (p2 + p3))) 2))) Zd3).1 - p0) < 0) then K p0 p1 (wrap i64 (wrap i64 (Int.fdiv (wrap u64 (wrap i64 (p2 + p3))) 2) + 1)) p3 p4 p5 p6 p7 p8 p9 p10 p11 else K p0 p1 p2 (wrap i64 (Int.fdiv (wrap u64 (wrap i64 (p2 + p3))) 2)) p4 p5 p6 p7 p8 p9 p10 p11)) else k (E_63_76_0_1.e0 p0 p1 p2 p4 p5 p6 p7 p8 p9 p10 p11)
noncomputable def Sp.L_63_76_0_1 : Nat → Int → Int → Int → Int → ((List Int × List Int × Int × Unit) × Int × Int × Unit) → (Int × Int × Unit) → (Int × Int × Unit) → List Int → Int → List Int → Int → (List (Int × List Int × Unit)) → Option E_63_76_0_1
 | 0, _, _, _, _, _, _, _, _, _, _, _, _ => none
 | m + 1, p0, p1, p2, p3, p4, p5, p6, p7, p8, p9, p10, p11 => S_63_76_0_1 (L_63_76_0_1 m) some p0 p1 p2 p3 p4 p5 p6 p7 p8 p9 p10 p11
noncomputable def l_63_76_0_1 (m : Nat) (a : T_63_76_0_1.E) : Option E_63_76_0_1 := L_63_76_0_1 m a.1 a.2.1 a.2.2.1 a.2.2.2.1 a.2.2.2.2.1 a.2.2.2.2.2.1 a.2.2.2.2.2.2.1 a.2.2.2.2.2.2.2.1 a.2.2.2.2.2.2.2.2.1 a.2.2.2.2.2.2.2.2.2.1 a.2.2.2.2.2.2.2.2.2.2.1 a.2.2.2.2.2.2.2.2.2.2.2.1
noncomputable def O_63_76_0_1 {R : Type} : Orc R := orL T_63_76_0_1 (l_63_76_0_1 FU) Y_63_76_0_1 O_63_76_0_0
theorem OK_63_76_0_1 {R : Type} : okF (R := R) sm_63 2 (nf 76 0) O_63_76_0_1 := lp0 T_63_76_0_1 l_63_76_0_1 (fun R K k a => S_63_76_0_1 (fun p0 p1 p2 p3 p4 p5 p6 p7 p8 p9 p10 p11 => K (p0, p1, p2, p3, p4, p5, p6, p7, p8, p9, p10, p11, ())) k a.1 a.2.1 a.2.2.1 a.2.2.2.1 a.2.2.2.2.1 a.2.2.2.2.2.1 a.2.2.2.2.2.2.1 a.2.2.2.2.2.2.2.1 a.2.2.2.2.2.2.2.2.1 a.2.2.2.2.2.2.2.2.2.1 a.2.2.2.2.2.2.2.2.2.2.1 a.2.2.2.2.2.2.2.2.2.2.2.1) Y_63_76_0_1 (fun _ _ _ => by kernel_rfl) (fun _ _ _ => by
 unfold S_63_76_0_1
 repeat' first | apply gdN | apply condN | rfl) OK_63_76_0_0
noncomputable def T_63_76_0_2 : PS := ⟨49, [(0, .kc (.whole 6)), (1, .hv (.int .i64)), (2, .kc (.clo 77 (.pure .unit PUnit.unit))), (8, .hv (.int .i64)), (9, .hv (.int .i64)), (10, .hv (.int .i64))], [.mem (.hv Zy63_4), .mem (.pr (.kc (.nil 99 Zy63_3)) (.hv Zy63_5)), .mem (.pr (.kc (.whole 6)) (.hv Zy63_5)), .mem (.hv (.slice (.int .u32))), .gh 1, .mem (.hv Zy63_3), .vec 99 Zy63_3, .mem (.hv Zy63_3)], 8⟩
inductive Sp.E_63_76_0_2 where
 | e0 (p0 p1 p2 : Int) (p4 : Zt63_0) (p5 p6 : Zt63_1) (p7 : List Int) (p8 : Zt63_6) (p9 : Zt63_2) (p10 : Zt63_6)
noncomputable def Sp.B_63_76_0_2 {R : Type} (r : Option E_63_76_0_2) (k0 : Int → Int → Int → Zt63_0 → Zt63_1 → Zt63_1 → List Int → Zt63_6 → Zt63_2 → Zt63_6 → Option R) : Option R := match r with
 | none => none
 | some (.e0 p0 p1 p2 p4 p5 p6 p7 p8 p9 p10) => k0 p0 p1 p2 p4 p5 p6 p7 p8 p9 p10
theorem Bn_63_76_0_2 {A R : Type} {r : Option E_63_76_0_2} {f : A → Option R} {k0 : Int → Int → Int → Zt63_0 → Zt63_1 → Zt63_1 → List Int → Zt63_6 → Zt63_2 → Zt63_6 → Option A} {l0 : Int → Int → Int → Zt63_0 → Zt63_1 → Zt63_1 → List Int → Zt63_6 → Zt63_2 → Zt63_6 → Option R} (h0 : ∀ p0 p1 p2 p4 p5 p6 p7 p8 p9 p10, (k0 p0 p1 p2 p4 p5 p6 p7 p8 p9 p10).bind f = l0 p0 p1 p2 p4 p5 p6 p7 p8 p9 p10) : (B_63_76_0_2 r k0).bind f = B_63_76_0_2 r l0 := by
 cases r with
 | none => rfl
 | some e => cases e <;> first | apply h0
noncomputable def Y_63_76_0_2 {R : Type} (k : Ex → St → Option R) : E_63_76_0_2 → Option R
 | .e0 p0 p1 p2 p4 p5 p6 p7 p8 p9 p10 => k (Ex.exit 0) (sx 49 [(0, CV.whole 6), (1, CV.int i64 p0), (2, CV.clo 77 (CV.pure Ty.unit PUnit.unit)), (8, CV.int i64 p1), (9, CV.int i64 p2)] [Blk.mem (CV.pure (Ty.pair (Ty.pair (Ty.slice (Ty.int u32)) (Ty.pair (Ty.slice (Ty.int i64)) (Ty.pair (Ty.int i64) Ty.unit))) (Ty.pair (Ty.int i64) (Ty.pair (Ty.int i64) Ty.unit))) p4), Blk.mem (CV.pair (CV.nil 99 (Ty.pair (Ty.int i64) (Ty.pair (Ty.slice (Ty.int u32)) Ty.unit))) (CV.pure (Ty.pair (Ty.int i64) (Ty.pair (Ty.int i64) Ty.unit)) p5)), Blk.mem (CV.pair (CV.whole 6) (CV.pure (Ty.pair (Ty.int i64) (Ty.pair (Ty.int i64) Ty.unit)) p6)), Blk.mem (CV.pure (Ty.slice (Ty.int u32)) p7), Blk.ghost 1, Blk.mem (CV.pure (Ty.pair (Ty.int i64) (Ty.pair (Ty.slice (Ty.int u32)) Ty.unit)) p8), Blk.vec 99 (Ty.pair (Ty.int i64) (Ty.pair (Ty.slice (Ty.int u32)) Ty.unit)) p9, Blk.mem (CV.pure (Ty.pair (Ty.int i64) (Ty.pair (Ty.slice (Ty.int u32)) Ty.unit)) p10)] 8)
noncomputable def Sp.S_63_76_0_2 {R : Type} (K : Int → Int → Int → Int → ((List Int × List Int × Int × Unit) × Int × Int × Unit) → (Int × Int × Unit) → (Int × Int × Unit) → List Int → (Int × List Int × Unit) → (List (Int × List Int × Unit)) → (Int × List Int × Unit) → Option R) (k : E_63_76_0_2 → Option R) (p0 p1 p2 p3 : Int) (p4 : (List Int × List Int × Int × Unit) × Int × Int × Unit) (p5 p6 : Int × Int × Unit) (p7 : List Int) (p8 : Int × List Int × Unit) (p9 : List (Int × List Int × Unit)) (p10 : Int × List Int × Unit) : Option R :=
 bif decide (p2 < p3) then gd (inB (wrap i64 (Int.fdiv (wrap u64 (wrap i64 (p2 + p3))) 2)) (length p9)) (gd (decide (toNat (wrap i64 (Int.fdiv (wrap u64 (wrap i64 (p2 + p3))) 2)) < length p9) && true) (bif decide (wrap i64 ((getD p9 (toNat (wrap i64 (Int.fdiv (wrap u64 (wrap i64 (p2 + p3))) 2))) Zd3).1 - p0) < 0) then K p0 p1 (wrap i64 (wrap i64 (Int.fdiv (wrap u64 (wrap i64 (p2 + p3))) 2) + 1)) p3 p4 p5 p6 p7 p8 p9 p10 else K p0 p1 p2 (wrap i64 (Int.fdiv (wrap u64 (wrap i64 (p2 + p3))) 2)) p4 p5 p6 p7 p8 p9 p10)) else k (E_63_76_0_2.e0 p0 p1 p2 p4 p5 p6 p7 p8 p9 p10)
noncomputable def Sp.L_63_76_0_2 : Nat → Int → Int → Int → Int → ((List Int × List Int × Int × Unit) × Int × Int × Unit) → (Int × Int × Unit) → (Int × Int × Unit) → List Int → (Int × List Int × Unit) → (List (Int × List Int × Unit)) → (Int × List Int × Unit) → Option E_63_76_0_2
 | 0, _, _, _, _, _, _, _, _, _, _, _ => none
 | m + 1, p0, p1, p2, p3, p4, p5, p6, p7, p8, p9, p10 => S_63_76_0_2 (L_63_76_0_2 m) some p0 p1 p2 p3 p4 p5 p6 p7 p8 p9 p10
noncomputable def l_63_76_0_2 (m : Nat) (a : T_63_76_0_2.E) : Option E_63_76_0_2 := L_63_76_0_2 m a.1 a.2.1 a.2.2.1 a.2.2.2.1 a.2.2.2.2.1 a.2.2.2.2.2.1 a.2.2.2.2.2.2.1 a.2.2.2.2.2.2.2.1 a.2.2.2.2.2.2.2.2.1 a.2.2.2.2.2.2.2.2.2.1 a.2.2.2.2.2.2.2.2.2.2.1
noncomputable def O_63_76_0_2 {R : Type} : Orc R := orL T_63_76_0_2 (l_63_76_0_2 FU) Y_63_76_0_2 O_63_76_0_1
theorem OK_63_76_0_2 {R : Type} : okF (R := R) sm_63 2 (nf 76 0) O_63_76_0_2 := lp0 T_63_76_0_2 l_63_76_0_2 (fun R K k a => S_63_76_0_2 (fun p0 p1 p2 p3 p4 p5 p6 p7 p8 p9 p10 => K (p0, p1, p2, p3, p4, p5, p6, p7, p8, p9, p10, ())) k a.1 a.2.1 a.2.2.1 a.2.2.2.1 a.2.2.2.2.1 a.2.2.2.2.2.1 a.2.2.2.2.2.2.1 a.2.2.2.2.2.2.2.1 a.2.2.2.2.2.2.2.2.1 a.2.2.2.2.2.2.2.2.2.1 a.2.2.2.2.2.2.2.2.2.2.1) Y_63_76_0_2 (fun _ _ _ => by kernel_rfl) (fun _ _ _ => by
 unfold S_63_76_0_2
 repeat' first | apply gdN | apply condN | rfl) OK_63_76_0_1
noncomputable def T_63_76_0_3 : PS := ⟨49, [(0, .kc (.whole 7)), (1, .hv (.int .i64)), (2, .kc (.clo 77 (.pure .unit PUnit.unit))), (8, .hv (.int .i64)), (9, .hv (.int .i64)), (10, .hv (.int .i64))], [.mem (.hv Zy63_4), .mem (.pr (.kc (.nil 99 Zy63_3)) (.hv Zy63_5)), .mem (.pr (.kc (.whole 7)) (.hv Zy63_5)), .mem (.hv (.slice (.int .u32))), .gh 1, .mem (.pr (.hv (.int .i64)) (.kc (.pair (.whole 6) (.pure .unit PUnit.unit)))), .vec 38 (.int .u32), .vec 99 Zy63_3, .mem (.pr (.hv (.int .i64)) (.kc (.pair (.whole 6) (.pure .unit PUnit.unit))))], 9⟩
inductive Sp.E_63_76_0_3 where
 | e0 (p0 p1 p2 : Int) (p4 : Zt63_0) (p5 p6 : Zt63_1) (p7 : List Int) (p8 : Int) (p9 : List Int) (p10 : Zt63_2) (p11 : Int)
noncomputable def Sp.B_63_76_0_3 {R : Type} (r : Option E_63_76_0_3) (k0 : Int → Int → Int → Zt63_0 → Zt63_1 → Zt63_1 → List Int → Int → List Int → Zt63_2 → Int → Option R) : Option R := match r with
 | none => none
 | some (.e0 p0 p1 p2 p4 p5 p6 p7 p8 p9 p10 p11) => k0 p0 p1 p2 p4 p5 p6 p7 p8 p9 p10 p11
theorem Bn_63_76_0_3 {A R : Type} {r : Option E_63_76_0_3} {f : A → Option R} {k0 : Int → Int → Int → Zt63_0 → Zt63_1 → Zt63_1 → List Int → Int → List Int → Zt63_2 → Int → Option A} {l0 : Int → Int → Int → Zt63_0 → Zt63_1 → Zt63_1 → List Int → Int → List Int → Zt63_2 → Int → Option R} (h0 : ∀ p0 p1 p2 p4 p5 p6 p7 p8 p9 p10 p11, (k0 p0 p1 p2 p4 p5 p6 p7 p8 p9 p10 p11).bind f = l0 p0 p1 p2 p4 p5 p6 p7 p8 p9 p10 p11) : (B_63_76_0_3 r k0).bind f = B_63_76_0_3 r l0 := by
 cases r with
 | none => rfl
 | some e => cases e <;> first | apply h0
noncomputable def Y_63_76_0_3 {R : Type} (k : Ex → St → Option R) : E_63_76_0_3 → Option R
 | .e0 p0 p1 p2 p4 p5 p6 p7 p8 p9 p10 p11 => k (Ex.exit 0) (sx 49 [(0, CV.whole 7), (1, CV.int i64 p0), (2, CV.clo 77 (CV.pure Ty.unit PUnit.unit)), (8, CV.int i64 p1), (9, CV.int i64 p2)] [Blk.mem (CV.pure (Ty.pair (Ty.pair (Ty.slice (Ty.int u32)) (Ty.pair (Ty.slice (Ty.int i64)) (Ty.pair (Ty.int i64) Ty.unit))) (Ty.pair (Ty.int i64) (Ty.pair (Ty.int i64) Ty.unit))) p4), Blk.mem (CV.pair (CV.nil 99 (Ty.pair (Ty.int i64) (Ty.pair (Ty.slice (Ty.int u32)) Ty.unit))) (CV.pure (Ty.pair (Ty.int i64) (Ty.pair (Ty.int i64) Ty.unit)) p5)), Blk.mem (CV.pair (CV.whole 7) (CV.pure (Ty.pair (Ty.int i64) (Ty.pair (Ty.int i64) Ty.unit)) p6)), Blk.mem (CV.pure (Ty.slice (Ty.int u32)) p7), Blk.ghost 1, Blk.mem (CV.pair (CV.int i64 p8) (CV.pair (CV.whole 6) (CV.pure Ty.unit PUnit.unit))), Blk.vec 38 (Ty.int u32) p9, Blk.vec 99 (Ty.pair (Ty.int i64) (Ty.pair (Ty.slice (Ty.int u32)) Ty.unit)) p10, Blk.mem (CV.pair (CV.int i64 p11) (CV.pair (CV.whole 6) (CV.pure Ty.unit PUnit.unit)))] 9)
noncomputable def Sp.S_63_76_0_3 {R : Type} (K : Int → Int → Int → Int → ((List Int × List Int × Int × Unit) × Int × Int × Unit) → (Int × Int × Unit) → (Int × Int × Unit) → List Int → Int → List Int → (List (Int × List Int × Unit)) → Int → Option R) (k : E_63_76_0_3 → Option R) (p0 p1 p2 p3 : Int) (p4 : (List Int × List Int × Int × Unit) × Int × Int × Unit) (p5 p6 : Int × Int × Unit) (p7 : List Int) (p8 : Int) (p9 : List Int) (p10 : List (Int × List Int × Unit)) (p11 : Int) : Option R :=
 bif decide (p2 < p3) then gd (inB (wrap i64 (Int.fdiv (wrap u64 (wrap i64 (p2 + p3))) 2)) (length p10)) (gd (decide (toNat (wrap i64 (Int.fdiv (wrap u64 (wrap i64 (p2 + p3))) 2)) < length p10) && true) (bif decide (wrap i64 ((getD p10 (toNat (wrap i64 (Int.fdiv (wrap u64 (wrap i64 (p2 + p3))) 2))) Zd3).1 - p0) < 0) then K p0 p1 (wrap i64 (wrap i64 (Int.fdiv (wrap u64 (wrap i64 (p2 + p3))) 2) + 1)) p3 p4 p5 p6 p7 p8 p9 p10 p11 else K p0 p1 p2 (wrap i64 (Int.fdiv (wrap u64 (wrap i64 (p2 + p3))) 2)) p4 p5 p6 p7 p8 p9 p10 p11)) else k (E_63_76_0_3.e0 p0 p1 p2 p4 p5 p6 p7 p8 p9 p10 p11)
noncomputable def Sp.L_63_76_0_3 : Nat → Int → Int → Int → Int → ((List Int × List Int × Int × Unit) × Int × Int × Unit) → (Int × Int × Unit) → (Int × Int × Unit) → List Int → Int → List Int → (List (Int × List Int × Unit)) → Int → Option E_63_76_0_3
 | 0, _, _, _, _, _, _, _, _, _, _, _, _ => none
 | m + 1, p0, p1, p2, p3, p4, p5, p6, p7, p8, p9, p10, p11 => S_63_76_0_3 (L_63_76_0_3 m) some p0 p1 p2 p3 p4 p5 p6 p7 p8 p9 p10 p11
noncomputable def l_63_76_0_3 (m : Nat) (a : T_63_76_0_3.E) : Option E_63_76_0_3 := L_63_76_0_3 m a.1 a.2.1 a.2.2.1 a.2.2.2.1 a.2.2.2.2.1 a.2.2.2.2.2.1 a.2.2.2.2.2.2.1 a.2.2.2.2.2.2.2.1 a.2.2.2.2.2.2.2.2.1 a.2.2.2.2.2.2.2.2.2.1 a.2.2.2.2.2.2.2.2.2.2.1 a.2.2.2.2.2.2.2.2.2.2.2.1
noncomputable def O_63_76_0_3 {R : Type} : Orc R := orL T_63_76_0_3 (l_63_76_0_3 FU) Y_63_76_0_3 O_63_76_0_2
theorem OK_63_76_0_3 {R : Type} : okF (R := R) sm_63 2 (nf 76 0) O_63_76_0_3 := lp0 T_63_76_0_3 l_63_76_0_3 (fun R K k a => S_63_76_0_3 (fun p0 p1 p2 p3 p4 p5 p6 p7 p8 p9 p10 p11 => K (p0, p1, p2, p3, p4, p5, p6, p7, p8, p9, p10, p11, ())) k a.1 a.2.1 a.2.2.1 a.2.2.2.1 a.2.2.2.2.1 a.2.2.2.2.2.1 a.2.2.2.2.2.2.1 a.2.2.2.2.2.2.2.1 a.2.2.2.2.2.2.2.2.1 a.2.2.2.2.2.2.2.2.2.1 a.2.2.2.2.2.2.2.2.2.2.1 a.2.2.2.2.2.2.2.2.2.2.2.1) Y_63_76_0_3 (fun _ _ _ => by kernel_rfl) (fun _ _ _ => by
 unfold S_63_76_0_3
 repeat' first | apply gdN | apply condN | rfl) OK_63_76_0_2
noncomputable def g_63_76 {R : Type} : List CV → List Blk → (CV → List Blk → Option R) → Option R := evFnL sm_63 FU (ovr noO (evFn sm_63 fns FU 2)) (mkT (fB fns 76) [O_63_76_0_3]) (fO fns 76)
theorem g_63_76_ok {R : Type} (args : List CV) (hp : List Blk) (k : CV → List Blk → Option R) (r : R) (h : g_63_76 args hp k = some r) : evFn sm_63 fns FU 3 76 args hp k = some r := runG noO_ok (os := [O_63_76_0_3]) ⟨OK_63_76_0_3, trivial⟩ h
noncomputable def ov_63_69 {R : Type} : Nat → Option (List CV → List Blk → (CV → List Blk → Option R) → Option R) := fun f' => bif Nat.beq f' 76 then some g_63_76 else none
theorem ov_63_69_ok {R : Type} : OvrOK (R := R) ov_63_69 (evFn sm_63 fns FU 3) := by
 intro f' g h args hp k r hg
 dsimp only [ov_63_69] at h
 by_cases h76 : f' = 76
 · subst h76
   injection h with h
   subst h
   exact evFn_le 0 (g_63_76_ok _ _ _ _ hg)
 rw [nbeq_ne h76, cond_false] at h
 cases h
noncomputable def g_63_69 {R : Type} : List CV → List Blk → (CV → List Blk → Option R) → Option R := evFnL sm_63 FU (ovr ov_63_69 (evFn sm_63 fns FU 3)) (mkT (fB fns 69) []) (fO fns 69)
theorem g_63_69_ok {R : Type} (args : List CV) (hp : List Blk) (k : CV → List Blk → Option R) (r : R) (h : g_63_69 args hp k = some r) : evFn sm_63 fns FU 4 69 args hp k = some r := runG ov_63_69_ok (os := []) trivial h
noncomputable def ov_63_1000063 {R : Type} : Nat → Option (List CV → List Blk → (CV → List Blk → Option R) → Option R) := fun f' => bif Nat.beq f' 69 then some g_63_69 else none
theorem ov_63_1000063_ok {R : Type} : OvrOK (R := R) ov_63_1000063 (evFn sm_63 fns FU 4) := by
 intro f' g h args hp k r hg
 dsimp only [ov_63_1000063] at h
 by_cases h69 : f' = 69
 · subst h69
   injection h with h
   subst h
   exact evFn_le 0 (g_63_69_ok _ _ _ _ hg)
 rw [nbeq_ne h69, cond_false] at h
 cases h
noncomputable def g_63_1000063 {R : Type} : List CV → List Blk → (CV → List Blk → Option R) → Option R := evRndL sm_63 FU (ovr ov_63_1000063 (evFn sm_63 fns FU 4)) (mkT (fR fns 63).2.2 []) (fR fns 63).1 (fR fns 63).2.1 (fR fns 63).2.2
theorem g_63_1000063_ok {R : Type} (args : List CV) (hp : List Blk) (k : CV → List Blk → Option R) (r : R) (h : g_63_1000063 args hp k = some r) : evFn sm_63 fns FU 5 1000063 args hp k = some r := rnG (N := 63) ov_63_1000063_ok (os := []) trivial h
noncomputable def ov_63_74 {R : Type} : Nat → Option (List CV → List Blk → (CV → List Blk → Option R) → Option R) := fun f' => bif Nat.beq f' 1000063 then some g_63_1000063 else none
theorem ov_63_74_ok {R : Type} : OvrOK (R := R) ov_63_74 (evFn sm_63 fns FU 5) := by
 intro f' g h args hp k r hg
 dsimp only [ov_63_74] at h
 by_cases h1000063 : f' = 1000063
 · subst h1000063
   injection h with h
   subst h
   exact evFn_le 0 (g_63_1000063_ok _ _ _ _ hg)
 rw [nbeq_ne h1000063, cond_false] at h
 cases h
noncomputable def T_63_74_1_0 : PS := ⟨89, [(0, .yl 4 63 (.kc (.pair .junk (.pair .junk (.pair .junk (.pair .junk (.pair .junk (.pair .junk (.pair (.ptr 2 []) (.pair .junk (.pair .junk (.pair .junk (.pair .junk (.pair .junk (.pair .junk (.pair .junk (.pair .junk (.pair .junk (.pair .junk (.pair .junk (.pair .junk (.pair .junk (.pair .junk (.pair .junk (.pair .junk (.pair .junk (.pair .junk (.pair .junk (.pair .junk (.pair .junk (.pair .junk (.pair .junk (.pair .junk (.pair .junk (.pair .junk (.pair .junk (.pair .junk (.pair .junk (.pair .junk (.pair .junk (.pair .junk (.pair .junk (.pair .junk (.pair .junk (.pair .junk (.pure .unit PUnit.unit)))))))))))))))))))))))))))))))))))))))))))))), (1, .kc (.ptr 3 [])), (3, .hv (.int .i64)), (6, .hv (.int .i64)), (7, .kc (.ptr 5 []))], [.mem (.hv Zy63_4), .mem (.pr (.kc (.nil 99 Zy63_3)) (.hv Zy63_5)), .mem (.pr (.kc (.nil 99 Zy63_3)) (.hv Zy63_5)), .mem (.hv (.slice (.int .u32))), .gh 0, .mem (.hv Zy63_3)], 5⟩
inductive Sp.E_63_74_1_0 where
 | e0 (p0 p1 : Int) (p6 : Zt63_6) (y15 : Zt63_0) (y16 y17 : Zt63_1) (y18 : List Int) (y19 : Zt63_6)
 | e1 (p0 p1 : Int) (p2 : Zt63_0) (p3 p4 : Zt63_1) (p5 : List Int) (p6 : Zt63_6)
noncomputable def Sp.B_63_74_1_0 {R : Type} (r : Option E_63_74_1_0) (k0 : Int → Int → Zt63_6 → Zt63_0 → Zt63_1 → Zt63_1 → List Int → Zt63_6 → Option R) (k1 : Int → Int → Zt63_0 → Zt63_1 → Zt63_1 → List Int → Zt63_6 → Option R) : Option R := match r with
 | none => none
 | some (.e0 p0 p1 p6 y15 y16 y17 y18 y19) => k0 p0 p1 p6 y15 y16 y17 y18 y19
 | some (.e1 p0 p1 p2 p3 p4 p5 p6) => k1 p0 p1 p2 p3 p4 p5 p6
theorem Bn_63_74_1_0 {A R : Type} {r : Option E_63_74_1_0} {f : A → Option R} {k0 : Int → Int → Zt63_6 → Zt63_0 → Zt63_1 → Zt63_1 → List Int → Zt63_6 → Option A} {k1 : Int → Int → Zt63_0 → Zt63_1 → Zt63_1 → List Int → Zt63_6 → Option A} {l0 : Int → Int → Zt63_6 → Zt63_0 → Zt63_1 → Zt63_1 → List Int → Zt63_6 → Option R} {l1 : Int → Int → Zt63_0 → Zt63_1 → Zt63_1 → List Int → Zt63_6 → Option R} (h0 : ∀ p0 p1 p6 y15 y16 y17 y18 y19, (k0 p0 p1 p6 y15 y16 y17 y18 y19).bind f = l0 p0 p1 p6 y15 y16 y17 y18 y19) (h1 : ∀ p0 p1 p2 p3 p4 p5 p6, (k1 p0 p1 p2 p3 p4 p5 p6).bind f = l1 p0 p1 p2 p3 p4 p5 p6) : (B_63_74_1_0 r k0 k1).bind f = B_63_74_1_0 r l0 l1 := by
 cases r with
 | none => rfl
 | some e => cases e <;> first | apply h0 | apply h1
noncomputable def Y_63_74_1_0 {R : Type} (k : Ex → St → Option R) : E_63_74_1_0 → Option R
 | .e0 p0 p1 p6 y15 y16 y17 y18 y19 => k Ex.normal (sx 89 [(0, CV.yld 4 63 (CV.pair CV.junk (CV.pair CV.junk (CV.pair CV.junk (CV.pair CV.junk (CV.pair CV.junk (CV.pair CV.junk (CV.pair (CV.ptr 2 []) (CV.pair CV.junk (CV.pair CV.junk (CV.pair CV.junk (CV.pair CV.junk (CV.pair CV.junk (CV.pair CV.junk (CV.pair CV.junk (CV.pair CV.junk (CV.pair CV.junk (CV.pair CV.junk (CV.pair CV.junk (CV.pair CV.junk (CV.pair CV.junk (CV.pair CV.junk (CV.pair CV.junk (CV.pair CV.junk (CV.pair CV.junk (CV.pair CV.junk (CV.pair CV.junk (CV.pair CV.junk (CV.pair CV.junk (CV.pair CV.junk (CV.pair CV.junk (CV.pair CV.junk (CV.pair CV.junk (CV.pair CV.junk (CV.pair CV.junk (CV.pair CV.junk (CV.pair CV.junk (CV.pair CV.junk (CV.pair CV.junk (CV.pair CV.junk (CV.pair CV.junk (CV.pair CV.junk (CV.pair CV.junk (CV.pair CV.junk (CV.pure Ty.unit PUnit.unit))))))))))))))))))))))))))))))))))))))))))))), (1, CV.ptr 3 []), (3, CV.int i64 (wrap i64 (p0 + wrap i64 (p1 + 2)))), (6, CV.int i64 p1), (7, CV.ptr 5 []), (80, CV.int i64 p0), (81, CV.int i64 p1), (82, CV.int i64 (wrap i64 (p1 + 2))), (83, CV.int i64 (wrap i64 (p0 + wrap i64 (p1 + 2)))), (84, CV.yld 4 63 (CV.pair CV.junk (CV.pair CV.junk (CV.pair CV.junk (CV.pair CV.junk (CV.pair CV.junk (CV.pair CV.junk (CV.pair (CV.ptr 2 []) (CV.pair CV.junk (CV.pair CV.junk (CV.pair CV.junk (CV.pair CV.junk (CV.pair CV.junk (CV.pair CV.junk (CV.pair CV.junk (CV.pair CV.junk (CV.pair CV.junk (CV.pair CV.junk (CV.pair CV.junk (CV.pair CV.junk (CV.pair CV.junk (CV.pair CV.junk (CV.pair CV.junk (CV.pair CV.junk (CV.pair CV.junk (CV.pair CV.junk (CV.pair CV.junk (CV.pair CV.junk (CV.pair CV.junk (CV.pair CV.junk (CV.pair CV.junk (CV.pair CV.junk (CV.pair CV.junk (CV.pair CV.junk (CV.pair CV.junk (CV.pair CV.junk (CV.pair CV.junk (CV.pair CV.junk (CV.pair CV.junk (CV.pair CV.junk (CV.pair CV.junk (CV.pair CV.junk (CV.pair CV.junk (CV.pair CV.junk (CV.pure Ty.unit PUnit.unit))))))))))))))))))))))))))))))))))))))))))))), (85, CV.int i64 (wrap i64 (p0 + wrap i64 (p1 + 2)))), (86, CV.pure (Ty.pair (Ty.int i64) (Ty.pair (Ty.slice (Ty.int u32)) Ty.unit)) p6), (87, CV.bool true), (88, CV.bool false)] [Blk.mem (CV.pure (Ty.pair (Ty.pair (Ty.slice (Ty.int u32)) (Ty.pair (Ty.slice (Ty.int i64)) (Ty.pair (Ty.int i64) Ty.unit))) (Ty.pair (Ty.int i64) (Ty.pair (Ty.int i64) Ty.unit))) y15), Blk.mem (CV.pair (CV.nil 99 (Ty.pair (Ty.int i64) (Ty.pair (Ty.slice (Ty.int u32)) Ty.unit))) (CV.pure (Ty.pair (Ty.int i64) (Ty.pair (Ty.int i64) Ty.unit)) y16)), Blk.mem (CV.pair (CV.whole 6) (CV.pure (Ty.pair (Ty.int i64) (Ty.pair (Ty.int i64) Ty.unit)) y17)), Blk.mem (CV.pure (Ty.slice (Ty.int u32)) y18), Blk.ghost 0, Blk.mem (CV.pure (Ty.pair (Ty.int i64) (Ty.pair (Ty.slice (Ty.int u32)) Ty.unit)) y19), Blk.vec 99 (Ty.pair (Ty.int i64) (Ty.pair (Ty.slice (Ty.int u32)) Ty.unit)) [(p6.1, p6.2.1, PUnit.unit)]] 5)
 | .e1 p0 p1 p2 p3 p4 p5 p6 => k Ex.normal (sx 89 [(0, CV.yld 4 63 (CV.pair CV.junk (CV.pair CV.junk (CV.pair CV.junk (CV.pair CV.junk (CV.pair CV.junk (CV.pair CV.junk (CV.pair (CV.ptr 2 []) (CV.pair CV.junk (CV.pair CV.junk (CV.pair CV.junk (CV.pair CV.junk (CV.pair CV.junk (CV.pair CV.junk (CV.pair CV.junk (CV.pair CV.junk (CV.pair CV.junk (CV.pair CV.junk (CV.pair CV.junk (CV.pair CV.junk (CV.pair CV.junk (CV.pair CV.junk (CV.pair CV.junk (CV.pair CV.junk (CV.pair CV.junk (CV.pair CV.junk (CV.pair CV.junk (CV.pair CV.junk (CV.pair CV.junk (CV.pair CV.junk (CV.pair CV.junk (CV.pair CV.junk (CV.pair CV.junk (CV.pair CV.junk (CV.pair CV.junk (CV.pair CV.junk (CV.pair CV.junk (CV.pair CV.junk (CV.pair CV.junk (CV.pair CV.junk (CV.pair CV.junk (CV.pair CV.junk (CV.pair CV.junk (CV.pair CV.junk (CV.pure Ty.unit PUnit.unit))))))))))))))))))))))))))))))))))))))))))))), (1, CV.ptr 3 []), (3, CV.int i64 (wrap i64 (p0 + wrap i64 (p1 + 2)))), (6, CV.int i64 p1), (7, CV.ptr 5 []), (80, CV.int i64 p0), (81, CV.int i64 p1), (82, CV.int i64 (wrap i64 (p1 + 2))), (83, CV.int i64 (wrap i64 (p0 + wrap i64 (p1 + 2)))), (84, CV.yld 4 63 (CV.pair CV.junk (CV.pair CV.junk (CV.pair CV.junk (CV.pair CV.junk (CV.pair CV.junk (CV.pair CV.junk (CV.pair (CV.ptr 2 []) (CV.pair CV.junk (CV.pair CV.junk (CV.pair CV.junk (CV.pair CV.junk (CV.pair CV.junk (CV.pair CV.junk (CV.pair CV.junk (CV.pair CV.junk (CV.pair CV.junk (CV.pair CV.junk (CV.pair CV.junk (CV.pair CV.junk (CV.pair CV.junk (CV.pair CV.junk (CV.pair CV.junk (CV.pair CV.junk (CV.pair CV.junk (CV.pair CV.junk (CV.pair CV.junk (CV.pair CV.junk (CV.pair CV.junk (CV.pair CV.junk (CV.pair CV.junk (CV.pair CV.junk (CV.pair CV.junk (CV.pair CV.junk (CV.pair CV.junk (CV.pair CV.junk (CV.pair CV.junk (CV.pair CV.junk (CV.pair CV.junk (CV.pair CV.junk (CV.pair CV.junk (CV.pair CV.junk (CV.pair CV.junk (CV.pair CV.junk (CV.pure Ty.unit PUnit.unit))))))))))))))))))))))))))))))))))))))))))))), (85, CV.int i64 (wrap i64 (p0 + wrap i64 (p1 + 2)))), (86, CV.pure (Ty.pair (Ty.int i64) (Ty.pair (Ty.slice (Ty.int u32)) Ty.unit)) p6), (87, CV.bool true), (88, CV.bool false)] [Blk.mem (CV.pure (Ty.pair (Ty.pair (Ty.slice (Ty.int u32)) (Ty.pair (Ty.slice (Ty.int i64)) (Ty.pair (Ty.int i64) Ty.unit))) (Ty.pair (Ty.int i64) (Ty.pair (Ty.int i64) Ty.unit))) p2), Blk.mem (CV.pair (CV.nil 99 (Ty.pair (Ty.int i64) (Ty.pair (Ty.slice (Ty.int u32)) Ty.unit))) (CV.pure (Ty.pair (Ty.int i64) (Ty.pair (Ty.int i64) Ty.unit)) p3)), Blk.mem (CV.pair (CV.nil 99 (Ty.pair (Ty.int i64) (Ty.pair (Ty.slice (Ty.int u32)) Ty.unit))) (CV.pure (Ty.pair (Ty.int i64) (Ty.pair (Ty.int i64) Ty.unit)) ((wrap i64 (p0 + wrap i64 (p1 + 2)), p4.2) : (Int × (Int × Unit))))), Blk.mem (CV.pure (Ty.slice (Ty.int u32)) p5), Blk.ghost 0, Blk.mem (CV.pure (Ty.pair (Ty.int i64) (Ty.pair (Ty.slice (Ty.int u32)) Ty.unit)) p6)] 5)
noncomputable def Sp.S_63_74_1_0 {R : Type} (k : E_63_74_1_0 → Option R) (p0 p1 : Int) (p2 : (List Int × List Int × Int × Unit) × Int × Int × Unit) (p3 p4 : Int × Int × Unit) (p5 : List Int) (p6 : Int × List Int × Unit) : Option R :=
 bif decide (p6.1 ≥ 0) then B_63_76_0_0 (L_63_76_0_0 4611686018427387904 (p6.1) 0 0 0 p2 p3 (wrap i64 (p0 + wrap i64 (p1 + 2)), p4.2) p5 p6 p6 []) fun y12 y13 y14 y15 y16 y17 y18 y19 y20 y21 => bif decide (y14 < y13) then gd (inB y14 (length y21)) (gd (decide (toNat y14 < length y21) && true) (gd (room (length (p6.2.1)) 4) (bif wrap i64 ((getD y21 (toNat y14) Zd3).1 - y12) == 0 then none else gd (decide (y14 = 0) && true) (k (E_63_74_1_0.e0 p0 p1 p6 y15 y16 y17 y18 y19))))) else gd (room (length (p6.2.1)) 4) (gd (decide (y14 = 0) && true) (k (E_63_74_1_0.e0 p0 p1 p6 y15 y16 y17 y18 y19))) else k (E_63_74_1_0.e1 p0 p1 p2 p3 p4 p5 p6)
noncomputable def Sp.J_63_74_1_0 (p0 p1 : Int) (p2 : (List Int × List Int × Int × Unit) × Int × Int × Unit) (p3 p4 : Int × Int × Unit) (p5 : List Int) (p6 : Int × List Int × Unit) : Option E_63_74_1_0 := S_63_74_1_0 some p0 p1 p2 p3 p4 p5 p6
noncomputable def O_63_74_1_0 {R : Type} : Orc R := orL T_63_74_1_0 (fun a => J_63_74_1_0 a.1 a.2.1 a.2.2.1 a.2.2.2.1 a.2.2.2.2.1 a.2.2.2.2.2.1 a.2.2.2.2.2.2.1) Y_63_74_1_0
theorem OK_63_74_1_0 {R : Type} : okF (R := R) sm_63 5 (ni (nf 74 0) 0) O_63_74_1_0 := jp ov_63_74_ok (os := []) trivial T_63_74_1_0 (fun R k a => S_63_74_1_0 k a.1 a.2.1 a.2.2.1 a.2.2.2.1 a.2.2.2.2.1 a.2.2.2.2.2.1 a.2.2.2.2.2.2.1) Y_63_74_1_0 (fun k a => by kernel_rfl) (fun Y a => by
 unfold S_63_74_1_0
 repeat' first | apply gdN | apply condN | (apply Bn_63_76_0_0 <;> intros) | rfl) (ok0 _)
noncomputable def T_63_74_1_1 : PS := ⟨89, [(0, .yl 4 63 (.kc (.pair .junk (.pair .junk (.pair .junk (.pair .junk (.pair .junk (.pair .junk (.pair (.ptr 2 []) (.pair .junk (.pair .junk (.pair .junk (.pair .junk (.pair .junk (.pair .junk (.pair .junk (.pair .junk (.pair .junk (.pair .junk (.pair .junk (.pair .junk (.pair .junk (.pair .junk (.pair .junk (.pair .junk (.pair .junk (.pair .junk (.pair .junk (.pair .junk (.pair .junk (.pair .junk (.pair .junk (.pair .junk (.pair .junk (.pair .junk (.pair .junk (.pair .junk (.pair .junk (.pair .junk (.pair .junk (.pair .junk (.pair .junk (.pair .junk (.pair .junk (.pair .junk (.pure .unit PUnit.unit)))))))))))))))))))))))))))))))))))))))))))))), (1, .kc (.ptr 3 [])), (3, .hv (.int .i64)), (6, .hv (.int .i64)), (7, .kc (.ptr 5 []))], [.mem (.hv Zy63_4), .mem (.pr (.kc (.nil 99 Zy63_3)) (.hv Zy63_5)), .mem (.pr (.kc (.nil 99 Zy63_3)) (.hv Zy63_5)), .mem (.hv (.slice (.int .u32))), .gh 0, .mem (.pr (.hv (.int .i64)) (.kc (.pair (.whole 6) (.pure .unit PUnit.unit)))), .vec 38 (.int .u32)], 5⟩
inductive Sp.E_63_74_1_1 where
 | e0 (p0 p1 p6 : Int) (y14 : Zt63_0) (y15 y16 : Zt63_1) (y17 : List Int) (y18 : Int) (y19 : List Int)
 | e1 (p0 p1 : Int) (p2 : Zt63_0) (p3 p4 : Zt63_1) (p5 : List Int) (p6 : Int) (p7 : List Int)
noncomputable def Sp.B_63_74_1_1 {R : Type} (r : Option E_63_74_1_1) (k0 : Int → Int → Int → Zt63_0 → Zt63_1 → Zt63_1 → List Int → Int → List Int → Option R) (k1 : Int → Int → Zt63_0 → Zt63_1 → Zt63_1 → List Int → Int → List Int → Option R) : Option R := match r with
 | none => none
 | some (.e0 p0 p1 p6 y14 y15 y16 y17 y18 y19) => k0 p0 p1 p6 y14 y15 y16 y17 y18 y19
 | some (.e1 p0 p1 p2 p3 p4 p5 p6 p7) => k1 p0 p1 p2 p3 p4 p5 p6 p7
theorem Bn_63_74_1_1 {A R : Type} {r : Option E_63_74_1_1} {f : A → Option R} {k0 : Int → Int → Int → Zt63_0 → Zt63_1 → Zt63_1 → List Int → Int → List Int → Option A} {k1 : Int → Int → Zt63_0 → Zt63_1 → Zt63_1 → List Int → Int → List Int → Option A} {l0 : Int → Int → Int → Zt63_0 → Zt63_1 → Zt63_1 → List Int → Int → List Int → Option R} {l1 : Int → Int → Zt63_0 → Zt63_1 → Zt63_1 → List Int → Int → List Int → Option R} (h0 : ∀ p0 p1 p6 y14 y15 y16 y17 y18 y19, (k0 p0 p1 p6 y14 y15 y16 y17 y18 y19).bind f = l0 p0 p1 p6 y14 y15 y16 y17 y18 y19) (h1 : ∀ p0 p1 p2 p3 p4 p5 p6 p7, (k1 p0 p1 p2 p3 p4 p5 p6 p7).bind f = l1 p0 p1 p2 p3 p4 p5 p6 p7) : (B_63_74_1_1 r k0 k1).bind f = B_63_74_1_1 r l0 l1 := by
 cases r with
 | none => rfl
 | some e => cases e <;> first | apply h0 | apply h1
noncomputable def Y_63_74_1_1 {R : Type} (k : Ex → St → Option R) : E_63_74_1_1 → Option R
 | .e0 p0 p1 p6 y14 y15 y16 y17 y18 y19 => k Ex.normal (sx 89 [(0, CV.yld 4 63 (CV.pair CV.junk (CV.pair CV.junk (CV.pair CV.junk (CV.pair CV.junk (CV.pair CV.junk (CV.pair CV.junk (CV.pair (CV.ptr 2 []) (CV.pair CV.junk (CV.pair CV.junk (CV.pair CV.junk (CV.pair CV.junk (CV.pair CV.junk (CV.pair CV.junk (CV.pair CV.junk (CV.pair CV.junk (CV.pair CV.junk (CV.pair CV.junk (CV.pair CV.junk (CV.pair CV.junk (CV.pair CV.junk (CV.pair CV.junk (CV.pair CV.junk (CV.pair CV.junk (CV.pair CV.junk (CV.pair CV.junk (CV.pair CV.junk (CV.pair CV.junk (CV.pair CV.junk (CV.pair CV.junk (CV.pair CV.junk (CV.pair CV.junk (CV.pair CV.junk (CV.pair CV.junk (CV.pair CV.junk (CV.pair CV.junk (CV.pair CV.junk (CV.pair CV.junk (CV.pair CV.junk (CV.pair CV.junk (CV.pair CV.junk (CV.pair CV.junk (CV.pair CV.junk (CV.pair CV.junk (CV.pure Ty.unit PUnit.unit))))))))))))))))))))))))))))))))))))))))))))), (1, CV.ptr 3 []), (3, CV.int i64 (wrap i64 (p0 + wrap i64 (p1 + 2)))), (6, CV.int i64 p1), (7, CV.ptr 5 []), (80, CV.int i64 p0), (81, CV.int i64 p1), (82, CV.int i64 (wrap i64 (p1 + 2))), (83, CV.int i64 (wrap i64 (p0 + wrap i64 (p1 + 2)))), (84, CV.yld 4 63 (CV.pair CV.junk (CV.pair CV.junk (CV.pair CV.junk (CV.pair CV.junk (CV.pair CV.junk (CV.pair CV.junk (CV.pair (CV.ptr 2 []) (CV.pair CV.junk (CV.pair CV.junk (CV.pair CV.junk (CV.pair CV.junk (CV.pair CV.junk (CV.pair CV.junk (CV.pair CV.junk (CV.pair CV.junk (CV.pair CV.junk (CV.pair CV.junk (CV.pair CV.junk (CV.pair CV.junk (CV.pair CV.junk (CV.pair CV.junk (CV.pair CV.junk (CV.pair CV.junk (CV.pair CV.junk (CV.pair CV.junk (CV.pair CV.junk (CV.pair CV.junk (CV.pair CV.junk (CV.pair CV.junk (CV.pair CV.junk (CV.pair CV.junk (CV.pair CV.junk (CV.pair CV.junk (CV.pair CV.junk (CV.pair CV.junk (CV.pair CV.junk (CV.pair CV.junk (CV.pair CV.junk (CV.pair CV.junk (CV.pair CV.junk (CV.pair CV.junk (CV.pair CV.junk (CV.pair CV.junk (CV.pure Ty.unit PUnit.unit))))))))))))))))))))))))))))))))))))))))))))), (85, CV.int i64 (wrap i64 (p0 + wrap i64 (p1 + 2)))), (86, CV.pair (CV.int i64 p6) (CV.pair (CV.whole 6) (CV.pure Ty.unit PUnit.unit))), (87, CV.bool true), (88, CV.bool false)] [Blk.mem (CV.pure (Ty.pair (Ty.pair (Ty.slice (Ty.int u32)) (Ty.pair (Ty.slice (Ty.int i64)) (Ty.pair (Ty.int i64) Ty.unit))) (Ty.pair (Ty.int i64) (Ty.pair (Ty.int i64) Ty.unit))) y14), Blk.mem (CV.pair (CV.nil 99 (Ty.pair (Ty.int i64) (Ty.pair (Ty.slice (Ty.int u32)) Ty.unit))) (CV.pure (Ty.pair (Ty.int i64) (Ty.pair (Ty.int i64) Ty.unit)) y15)), Blk.mem (CV.pair (CV.whole 7) (CV.pure (Ty.pair (Ty.int i64) (Ty.pair (Ty.int i64) Ty.unit)) y16)), Blk.mem (CV.pure (Ty.slice (Ty.int u32)) y17), Blk.ghost 0, Blk.mem (CV.pair (CV.int i64 y18) (CV.pair (CV.whole 6) (CV.pure Ty.unit PUnit.unit))), Blk.vec 38 (Ty.int u32) y19, Blk.vec 99 (Ty.pair (Ty.int i64) (Ty.pair (Ty.slice (Ty.int u32)) Ty.unit)) [(p6, y19, PUnit.unit)]] 5)
 | .e1 p0 p1 p2 p3 p4 p5 p6 p7 => k Ex.normal (sx 89 [(0, CV.yld 4 63 (CV.pair CV.junk (CV.pair CV.junk (CV.pair CV.junk (CV.pair CV.junk (CV.pair CV.junk (CV.pair CV.junk (CV.pair (CV.ptr 2 []) (CV.pair CV.junk (CV.pair CV.junk (CV.pair CV.junk (CV.pair CV.junk (CV.pair CV.junk (CV.pair CV.junk (CV.pair CV.junk (CV.pair CV.junk (CV.pair CV.junk (CV.pair CV.junk (CV.pair CV.junk (CV.pair CV.junk (CV.pair CV.junk (CV.pair CV.junk (CV.pair CV.junk (CV.pair CV.junk (CV.pair CV.junk (CV.pair CV.junk (CV.pair CV.junk (CV.pair CV.junk (CV.pair CV.junk (CV.pair CV.junk (CV.pair CV.junk (CV.pair CV.junk (CV.pair CV.junk (CV.pair CV.junk (CV.pair CV.junk (CV.pair CV.junk (CV.pair CV.junk (CV.pair CV.junk (CV.pair CV.junk (CV.pair CV.junk (CV.pair CV.junk (CV.pair CV.junk (CV.pair CV.junk (CV.pair CV.junk (CV.pure Ty.unit PUnit.unit))))))))))))))))))))))))))))))))))))))))))))), (1, CV.ptr 3 []), (3, CV.int i64 (wrap i64 (p0 + wrap i64 (p1 + 2)))), (6, CV.int i64 p1), (7, CV.ptr 5 []), (80, CV.int i64 p0), (81, CV.int i64 p1), (82, CV.int i64 (wrap i64 (p1 + 2))), (83, CV.int i64 (wrap i64 (p0 + wrap i64 (p1 + 2)))), (84, CV.yld 4 63 (CV.pair CV.junk (CV.pair CV.junk (CV.pair CV.junk (CV.pair CV.junk (CV.pair CV.junk (CV.pair CV.junk (CV.pair (CV.ptr 2 []) (CV.pair CV.junk (CV.pair CV.junk (CV.pair CV.junk (CV.pair CV.junk (CV.pair CV.junk (CV.pair CV.junk (CV.pair CV.junk (CV.pair CV.junk (CV.pair CV.junk (CV.pair CV.junk (CV.pair CV.junk (CV.pair CV.junk (CV.pair CV.junk (CV.pair CV.junk (CV.pair CV.junk (CV.pair CV.junk (CV.pair CV.junk (CV.pair CV.junk (CV.pair CV.junk (CV.pair CV.junk (CV.pair CV.junk (CV.pair CV.junk (CV.pair CV.junk (CV.pair CV.junk (CV.pair CV.junk (CV.pair CV.junk (CV.pair CV.junk (CV.pair CV.junk (CV.pair CV.junk (CV.pair CV.junk (CV.pair CV.junk (CV.pair CV.junk (CV.pair CV.junk (CV.pair CV.junk (CV.pair CV.junk (CV.pair CV.junk (CV.pure Ty.unit PUnit.unit))))))))))))))))))))))))))))))))))))))))))))), (85, CV.int i64 (wrap i64 (p0 + wrap i64 (p1 + 2)))), (86, CV.pair (CV.int i64 p6) (CV.pair (CV.whole 6) (CV.pure Ty.unit PUnit.unit))), (87, CV.bool true), (88, CV.bool false)] [Blk.mem (CV.pure (Ty.pair (Ty.pair (Ty.slice (Ty.int u32)) (Ty.pair (Ty.slice (Ty.int i64)) (Ty.pair (Ty.int i64) Ty.unit))) (Ty.pair (Ty.int i64) (Ty.pair (Ty.int i64) Ty.unit))) p2), Blk.mem (CV.pair (CV.nil 99 (Ty.pair (Ty.int i64) (Ty.pair (Ty.slice (Ty.int u32)) Ty.unit))) (CV.pure (Ty.pair (Ty.int i64) (Ty.pair (Ty.int i64) Ty.unit)) p3)), Blk.mem (CV.pair (CV.nil 99 (Ty.pair (Ty.int i64) (Ty.pair (Ty.slice (Ty.int u32)) Ty.unit))) (CV.pure (Ty.pair (Ty.int i64) (Ty.pair (Ty.int i64) Ty.unit)) ((wrap i64 (p0 + wrap i64 (p1 + 2)), p4.2) : (Int × (Int × Unit))))), Blk.mem (CV.pure (Ty.slice (Ty.int u32)) p5), Blk.ghost 0, Blk.mem (CV.pair (CV.int i64 p6) (CV.pair (CV.whole 6) (CV.pure Ty.unit PUnit.unit))), Blk.vec 38 (Ty.int u32) p7] 5)
noncomputable def Sp.S_63_74_1_1 {R : Type} (k : E_63_74_1_1 → Option R) (p0 p1 : Int) (p2 : (List Int × List Int × Int × Unit) × Int × Int × Unit) (p3 p4 : Int × Int × Unit) (p5 : List Int) (p6 : Int) (p7 : List Int) : Option R :=
 bif decide (p6 ≥ 0) then B_63_76_0_1 (L_63_76_0_1 4611686018427387904 p6 0 0 0 p2 p3 (wrap i64 (p0 + wrap i64 (p1 + 2)), p4.2) p5 p6 p7 p6 []) fun y11 y12 y13 y14 y15 y16 y17 y18 y19 y20 y21 => bif decide (y13 < y12) then gd (inB y13 (length y21)) (gd (decide (toNat y13 < length y21) && true) (gd (room (length y19) 4) (bif wrap i64 ((getD y21 (toNat y13) Zd3).1 - y11) == 0 then none else gd (decide (y13 = 0) && true) (k (E_63_74_1_1.e0 p0 p1 p6 y14 y15 y16 y17 y18 y19))))) else gd (room (length y19) 4) (gd (decide (y13 = 0) && true) (k (E_63_74_1_1.e0 p0 p1 p6 y14 y15 y16 y17 y18 y19))) else k (E_63_74_1_1.e1 p0 p1 p2 p3 p4 p5 p6 p7)
noncomputable def Sp.J_63_74_1_1 (p0 p1 : Int) (p2 : (List Int × List Int × Int × Unit) × Int × Int × Unit) (p3 p4 : Int × Int × Unit) (p5 : List Int) (p6 : Int) (p7 : List Int) : Option E_63_74_1_1 := S_63_74_1_1 some p0 p1 p2 p3 p4 p5 p6 p7
noncomputable def O_63_74_1_1 {R : Type} : Orc R := orL T_63_74_1_1 (fun a => J_63_74_1_1 a.1 a.2.1 a.2.2.1 a.2.2.2.1 a.2.2.2.2.1 a.2.2.2.2.2.1 a.2.2.2.2.2.2.1 a.2.2.2.2.2.2.2.1) Y_63_74_1_1 O_63_74_1_0
theorem OK_63_74_1_1 {R : Type} : okF (R := R) sm_63 5 (ni (nf 74 0) 0) O_63_74_1_1 := jp ov_63_74_ok (os := []) trivial T_63_74_1_1 (fun R k a => S_63_74_1_1 k a.1 a.2.1 a.2.2.1 a.2.2.2.1 a.2.2.2.2.1 a.2.2.2.2.2.1 a.2.2.2.2.2.2.1 a.2.2.2.2.2.2.2.1) Y_63_74_1_1 (fun k a => by kernel_rfl) (fun Y a => by
 unfold S_63_74_1_1
 repeat' first | apply gdN | apply condN | (apply Bn_63_76_0_1 <;> intros) | rfl) OK_63_74_1_0
noncomputable def T_63_74_1_2 : PS := ⟨89, [(0, .yl 4 63 (.kc (.pair .junk (.pair .junk (.pair .junk (.pair .junk (.pair .junk (.pair .junk (.pair (.ptr 2 []) (.pair .junk (.pair .junk (.pair .junk (.pair .junk (.pair .junk (.pair .junk (.pair .junk (.pair .junk (.pair .junk (.pair .junk (.pair .junk (.pair .junk (.pair .junk (.pair .junk (.pair .junk (.pair .junk (.pair .junk (.pair .junk (.pair .junk (.pair .junk (.pair .junk (.pair .junk (.pair .junk (.pair .junk (.pair .junk (.pair .junk (.pair .junk (.pair .junk (.pair .junk (.pair .junk (.pair .junk (.pair .junk (.pair .junk (.pair .junk (.pair .junk (.pair .junk (.pure .unit PUnit.unit)))))))))))))))))))))))))))))))))))))))))))))), (1, .kc (.ptr 3 [])), (3, .hv (.int .i64)), (6, .hv (.int .i64)), (7, .kc (.ptr 5 []))], [.mem (.hv Zy63_4), .mem (.pr (.kc (.nil 99 Zy63_3)) (.hv Zy63_5)), .mem (.pr (.kc (.whole 6)) (.hv Zy63_5)), .mem (.hv (.slice (.int .u32))), .gh 0, .mem (.hv Zy63_3), .vec 99 Zy63_3], 5⟩
inductive Sp.E_63_74_1_2 where
 | e0 (p0 p1 : Int) (p6 : Zt63_6) (y14 : Int) (y15 : Zt63_0) (y16 y17 : Zt63_1) (y18 : List Int) (y19 : Zt63_6) (y20 : Zt63_2)
 | e1 (p0 p1 : Int) (p6 : Zt63_6) (y14 : Int) (y15 : Zt63_0) (y16 y17 : Zt63_1) (y18 : List Int) (y19 : Zt63_6) (y20 : Zt63_2)
 | e2 (p0 p1 : Int) (p2 : Zt63_0) (p3 p4 : Zt63_1) (p5 : List Int) (p6 : Zt63_6) (p7 : Zt63_2)
noncomputable def Sp.B_63_74_1_2 {R : Type} (r : Option E_63_74_1_2) (k0 k1 : Int → Int → Zt63_6 → Int → Zt63_0 → Zt63_1 → Zt63_1 → List Int → Zt63_6 → Zt63_2 → Option R) (k2 : Int → Int → Zt63_0 → Zt63_1 → Zt63_1 → List Int → Zt63_6 → Zt63_2 → Option R) : Option R := match r with
 | none => none
 | some (.e0 p0 p1 p6 y14 y15 y16 y17 y18 y19 y20) => k0 p0 p1 p6 y14 y15 y16 y17 y18 y19 y20
 | some (.e1 p0 p1 p6 y14 y15 y16 y17 y18 y19 y20) => k1 p0 p1 p6 y14 y15 y16 y17 y18 y19 y20
 | some (.e2 p0 p1 p2 p3 p4 p5 p6 p7) => k2 p0 p1 p2 p3 p4 p5 p6 p7
theorem Bn_63_74_1_2 {A R : Type} {r : Option E_63_74_1_2} {f : A → Option R} {k0 : Int → Int → Zt63_6 → Int → Zt63_0 → Zt63_1 → Zt63_1 → List Int → Zt63_6 → Zt63_2 → Option A} {k1 : Int → Int → Zt63_6 → Int → Zt63_0 → Zt63_1 → Zt63_1 → List Int → Zt63_6 → Zt63_2 → Option A} {k2 : Int → Int → Zt63_0 → Zt63_1 → Zt63_1 → List Int → Zt63_6 → Zt63_2 → Option A} {l0 : Int → Int → Zt63_6 → Int → Zt63_0 → Zt63_1 → Zt63_1 → List Int → Zt63_6 → Zt63_2 → Option R} {l1 : Int → Int → Zt63_6 → Int → Zt63_0 → Zt63_1 → Zt63_1 → List Int → Zt63_6 → Zt63_2 → Option R} {l2 : Int → Int → Zt63_0 → Zt63_1 → Zt63_1 → List Int → Zt63_6 → Zt63_2 → Option R} (h0 : ∀ p0 p1 p6 y14 y15 y16 y17 y18 y19 y20, (k0 p0 p1 p6 y14 y15 y16 y17 y18 y19 y20).bind f = l0 p0 p1 p6 y14 y15 y16 y17 y18 y19 y20) (h1 : ∀ p0 p1 p6 y14 y15 y16 y17 y18 y19 y20, (k1 p0 p1 p6 y14 y15 y16 y17 y18 y19 y20).bind f = l1 p0 p1 p6 y14 y15 y16 y17 y18 y19 y20) (h2 : ∀ p0 p1 p2 p3 p4 p5 p6 p7, (k2 p0 p1 p2 p3 p4 p5 p6 p7).bind f = l2 p0 p1 p2 p3 p4 p5 p6 p7) : (B_63_74_1_2 r k0 k1 k2).bind f = B_63_74_1_2 r l0 l1 l2 := by
 cases r with
 | none => rfl
 | some e => cases e <;> first | apply h0 | apply h1 | apply h2
noncomputable def Y_63_74_1_2 {R : Type} (k : Ex → St → Option R) : E_63_74_1_2 → Option R
 | .e0 p0 p1 p6 y14 y15 y16 y17 y18 y19 y20 => k Ex.normal (sx 89 [(0, CV.yld 4 63 (CV.pair CV.junk (CV.pair CV.junk (CV.pair CV.junk (CV.pair CV.junk (CV.pair CV.junk (CV.pair CV.junk (CV.pair (CV.ptr 2 []) (CV.pair CV.junk (CV.pair CV.junk (CV.pair CV.junk (CV.pair CV.junk (CV.pair CV.junk (CV.pair CV.junk (CV.pair CV.junk (CV.pair CV.junk (CV.pair CV.junk (CV.pair CV.junk (CV.pair CV.junk (CV.pair CV.junk (CV.pair CV.junk (CV.pair CV.junk (CV.pair CV.junk (CV.pair CV.junk (CV.pair CV.junk (CV.pair CV.junk (CV.pair CV.junk (CV.pair CV.junk (CV.pair CV.junk (CV.pair CV.junk (CV.pair CV.junk (CV.pair CV.junk (CV.pair CV.junk (CV.pair CV.junk (CV.pair CV.junk (CV.pair CV.junk (CV.pair CV.junk (CV.pair CV.junk (CV.pair CV.junk (CV.pair CV.junk (CV.pair CV.junk (CV.pair CV.junk (CV.pair CV.junk (CV.pair CV.junk (CV.pure Ty.unit PUnit.unit))))))))))))))))))))))))))))))))))))))))))))), (1, CV.ptr 3 []), (3, CV.int i64 (wrap i64 (p0 + wrap i64 (p1 + 2)))), (6, CV.int i64 p1), (7, CV.ptr 5 []), (80, CV.int i64 p0), (81, CV.int i64 p1), (82, CV.int i64 (wrap i64 (p1 + 2))), (83, CV.int i64 (wrap i64 (p0 + wrap i64 (p1 + 2)))), (84, CV.yld 4 63 (CV.pair CV.junk (CV.pair CV.junk (CV.pair CV.junk (CV.pair CV.junk (CV.pair CV.junk (CV.pair CV.junk (CV.pair (CV.ptr 2 []) (CV.pair CV.junk (CV.pair CV.junk (CV.pair CV.junk (CV.pair CV.junk (CV.pair CV.junk (CV.pair CV.junk (CV.pair CV.junk (CV.pair CV.junk (CV.pair CV.junk (CV.pair CV.junk (CV.pair CV.junk (CV.pair CV.junk (CV.pair CV.junk (CV.pair CV.junk (CV.pair CV.junk (CV.pair CV.junk (CV.pair CV.junk (CV.pair CV.junk (CV.pair CV.junk (CV.pair CV.junk (CV.pair CV.junk (CV.pair CV.junk (CV.pair CV.junk (CV.pair CV.junk (CV.pair CV.junk (CV.pair CV.junk (CV.pair CV.junk (CV.pair CV.junk (CV.pair CV.junk (CV.pair CV.junk (CV.pair CV.junk (CV.pair CV.junk (CV.pair CV.junk (CV.pair CV.junk (CV.pair CV.junk (CV.pair CV.junk (CV.pure Ty.unit PUnit.unit))))))))))))))))))))))))))))))))))))))))))))), (85, CV.int i64 (wrap i64 (p0 + wrap i64 (p1 + 2)))), (86, CV.pure (Ty.pair (Ty.int i64) (Ty.pair (Ty.slice (Ty.int u32)) Ty.unit)) p6), (87, CV.bool true), (88, CV.bool false)] [Blk.mem (CV.pure (Ty.pair (Ty.pair (Ty.slice (Ty.int u32)) (Ty.pair (Ty.slice (Ty.int i64)) (Ty.pair (Ty.int i64) Ty.unit))) (Ty.pair (Ty.int i64) (Ty.pair (Ty.int i64) Ty.unit))) y15), Blk.mem (CV.pair (CV.nil 99 (Ty.pair (Ty.int i64) (Ty.pair (Ty.slice (Ty.int u32)) Ty.unit))) (CV.pure (Ty.pair (Ty.int i64) (Ty.pair (Ty.int i64) Ty.unit)) y16)), Blk.mem (CV.pair (CV.whole 6) (CV.pure (Ty.pair (Ty.int i64) (Ty.pair (Ty.int i64) Ty.unit)) y17)), Blk.mem (CV.pure (Ty.slice (Ty.int u32)) y18), Blk.ghost 0, Blk.mem (CV.pure (Ty.pair (Ty.int i64) (Ty.pair (Ty.slice (Ty.int u32)) Ty.unit)) y19), Blk.vec 99 (Ty.pair (Ty.int i64) (Ty.pair (Ty.slice (Ty.int u32)) Ty.unit)) ((List.set y20 (toNat y14) (p6.1, p6.2.1, PUnit.unit)) : Zt63_8)] 5)
 | .e1 p0 p1 p6 y14 y15 y16 y17 y18 y19 y20 => k Ex.normal (sx 89 [(0, CV.yld 4 63 (CV.pair CV.junk (CV.pair CV.junk (CV.pair CV.junk (CV.pair CV.junk (CV.pair CV.junk (CV.pair CV.junk (CV.pair (CV.ptr 2 []) (CV.pair CV.junk (CV.pair CV.junk (CV.pair CV.junk (CV.pair CV.junk (CV.pair CV.junk (CV.pair CV.junk (CV.pair CV.junk (CV.pair CV.junk (CV.pair CV.junk (CV.pair CV.junk (CV.pair CV.junk (CV.pair CV.junk (CV.pair CV.junk (CV.pair CV.junk (CV.pair CV.junk (CV.pair CV.junk (CV.pair CV.junk (CV.pair CV.junk (CV.pair CV.junk (CV.pair CV.junk (CV.pair CV.junk (CV.pair CV.junk (CV.pair CV.junk (CV.pair CV.junk (CV.pair CV.junk (CV.pair CV.junk (CV.pair CV.junk (CV.pair CV.junk (CV.pair CV.junk (CV.pair CV.junk (CV.pair CV.junk (CV.pair CV.junk (CV.pair CV.junk (CV.pair CV.junk (CV.pair CV.junk (CV.pair CV.junk (CV.pure Ty.unit PUnit.unit))))))))))))))))))))))))))))))))))))))))))))), (1, CV.ptr 3 []), (3, CV.int i64 (wrap i64 (p0 + wrap i64 (p1 + 2)))), (6, CV.int i64 p1), (7, CV.ptr 5 []), (80, CV.int i64 p0), (81, CV.int i64 p1), (82, CV.int i64 (wrap i64 (p1 + 2))), (83, CV.int i64 (wrap i64 (p0 + wrap i64 (p1 + 2)))), (84, CV.yld 4 63 (CV.pair CV.junk (CV.pair CV.junk (CV.pair CV.junk (CV.pair CV.junk (CV.pair CV.junk (CV.pair CV.junk (CV.pair (CV.ptr 2 []) (CV.pair CV.junk (CV.pair CV.junk (CV.pair CV.junk (CV.pair CV.junk (CV.pair CV.junk (CV.pair CV.junk (CV.pair CV.junk (CV.pair CV.junk (CV.pair CV.junk (CV.pair CV.junk (CV.pair CV.junk (CV.pair CV.junk (CV.pair CV.junk (CV.pair CV.junk (CV.pair CV.junk (CV.pair CV.junk (CV.pair CV.junk (CV.pair CV.junk (CV.pair CV.junk (CV.pair CV.junk (CV.pair CV.junk (CV.pair CV.junk (CV.pair CV.junk (CV.pair CV.junk (CV.pair CV.junk (CV.pair CV.junk (CV.pair CV.junk (CV.pair CV.junk (CV.pair CV.junk (CV.pair CV.junk (CV.pair CV.junk (CV.pair CV.junk (CV.pair CV.junk (CV.pair CV.junk (CV.pair CV.junk (CV.pair CV.junk (CV.pure Ty.unit PUnit.unit))))))))))))))))))))))))))))))))))))))))))))), (85, CV.int i64 (wrap i64 (p0 + wrap i64 (p1 + 2)))), (86, CV.pure (Ty.pair (Ty.int i64) (Ty.pair (Ty.slice (Ty.int u32)) Ty.unit)) p6), (87, CV.bool true), (88, CV.bool false)] [Blk.mem (CV.pure (Ty.pair (Ty.pair (Ty.slice (Ty.int u32)) (Ty.pair (Ty.slice (Ty.int i64)) (Ty.pair (Ty.int i64) Ty.unit))) (Ty.pair (Ty.int i64) (Ty.pair (Ty.int i64) Ty.unit))) y15), Blk.mem (CV.pair (CV.nil 99 (Ty.pair (Ty.int i64) (Ty.pair (Ty.slice (Ty.int u32)) Ty.unit))) (CV.pure (Ty.pair (Ty.int i64) (Ty.pair (Ty.int i64) Ty.unit)) y16)), Blk.mem (CV.pair (CV.whole 7) (CV.pure (Ty.pair (Ty.int i64) (Ty.pair (Ty.int i64) Ty.unit)) y17)), Blk.mem (CV.pure (Ty.slice (Ty.int u32)) y18), Blk.ghost 0, Blk.mem (CV.pure (Ty.pair (Ty.int i64) (Ty.pair (Ty.slice (Ty.int u32)) Ty.unit)) y19), Blk.dead, Blk.vec 99 (Ty.pair (Ty.int i64) (Ty.pair (Ty.slice (Ty.int u32)) Ty.unit)) ((take (toNat y14) y20 ++ ([(p6.1, p6.2.1, PUnit.unit)] ++ drop (toNat y14) y20)) : Zt63_8)] 5)
 | .e2 p0 p1 p2 p3 p4 p5 p6 p7 => k Ex.normal (sx 89 [(0, CV.yld 4 63 (CV.pair CV.junk (CV.pair CV.junk (CV.pair CV.junk (CV.pair CV.junk (CV.pair CV.junk (CV.pair CV.junk (CV.pair (CV.ptr 2 []) (CV.pair CV.junk (CV.pair CV.junk (CV.pair CV.junk (CV.pair CV.junk (CV.pair CV.junk (CV.pair CV.junk (CV.pair CV.junk (CV.pair CV.junk (CV.pair CV.junk (CV.pair CV.junk (CV.pair CV.junk (CV.pair CV.junk (CV.pair CV.junk (CV.pair CV.junk (CV.pair CV.junk (CV.pair CV.junk (CV.pair CV.junk (CV.pair CV.junk (CV.pair CV.junk (CV.pair CV.junk (CV.pair CV.junk (CV.pair CV.junk (CV.pair CV.junk (CV.pair CV.junk (CV.pair CV.junk (CV.pair CV.junk (CV.pair CV.junk (CV.pair CV.junk (CV.pair CV.junk (CV.pair CV.junk (CV.pair CV.junk (CV.pair CV.junk (CV.pair CV.junk (CV.pair CV.junk (CV.pair CV.junk (CV.pair CV.junk (CV.pure Ty.unit PUnit.unit))))))))))))))))))))))))))))))))))))))))))))), (1, CV.ptr 3 []), (3, CV.int i64 (wrap i64 (p0 + wrap i64 (p1 + 2)))), (6, CV.int i64 p1), (7, CV.ptr 5 []), (80, CV.int i64 p0), (81, CV.int i64 p1), (82, CV.int i64 (wrap i64 (p1 + 2))), (83, CV.int i64 (wrap i64 (p0 + wrap i64 (p1 + 2)))), (84, CV.yld 4 63 (CV.pair CV.junk (CV.pair CV.junk (CV.pair CV.junk (CV.pair CV.junk (CV.pair CV.junk (CV.pair CV.junk (CV.pair (CV.ptr 2 []) (CV.pair CV.junk (CV.pair CV.junk (CV.pair CV.junk (CV.pair CV.junk (CV.pair CV.junk (CV.pair CV.junk (CV.pair CV.junk (CV.pair CV.junk (CV.pair CV.junk (CV.pair CV.junk (CV.pair CV.junk (CV.pair CV.junk (CV.pair CV.junk (CV.pair CV.junk (CV.pair CV.junk (CV.pair CV.junk (CV.pair CV.junk (CV.pair CV.junk (CV.pair CV.junk (CV.pair CV.junk (CV.pair CV.junk (CV.pair CV.junk (CV.pair CV.junk (CV.pair CV.junk (CV.pair CV.junk (CV.pair CV.junk (CV.pair CV.junk (CV.pair CV.junk (CV.pair CV.junk (CV.pair CV.junk (CV.pair CV.junk (CV.pair CV.junk (CV.pair CV.junk (CV.pair CV.junk (CV.pair CV.junk (CV.pair CV.junk (CV.pure Ty.unit PUnit.unit))))))))))))))))))))))))))))))))))))))))))))), (85, CV.int i64 (wrap i64 (p0 + wrap i64 (p1 + 2)))), (86, CV.pure (Ty.pair (Ty.int i64) (Ty.pair (Ty.slice (Ty.int u32)) Ty.unit)) p6), (87, CV.bool true), (88, CV.bool false)] [Blk.mem (CV.pure (Ty.pair (Ty.pair (Ty.slice (Ty.int u32)) (Ty.pair (Ty.slice (Ty.int i64)) (Ty.pair (Ty.int i64) Ty.unit))) (Ty.pair (Ty.int i64) (Ty.pair (Ty.int i64) Ty.unit))) p2), Blk.mem (CV.pair (CV.nil 99 (Ty.pair (Ty.int i64) (Ty.pair (Ty.slice (Ty.int u32)) Ty.unit))) (CV.pure (Ty.pair (Ty.int i64) (Ty.pair (Ty.int i64) Ty.unit)) p3)), Blk.mem (CV.pair (CV.whole 6) (CV.pure (Ty.pair (Ty.int i64) (Ty.pair (Ty.int i64) Ty.unit)) ((wrap i64 (p0 + wrap i64 (p1 + 2)), p4.2) : (Int × (Int × Unit))))), Blk.mem (CV.pure (Ty.slice (Ty.int u32)) p5), Blk.ghost 0, Blk.mem (CV.pure (Ty.pair (Ty.int i64) (Ty.pair (Ty.slice (Ty.int u32)) Ty.unit)) p6), Blk.vec 99 (Ty.pair (Ty.int i64) (Ty.pair (Ty.slice (Ty.int u32)) Ty.unit)) p7] 5)
noncomputable def Sp.S_63_74_1_2 {R : Type} (k : E_63_74_1_2 → Option R) (p0 p1 : Int) (p2 : (List Int × List Int × Int × Unit) × Int × Int × Unit) (p3 p4 : Int × Int × Unit) (p5 : List Int) (p6 : Int × List Int × Unit) (p7 : List (Int × List Int × Unit)) : Option R :=
 bif decide (p6.1 ≥ 0) then B_63_76_0_2 (L_63_76_0_2 4611686018427387904 (p6.1) (↑(length p7) : Int) 0 (↑(length p7) : Int) p2 p3 (wrap i64 (p0 + wrap i64 (p1 + 2)), p4.2) p5 p6 p7 p6) fun y12 y13 y14 y15 y16 y17 y18 y19 y20 y21 => bif decide (y14 < y13) then gd (inB y14 (length y20)) (gd (decide (toNat y14 < length y20) && true) (gd (room (length (p6.2.1)) 4) (bif wrap i64 ((getD y20 (toNat y14) Zd3).1 - y12) == 0 then gd (inB y14 (length y20)) (gd (decide (toNat y14 < length y20) && true && true) (k (E_63_74_1_2.e0 p0 p1 p6 y14 y15 y16 y17 y18 y19 y20))) else gd (decide (0 ≤ y14) && decide (y14 ≤ (↑(length y20) : Int)) && room (length y20 + 1) 32) (k (E_63_74_1_2.e1 p0 p1 p6 y14 y15 y16 y17 y18 y19 y20))))) else gd (room (length (p6.2.1)) 4) (gd (decide (0 ≤ y14) && decide (y14 ≤ (↑(length y20) : Int)) && room (length y20 + 1) 32) (k (E_63_74_1_2.e1 p0 p1 p6 y14 y15 y16 y17 y18 y19 y20))) else k (E_63_74_1_2.e2 p0 p1 p2 p3 p4 p5 p6 p7)
noncomputable def Sp.J_63_74_1_2 (p0 p1 : Int) (p2 : (List Int × List Int × Int × Unit) × Int × Int × Unit) (p3 p4 : Int × Int × Unit) (p5 : List Int) (p6 : Int × List Int × Unit) (p7 : List (Int × List Int × Unit)) : Option E_63_74_1_2 := S_63_74_1_2 some p0 p1 p2 p3 p4 p5 p6 p7
noncomputable def O_63_74_1_2 {R : Type} : Orc R := orL T_63_74_1_2 (fun a => J_63_74_1_2 a.1 a.2.1 a.2.2.1 a.2.2.2.1 a.2.2.2.2.1 a.2.2.2.2.2.1 a.2.2.2.2.2.2.1 a.2.2.2.2.2.2.2.1) Y_63_74_1_2 O_63_74_1_1
theorem OK_63_74_1_2 {R : Type} : okF (R := R) sm_63 5 (ni (nf 74 0) 0) O_63_74_1_2 := jp ov_63_74_ok (os := []) trivial T_63_74_1_2 (fun R k a => S_63_74_1_2 k a.1 a.2.1 a.2.2.1 a.2.2.2.1 a.2.2.2.2.1 a.2.2.2.2.2.1 a.2.2.2.2.2.2.1 a.2.2.2.2.2.2.2.1) Y_63_74_1_2 (fun k a => by kernel_rfl) (fun Y a => by
 unfold S_63_74_1_2
 repeat' first | apply gdN | apply condN | (apply Bn_63_76_0_2 <;> intros) | rfl) OK_63_74_1_1
noncomputable def T_63_74_1_3 : PS := ⟨89, [(0, .yl 4 63 (.kc (.pair .junk (.pair .junk (.pair .junk (.pair .junk (.pair .junk (.pair .junk (.pair (.ptr 2 []) (.pair .junk (.pair .junk (.pair .junk (.pair .junk (.pair .junk (.pair .junk (.pair .junk (.pair .junk (.pair .junk (.pair .junk (.pair .junk (.pair .junk (.pair .junk (.pair .junk (.pair .junk (.pair .junk (.pair .junk (.pair .junk (.pair .junk (.pair .junk (.pair .junk (.pair .junk (.pair .junk (.pair .junk (.pair .junk (.pair .junk (.pair .junk (.pair .junk (.pair .junk (.pair .junk (.pair .junk (.pair .junk (.pair .junk (.pair .junk (.pair .junk (.pair .junk (.pure .unit PUnit.unit)))))))))))))))))))))))))))))))))))))))))))))), (1, .kc (.ptr 3 [])), (3, .hv (.int .i64)), (6, .hv (.int .i64)), (7, .kc (.ptr 5 []))], [.mem (.hv Zy63_4), .mem (.pr (.kc (.nil 99 Zy63_3)) (.hv Zy63_5)), .mem (.pr (.kc (.whole 7)) (.hv Zy63_5)), .mem (.hv (.slice (.int .u32))), .gh 0, .mem (.pr (.hv (.int .i64)) (.kc (.pair (.whole 6) (.pure .unit PUnit.unit)))), .vec 38 (.int .u32), .vec 99 Zy63_3], 5⟩
inductive Sp.E_63_74_1_3 where
 | e0 (p0 p1 p6 y13 : Int) (y14 : Zt63_0) (y15 y16 : Zt63_1) (y17 : List Int) (y18 : Int) (y19 : List Int) (y20 : Zt63_2)
 | e1 (p0 p1 p6 y13 : Int) (y14 : Zt63_0) (y15 y16 : Zt63_1) (y17 : List Int) (y18 : Int) (y19 : List Int) (y20 : Zt63_2)
 | e2 (p0 p1 : Int) (p2 : Zt63_0) (p3 p4 : Zt63_1) (p5 : List Int) (p6 : Int) (p7 : List Int) (p8 : Zt63_2)
noncomputable def Sp.B_63_74_1_3 {R : Type} (r : Option E_63_74_1_3) (k0 k1 : Int → Int → Int → Int → Zt63_0 → Zt63_1 → Zt63_1 → List Int → Int → List Int → Zt63_2 → Option R) (k2 : Int → Int → Zt63_0 → Zt63_1 → Zt63_1 → List Int → Int → List Int → Zt63_2 → Option R) : Option R := match r with
 | none => none
 | some (.e0 p0 p1 p6 y13 y14 y15 y16 y17 y18 y19 y20) => k0 p0 p1 p6 y13 y14 y15 y16 y17 y18 y19 y20
 | some (.e1 p0 p1 p6 y13 y14 y15 y16 y17 y18 y19 y20) => k1 p0 p1 p6 y13 y14 y15 y16 y17 y18 y19 y20
 | some (.e2 p0 p1 p2 p3 p4 p5 p6 p7 p8) => k2 p0 p1 p2 p3 p4 p5 p6 p7 p8
theorem Bn_63_74_1_3 {A R : Type} {r : Option E_63_74_1_3} {f : A → Option R} {k0 : Int → Int → Int → Int → Zt63_0 → Zt63_1 → Zt63_1 → List Int → Int → List Int → Zt63_2 → Option A} {k1 : Int → Int → Int → Int → Zt63_0 → Zt63_1 → Zt63_1 → List Int → Int → List Int → Zt63_2 → Option A} {k2 : Int → Int → Zt63_0 → Zt63_1 → Zt63_1 → List Int → Int → List Int → Zt63_2 → Option A} {l0 : Int → Int → Int → Int → Zt63_0 → Zt63_1 → Zt63_1 → List Int → Int → List Int → Zt63_2 → Option R} {l1 : Int → Int → Int → Int → Zt63_0 → Zt63_1 → Zt63_1 → List Int → Int → List Int → Zt63_2 → Option R} {l2 : Int → Int → Zt63_0 → Zt63_1 → Zt63_1 → List Int → Int → List Int → Zt63_2 → Option R} (h0 : ∀ p0 p1 p6 y13 y14 y15 y16 y17 y18 y19 y20, (k0 p0 p1 p6 y13 y14 y15 y16 y17 y18 y19 y20).bind f = l0 p0 p1 p6 y13 y14 y15 y16 y17 y18 y19 y20) (h1 : ∀ p0 p1 p6 y13 y14 y15 y16 y17 y18 y19 y20, (k1 p0 p1 p6 y13 y14 y15 y16 y17 y18 y19 y20).bind f = l1 p0 p1 p6 y13 y14 y15 y16 y17 y18 y19 y20) (h2 : ∀ p0 p1 p2 p3 p4 p5 p6 p7 p8, (k2 p0 p1 p2 p3 p4 p5 p6 p7 p8).bind f = l2 p0 p1 p2 p3 p4 p5 p6 p7 p8) : (B_63_74_1_3 r k0 k1 k2).bind f = B_63_74_1_3 r l0 l1 l2 := by
 cases r with
 | none => rfl
 | some e => cases e <;> first | apply h0 | apply h1 | apply h2
noncomputable def Y_63_74_1_3 {R : Type} (k : Ex → St → Option R) : E_63_74_1_3 → Option R
 | .e0 p0 p1 p6 y13 y14 y15 y16 y17 y18 y19 y20 => k Ex.normal (sx 89 [(0, CV.yld 4 63 (CV.pair CV.junk (CV.pair CV.junk (CV.pair CV.junk (CV.pair CV.junk (CV.pair CV.junk (CV.pair CV.junk (CV.pair (CV.ptr 2 []) (CV.pair CV.junk (CV.pair CV.junk (CV.pair CV.junk (CV.pair CV.junk (CV.pair CV.junk (CV.pair CV.junk (CV.pair CV.junk (CV.pair CV.junk (CV.pair CV.junk (CV.pair CV.junk (CV.pair CV.junk (CV.pair CV.junk (CV.pair CV.junk (CV.pair CV.junk (CV.pair CV.junk (CV.pair CV.junk (CV.pair CV.junk (CV.pair CV.junk (CV.pair CV.junk (CV.pair CV.junk (CV.pair CV.junk (CV.pair CV.junk (CV.pair CV.junk (CV.pair CV.junk (CV.pair CV.junk (CV.pair CV.junk (CV.pair CV.junk (CV.pair CV.junk (CV.pair CV.junk (CV.pair CV.junk (CV.pair CV.junk (CV.pair CV.junk (CV.pair CV.junk (CV.pair CV.junk (CV.pair CV.junk (CV.pair CV.junk (CV.pure Ty.unit PUnit.unit))))))))))))))))))))))))))))))))))))))))))))), (1, CV.ptr 3 []), (3, CV.int i64 (wrap i64 (p0 + wrap i64 (p1 + 2)))), (6, CV.int i64 p1), (7, CV.ptr 5 []), (80, CV.int i64 p0), (81, CV.int i64 p1), (82, CV.int i64 (wrap i64 (p1 + 2))), (83, CV.int i64 (wrap i64 (p0 + wrap i64 (p1 + 2)))), (84, CV.yld 4 63 (CV.pair CV.junk (CV.pair CV.junk (CV.pair CV.junk (CV.pair CV.junk (CV.pair CV.junk (CV.pair CV.junk (CV.pair (CV.ptr 2 []) (CV.pair CV.junk (CV.pair CV.junk (CV.pair CV.junk (CV.pair CV.junk (CV.pair CV.junk (CV.pair CV.junk (CV.pair CV.junk (CV.pair CV.junk (CV.pair CV.junk (CV.pair CV.junk (CV.pair CV.junk (CV.pair CV.junk (CV.pair CV.junk (CV.pair CV.junk (CV.pair CV.junk (CV.pair CV.junk (CV.pair CV.junk (CV.pair CV.junk (CV.pair CV.junk (CV.pair CV.junk (CV.pair CV.junk (CV.pair CV.junk (CV.pair CV.junk (CV.pair CV.junk (CV.pair CV.junk (CV.pair CV.junk (CV.pair CV.junk (CV.pair CV.junk (CV.pair CV.junk (CV.pair CV.junk (CV.pair CV.junk (CV.pair CV.junk (CV.pair CV.junk (CV.pair CV.junk (CV.pair CV.junk (CV.pair CV.junk (CV.pure Ty.unit PUnit.unit))))))))))))))))))))))))))))))))))))))))))))), (85, CV.int i64 (wrap i64 (p0 + wrap i64 (p1 + 2)))), (86, CV.pair (CV.int i64 p6) (CV.pair (CV.whole 6) (CV.pure Ty.unit PUnit.unit))), (87, CV.bool true), (88, CV.bool false)] [Blk.mem (CV.pure (Ty.pair (Ty.pair (Ty.slice (Ty.int u32)) (Ty.pair (Ty.slice (Ty.int i64)) (Ty.pair (Ty.int i64) Ty.unit))) (Ty.pair (Ty.int i64) (Ty.pair (Ty.int i64) Ty.unit))) y14), Blk.mem (CV.pair (CV.nil 99 (Ty.pair (Ty.int i64) (Ty.pair (Ty.slice (Ty.int u32)) Ty.unit))) (CV.pure (Ty.pair (Ty.int i64) (Ty.pair (Ty.int i64) Ty.unit)) y15)), Blk.mem (CV.pair (CV.whole 7) (CV.pure (Ty.pair (Ty.int i64) (Ty.pair (Ty.int i64) Ty.unit)) y16)), Blk.mem (CV.pure (Ty.slice (Ty.int u32)) y17), Blk.ghost 0, Blk.mem (CV.pair (CV.int i64 y18) (CV.pair (CV.whole 6) (CV.pure Ty.unit PUnit.unit))), Blk.vec 38 (Ty.int u32) y19, Blk.vec 99 (Ty.pair (Ty.int i64) (Ty.pair (Ty.slice (Ty.int u32)) Ty.unit)) ((List.set y20 (toNat y13) (p6, y19, PUnit.unit)) : Zt63_8)] 5)
 | .e1 p0 p1 p6 y13 y14 y15 y16 y17 y18 y19 y20 => k Ex.normal (sx 89 [(0, CV.yld 4 63 (CV.pair CV.junk (CV.pair CV.junk (CV.pair CV.junk (CV.pair CV.junk (CV.pair CV.junk (CV.pair CV.junk (CV.pair (CV.ptr 2 []) (CV.pair CV.junk (CV.pair CV.junk (CV.pair CV.junk (CV.pair CV.junk (CV.pair CV.junk (CV.pair CV.junk (CV.pair CV.junk (CV.pair CV.junk (CV.pair CV.junk (CV.pair CV.junk (CV.pair CV.junk (CV.pair CV.junk (CV.pair CV.junk (CV.pair CV.junk (CV.pair CV.junk (CV.pair CV.junk (CV.pair CV.junk (CV.pair CV.junk (CV.pair CV.junk (CV.pair CV.junk (CV.pair CV.junk (CV.pair CV.junk (CV.pair CV.junk (CV.pair CV.junk (CV.pair CV.junk (CV.pair CV.junk (CV.pair CV.junk (CV.pair CV.junk (CV.pair CV.junk (CV.pair CV.junk (CV.pair CV.junk (CV.pair CV.junk (CV.pair CV.junk (CV.pair CV.junk (CV.pair CV.junk (CV.pair CV.junk (CV.pure Ty.unit PUnit.unit))))))))))))))))))))))))))))))))))))))))))))), (1, CV.ptr 3 []), (3, CV.int i64 (wrap i64 (p0 + wrap i64 (p1 + 2)))), (6, CV.int i64 p1), (7, CV.ptr 5 []), (80, CV.int i64 p0), (81, CV.int i64 p1), (82, CV.int i64 (wrap i64 (p1 + 2))), (83, CV.int i64 (wrap i64 (p0 + wrap i64 (p1 + 2)))), (84, CV.yld 4 63 (CV.pair CV.junk (CV.pair CV.junk (CV.pair CV.junk (CV.pair CV.junk (CV.pair CV.junk (CV.pair CV.junk (CV.pair (CV.ptr 2 []) (CV.pair CV.junk (CV.pair CV.junk (CV.pair CV.junk (CV.pair CV.junk (CV.pair CV.junk (CV.pair CV.junk (CV.pair CV.junk (CV.pair CV.junk (CV.pair CV.junk (CV.pair CV.junk (CV.pair CV.junk (CV.pair CV.junk (CV.pair CV.junk (CV.pair CV.junk (CV.pair CV.junk (CV.pair CV.junk (CV.pair CV.junk (CV.pair CV.junk (CV.pair CV.junk (CV.pair CV.junk (CV.pair CV.junk (CV.pair CV.junk (CV.pair CV.junk (CV.pair CV.junk (CV.pair CV.junk (CV.pair CV.junk (CV.pair CV.junk (CV.pair CV.junk (CV.pair CV.junk (CV.pair CV.junk (CV.pair CV.junk (CV.pair CV.junk (CV.pair CV.junk (CV.pair CV.junk (CV.pair CV.junk (CV.pair CV.junk (CV.pure Ty.unit PUnit.unit))))))))))))))))))))))))))))))))))))))))))))), (85, CV.int i64 (wrap i64 (p0 + wrap i64 (p1 + 2)))), (86, CV.pair (CV.int i64 p6) (CV.pair (CV.whole 6) (CV.pure Ty.unit PUnit.unit))), (87, CV.bool true), (88, CV.bool false)] [Blk.mem (CV.pure (Ty.pair (Ty.pair (Ty.slice (Ty.int u32)) (Ty.pair (Ty.slice (Ty.int i64)) (Ty.pair (Ty.int i64) Ty.unit))) (Ty.pair (Ty.int i64) (Ty.pair (Ty.int i64) Ty.unit))) y14), Blk.mem (CV.pair (CV.nil 99 (Ty.pair (Ty.int i64) (Ty.pair (Ty.slice (Ty.int u32)) Ty.unit))) (CV.pure (Ty.pair (Ty.int i64) (Ty.pair (Ty.int i64) Ty.unit)) y15)), Blk.mem (CV.pair (CV.whole 8) (CV.pure (Ty.pair (Ty.int i64) (Ty.pair (Ty.int i64) Ty.unit)) y16)), Blk.mem (CV.pure (Ty.slice (Ty.int u32)) y17), Blk.ghost 0, Blk.mem (CV.pair (CV.int i64 y18) (CV.pair (CV.whole 6) (CV.pure Ty.unit PUnit.unit))), Blk.vec 38 (Ty.int u32) y19, Blk.dead, Blk.vec 99 (Ty.pair (Ty.int i64) (Ty.pair (Ty.slice (Ty.int u32)) Ty.unit)) ((take (toNat y13) y20 ++ ([(p6, y19, PUnit.unit)] ++ drop (toNat y13) y20)) : Zt63_8)] 5)
 | .e2 p0 p1 p2 p3 p4 p5 p6 p7 p8 => k Ex.normal (sx 89 [(0, CV.yld 4 63 (CV.pair CV.junk (CV.pair CV.junk (CV.pair CV.junk (CV.pair CV.junk (CV.pair CV.junk (CV.pair CV.junk (CV.pair (CV.ptr 2 []) (CV.pair CV.junk (CV.pair CV.junk (CV.pair CV.junk (CV.pair CV.junk (CV.pair CV.junk (CV.pair CV.junk (CV.pair CV.junk (CV.pair CV.junk (CV.pair CV.junk (CV.pair CV.junk (CV.pair CV.junk (CV.pair CV.junk (CV.pair CV.junk (CV.pair CV.junk (CV.pair CV.junk (CV.pair CV.junk (CV.pair CV.junk (CV.pair CV.junk (CV.pair CV.junk (CV.pair CV.junk (CV.pair CV.junk (CV.pair CV.junk (CV.pair CV.junk (CV.pair CV.junk (CV.pair CV.junk (CV.pair CV.junk (CV.pair CV.junk (CV.pair CV.junk (CV.pair CV.junk (CV.pair CV.junk (CV.pair CV.junk (CV.pair CV.junk (CV.pair CV.junk (CV.pair CV.junk (CV.pair CV.junk (CV.pair CV.junk (CV.pure Ty.unit PUnit.unit))))))))))))))))))))))))))))))))))))))))))))), (1, CV.ptr 3 []), (3, CV.int i64 (wrap i64 (p0 + wrap i64 (p1 + 2)))), (6, CV.int i64 p1), (7, CV.ptr 5 []), (80, CV.int i64 p0), (81, CV.int i64 p1), (82, CV.int i64 (wrap i64 (p1 + 2))), (83, CV.int i64 (wrap i64 (p0 + wrap i64 (p1 + 2)))), (84, CV.yld 4 63 (CV.pair CV.junk (CV.pair CV.junk (CV.pair CV.junk (CV.pair CV.junk (CV.pair CV.junk (CV.pair CV.junk (CV.pair (CV.ptr 2 []) (CV.pair CV.junk (CV.pair CV.junk (CV.pair CV.junk (CV.pair CV.junk (CV.pair CV.junk (CV.pair CV.junk (CV.pair CV.junk (CV.pair CV.junk (CV.pair CV.junk (CV.pair CV.junk (CV.pair CV.junk (CV.pair CV.junk (CV.pair CV.junk (CV.pair CV.junk (CV.pair CV.junk (CV.pair CV.junk (CV.pair CV.junk (CV.pair CV.junk (CV.pair CV.junk (CV.pair CV.junk (CV.pair CV.junk (CV.pair CV.junk (CV.pair CV.junk (CV.pair CV.junk (CV.pair CV.junk (CV.pair CV.junk (CV.pair CV.junk (CV.pair CV.junk (CV.pair CV.junk (CV.pair CV.junk (CV.pair CV.junk (CV.pair CV.junk (CV.pair CV.junk (CV.pair CV.junk (CV.pair CV.junk (CV.pair CV.junk (CV.pure Ty.unit PUnit.unit))))))))))))))))))))))))))))))))))))))))))))), (85, CV.int i64 (wrap i64 (p0 + wrap i64 (p1 + 2)))), (86, CV.pair (CV.int i64 p6) (CV.pair (CV.whole 6) (CV.pure Ty.unit PUnit.unit))), (87, CV.bool true), (88, CV.bool false)] [Blk.mem (CV.pure (Ty.pair (Ty.pair (Ty.slice (Ty.int u32)) (Ty.pair (Ty.slice (Ty.int i64)) (Ty.pair (Ty.int i64) Ty.unit))) (Ty.pair (Ty.int i64) (Ty.pair (Ty.int i64) Ty.unit))) p2), Blk.mem (CV.pair (CV.nil 99 (Ty.pair (Ty.int i64) (Ty.pair (Ty.slice (Ty.int u32)) Ty.unit))) (CV.pure (Ty.pair (Ty.int i64) (Ty.pair (Ty.int i64) Ty.unit)) p3)), Blk.mem (CV.pair (CV.whole 7) (CV.pure (Ty.pair (Ty.int i64) (Ty.pair (Ty.int i64) Ty.unit)) ((wrap i64 (p0 + wrap i64 (p1 + 2)), p4.2) : (Int × (Int × Unit))))), Blk.mem (CV.pure (Ty.slice (Ty.int u32)) p5), Blk.ghost 0, Blk.mem (CV.pair (CV.int i64 p6) (CV.pair (CV.whole 6) (CV.pure Ty.unit PUnit.unit))), Blk.vec 38 (Ty.int u32) p7, Blk.vec 99 (Ty.pair (Ty.int i64) (Ty.pair (Ty.slice (Ty.int u32)) Ty.unit)) p8] 5)
noncomputable def Sp.S_63_74_1_3 {R : Type} (k : E_63_74_1_3 → Option R) (p0 p1 : Int) (p2 : (List Int × List Int × Int × Unit) × Int × Int × Unit) (p3 p4 : Int × Int × Unit) (p5 : List Int) (p6 : Int) (p7 : List Int) (p8 : List (Int × List Int × Unit)) : Option R :=
 bif decide (p6 ≥ 0) then B_63_76_0_3 (L_63_76_0_3 4611686018427387904 p6 (↑(length p8) : Int) 0 (↑(length p8) : Int) p2 p3 (wrap i64 (p0 + wrap i64 (p1 + 2)), p4.2) p5 p6 p7 p8 p6) fun y11 y12 y13 y14 y15 y16 y17 y18 y19 y20 y21 => bif decide (y13 < y12) then gd (inB y13 (length y20)) (gd (decide (toNat y13 < length y20) && true) (gd (room (length y19) 4) (bif wrap i64 ((getD y20 (toNat y13) Zd3).1 - y11) == 0 then gd (inB y13 (length y20)) (gd (decide (toNat y13 < length y20) && true && true) (k (E_63_74_1_3.e0 p0 p1 p6 y13 y14 y15 y16 y17 y18 y19 y20))) else gd (decide (0 ≤ y13) && decide (y13 ≤ (↑(length y20) : Int)) && room (length y20 + 1) 32) (k (E_63_74_1_3.e1 p0 p1 p6 y13 y14 y15 y16 y17 y18 y19 y20))))) else gd (room (length y19) 4) (gd (decide (0 ≤ y13) && decide (y13 ≤ (↑(length y20) : Int)) && room (length y20 + 1) 32) (k (E_63_74_1_3.e1 p0 p1 p6 y13 y14 y15 y16 y17 y18 y19 y20))) else k (E_63_74_1_3.e2 p0 p1 p2 p3 p4 p5 p6 p7 p8)
noncomputable def Sp.J_63_74_1_3 (p0 p1 : Int) (p2 : (List Int × List Int × Int × Unit) × Int × Int × Unit) (p3 p4 : Int × Int × Unit) (p5 : List Int) (p6 : Int) (p7 : List Int) (p8 : List (Int × List Int × Unit)) : Option E_63_74_1_3 := S_63_74_1_3 some p0 p1 p2 p3 p4 p5 p6 p7 p8
noncomputable def O_63_74_1_3 {R : Type} : Orc R := orL T_63_74_1_3 (fun a => J_63_74_1_3 a.1 a.2.1 a.2.2.1 a.2.2.2.1 a.2.2.2.2.1 a.2.2.2.2.2.1 a.2.2.2.2.2.2.1 a.2.2.2.2.2.2.2.1 a.2.2.2.2.2.2.2.2.1) Y_63_74_1_3 O_63_74_1_2
theorem OK_63_74_1_3 {R : Type} : okF (R := R) sm_63 5 (ni (nf 74 0) 0) O_63_74_1_3 := jp ov_63_74_ok (os := []) trivial T_63_74_1_3 (fun R k a => S_63_74_1_3 k a.1 a.2.1 a.2.2.1 a.2.2.2.1 a.2.2.2.2.1 a.2.2.2.2.2.1 a.2.2.2.2.2.2.1 a.2.2.2.2.2.2.2.1 a.2.2.2.2.2.2.2.2.1) Y_63_74_1_3 (fun k a => by kernel_rfl) (fun Y a => by
 unfold S_63_74_1_3
 repeat' first | apply gdN | apply condN | (apply Bn_63_76_0_3 <;> intros) | rfl) OK_63_74_1_2
noncomputable def T_63_74_0_1 : PS := ⟨89, [(0, .yl 4 63 (.kc (.pair .junk (.pair .junk (.pair .junk (.pair .junk (.pair .junk (.pair .junk (.pair (.ptr 2 []) (.pair .junk (.pair .junk (.pair .junk (.pair .junk (.pair .junk (.pair .junk (.pair .junk (.pair .junk (.pair .junk (.pair .junk (.pair .junk (.pair .junk (.pair .junk (.pair .junk (.pair .junk (.pair .junk (.pair .junk (.pair .junk (.pair .junk (.pair .junk (.pair .junk (.pair .junk (.pair .junk (.pair .junk (.pair .junk (.pair .junk (.pair .junk (.pair .junk (.pair .junk (.pair .junk (.pair .junk (.pair .junk (.pair .junk (.pair .junk (.pair .junk (.pair .junk (.pure .unit PUnit.unit)))))))))))))))))))))))))))))))))))))))))))))), (1, .kc (.ptr 3 [])), (3, .hv (.int .i64))], [.mem (.hv Zy63_4), .mem (.pr (.kc (.nil 99 Zy63_3)) (.hv Zy63_5)), .mem (.pr (.kc (.whole 5)) (.hv Zy63_5)), .mem (.hv (.slice (.int .u32))), .gh 0, .vec 99 Zy63_3], 5⟩
inductive Sp.E_63_74_0_1 where
 | e0 (p1 : Zt63_0) (p2 p3 : Zt63_1) (p4 : List Int) (p5 : Zt63_2)
 | e1 (p1 : Zt63_0) (p2 p3 : Zt63_1) (p4 : List Int) (p5 : Zt63_2)
noncomputable def Sp.B_63_74_0_1 {R : Type} (r : Option E_63_74_0_1) (k0 k1 : Zt63_0 → Zt63_1 → Zt63_1 → List Int → Zt63_2 → Option R) : Option R := match r with
 | none => none
 | some (.e0 p1 p2 p3 p4 p5) => k0 p1 p2 p3 p4 p5
 | some (.e1 p1 p2 p3 p4 p5) => k1 p1 p2 p3 p4 p5
noncomputable def Y_63_74_0_1 {R : Type} (k : Ex → St → Option R) : E_63_74_0_1 → Option R
 | .e0 p1 p2 p3 p4 p5 => k Ex.ret (sx 89 [] [Blk.mem (CV.pure (Ty.pair (Ty.pair (Ty.slice (Ty.int u32)) (Ty.pair (Ty.slice (Ty.int i64)) (Ty.pair (Ty.int i64) Ty.unit))) (Ty.pair (Ty.int i64) (Ty.pair (Ty.int i64) Ty.unit))) p1), Blk.mem (CV.pair (CV.nil 99 (Ty.pair (Ty.int i64) (Ty.pair (Ty.slice (Ty.int u32)) Ty.unit))) (CV.pure (Ty.pair (Ty.int i64) (Ty.pair (Ty.int i64) Ty.unit)) p2)), Blk.mem (CV.pair (CV.whole 5) (CV.pure (Ty.pair (Ty.int i64) (Ty.pair (Ty.int i64) Ty.unit)) p3)), Blk.mem (CV.pure (Ty.slice (Ty.int u32)) p4), Blk.ghost 0, Blk.vec 99 (Ty.pair (Ty.int i64) (Ty.pair (Ty.slice (Ty.int u32)) Ty.unit)) p5] 5)
 | .e1 p1 p2 p3 p4 p5 => k (Ex.exit 0) (sx 89 [] [Blk.mem (CV.pure (Ty.pair (Ty.pair (Ty.slice (Ty.int u32)) (Ty.pair (Ty.slice (Ty.int i64)) (Ty.pair (Ty.int i64) Ty.unit))) (Ty.pair (Ty.int i64) (Ty.pair (Ty.int i64) Ty.unit))) p1), Blk.mem (CV.pair (CV.nil 99 (Ty.pair (Ty.int i64) (Ty.pair (Ty.slice (Ty.int u32)) Ty.unit))) (CV.pure (Ty.pair (Ty.int i64) (Ty.pair (Ty.int i64) Ty.unit)) p2)), Blk.mem (CV.pair (CV.whole 5) (CV.pure (Ty.pair (Ty.int i64) (Ty.pair (Ty.int i64) Ty.unit)) p3)), Blk.mem (CV.pure (Ty.slice (Ty.int u32)) p4), Blk.ghost 0, Blk.vec 99 (Ty.pair (Ty.int i64) (Ty.pair (Ty.slice (Ty.int u32)) Ty.unit)) p5] 5)
noncomputable def Sp.S_63_74_0_1 {R : Type} (K : Int → ((List Int × List Int × Int × Unit) × Int × Int × Unit) → (Int × Int × Unit) → (Int × Int × Unit) → List Int → (List (Int × List Int × Unit)) → Option R) (k : E_63_74_0_1 → Option R) (p0 : Int) (p1 : (List Int × List Int × Int × Unit) × Int × Int × Unit) (p2 p3 : Int × Int × Unit) (p4 : List Int) (p5 : List (Int × List Int × Unit)) : Option R :=
 bif decide (p0 < (↑(length p4) : Int)) then gd (inB p0 (length p4)) (gd (p_54 (getD p4 (toNat p0) 0)) (bif !(v_54 (getD p4 (toNat p0) 0)).2.1 then k (E_63_74_0_1.e0 p1 p2 p3 p4 p5) else bif decide (wrap i64 (Int.tdiv ((v_54 (getD p4 (toNat p0) 0)).1) 256) > 254) then k (E_63_74_0_1.e0 p1 p2 p3 p4 p5) else bif decide (Int.tmod ((v_54 (getD p4 (toNat p0) 0)).1) (256 :Int) > (24 :Int)) then k (E_63_74_0_1.e0 p1 p2 p3 p4 p5) else bif decide (wrap i64 (wrap i64 (p0 + Int.tmod ((v_54 (getD p4 (toNat p0) 0)).1) 256) + 2) > (↑(length p4) : Int)) then k (E_63_74_0_1.e0 p1 p2 p3 p4 p5) else gd (inB (wrap i64 (wrap i64 (p0 + Int.tmod ((v_54 (getD p4 (toNat p0) 0)).1) 256) + 1)) (length p4)) (gd (p_54 (getD p4 (toNat (wrap i64 (wrap i64 (p0 + Int.tmod ((v_54 (getD p4 (toNat p0) 0)).1) 256) + 1))) 0)) (bif (v_54 (getD p4 (toNat (wrap i64 (wrap i64 (p0 + Int.tmod ((v_54 (getD p4 (toNat p0) 0)).1) 256) + 1))) 0)).2.1 then gd (sl3 p0 (wrap i64 (wrap i64 (p0 + Int.tmod ((v_54 (getD p4 (toNat p0) 0)).1) 256) + 1)) (↑(length p4) : Int)) (gd (p_75 (take (toNat (wrap i64 (wrap i64 (p0 + Int.tmod ((v_54 (getD p4 (toNat p0) 0)).1) 256) + 1)) - toNat p0) (drop (toNat p0) p4))) (bif (v_54 (getD p4 (toNat (wrap i64 (wrap i64 (p0 + Int.tmod ((v_54 (getD p4 (toNat p0) 0)).1) 256) + 1))) 0)).1 == (v_75 (take (toNat (wrap i64 (wrap i64 (p0 + Int.tmod ((v_54 (getD p4 (toNat p0) 0)).1) 256) + 1)) - toNat p0) (drop (toNat p0) p4))).1 then gd (sl3 (wrap i64 (p0 + 1)) (wrap i64 (wrap i64 (p0 + Int.tmod ((v_54 (getD p4 (toNat p0) 0)).1) 256) + 1)) (↑(length p4) : Int)) (B_63_74_1_2 (J_63_74_1_2 p0 (Int.tmod ((v_54 (getD p4 (toNat p0) 0)).1) 256) p1 p2 p3 p4 (wrap i64 (Int.tdiv ((v_54 (getD p4 (toNat p0) 0)).1) 256), take (toNat (wrap i64 (wrap i64 (p0 + Int.tmod ((v_54 (getD p4 (toNat p0) 0)).1) 256) + 1)) - toNat (wrap i64 (p0 + 1))) (drop (toNat (wrap i64 (p0 + 1))) p4), PUnit.unit) p5) (fun y98 y99 y100 y101 y102 y103 y104 y105 y106 y107 => K (wrap i64 (y98 + wrap i64 (y99 + 2))) y102 y103 y104 y105 (List.set y107 (toNat y101) (y100.1, y100.2.1, PUnit.unit))) (fun y108 y109 y110 y111 y112 y113 y114 y115 y116 y117 => K (wrap i64 (y108 + wrap i64 (y109 + 2))) y112 y113 y114 y115 (take (toNat y111) y117 ++ ([(y110.1, y110.2.1, PUnit.unit)] ++ drop (toNat y111) y117))) fun y118 y119 y120 y121 y122 y123 y124 y125 => K (wrap i64 (y118 + wrap i64 (y119 + 2))) y120 y121 (wrap i64 (y118 + wrap i64 (y119 + 2)), y122.2) y123 y125) else B_63_74_1_3 (J_63_74_1_3 p0 (Int.tmod ((v_54 (getD p4 (toNat p0) 0)).1) 256) p1 p2 p3 p4 (-1 : Int) [] p5) (fun y126 y127 y128 y129 y130 y131 y132 y133 y134 y135 y136 => K (wrap i64 (y126 + wrap i64 (y127 + 2))) y130 y131 y132 y133 (List.set y136 (toNat y129) (y128, y135, PUnit.unit))) (fun y137 y138 y139 y140 y141 y142 y143 y144 y145 y146 y147 => K (wrap i64 (y137 + wrap i64 (y138 + 2))) y141 y142 y143 y144 (take (toNat y140) y147 ++ ([(y139, y146, PUnit.unit)] ++ drop (toNat y140) y147))) fun y148 y149 y150 y151 y152 y153 y154 y155 y156 => K (wrap i64 (y148 + wrap i64 (y149 + 2))) y150 y151 (wrap i64 (y148 + wrap i64 (y149 + 2)), y152.2) y153 y156)) else B_63_74_1_3 (J_63_74_1_3 p0 (Int.tmod ((v_54 (getD p4 (toNat p0) 0)).1) 256) p1 p2 p3 p4 (-1 : Int) [] p5) (fun y157 y158 y159 y160 y161 y162 y163 y164 y165 y166 y167 => K (wrap i64 (y157 + wrap i64 (y158 + 2))) y161 y162 y163 y164 (List.set y167 (toNat y160) (y159, y166, PUnit.unit))) (fun y168 y169 y170 y171 y172 y173 y174 y175 y176 y177 y178 => K (wrap i64 (y168 + wrap i64 (y169 + 2))) y172 y173 y174 y175 (take (toNat y171) y178 ++ ([(y170, y177, PUnit.unit)] ++ drop (toNat y171) y178))) fun y179 y180 y181 y182 y183 y184 y185 y186 y187 => K (wrap i64 (y179 + wrap i64 (y180 + 2))) y181 y182 (wrap i64 (y179 + wrap i64 (y180 + 2)), y183.2) y184 y187)))) else k (E_63_74_0_1.e1 p1 p2 p3 p4 p5)
noncomputable def Sp.L_63_74_0_1 : Nat → Int → ((List Int × List Int × Int × Unit) × Int × Int × Unit) → (Int × Int × Unit) → (Int × Int × Unit) → List Int → (List (Int × List Int × Unit)) → Option E_63_74_0_1
 | 0, _, _, _, _, _, _ => none
 | m + 1, p0, p1, p2, p3, p4, p5 => S_63_74_0_1 (L_63_74_0_1 m) some p0 p1 p2 p3 p4 p5
noncomputable def l_63_74_0_1 (m : Nat) (a : T_63_74_0_1.E) : Option E_63_74_0_1 := L_63_74_0_1 m a.1 a.2.1 a.2.2.1 a.2.2.2.1 a.2.2.2.2.1 a.2.2.2.2.2.1
noncomputable def O_63_74_0_1 {R : Type} : Orc R := orL T_63_74_0_1 (l_63_74_0_1 FU) Y_63_74_0_1
theorem loop_63_74_0_1 {R : Type} (k : Ex → St → Option R) : ∀ m a, evLoopN (evCodeL sm_63 FU (ovr ov_63_74 (evFn sm_63 fns FU 5)) (mkT (inner (nf 74 0)) [O_63_74_1_3]) (inner (nf 74 0))) (St.norm (lv (nf 74 0))) m (T_63_74_0_1.inst a) k = (l_63_74_0_1 m a).bind (Y_63_74_0_1 k) := lpN l_63_74_0_1 (fun R K k a => S_63_74_0_1 (fun p0 p1 p2 p3 p4 p5 => K (p0, p1, p2, p3, p4, p5, ())) k a.1 a.2.1 a.2.2.1 a.2.2.2.1 a.2.2.2.2.1 a.2.2.2.2.2.1) (fun _ => rfl) (fun _ _ => rfl) (fun K a => by kernel_rfl) (fun K a => by
 unfold S_63_74_0_1
 repeat' first | apply gdN | apply condN | (apply Bn_63_74_1_2 <;> intros) | (apply Bn_63_74_1_3 <;> intros) | rfl)
theorem OK_63_74_0_1 {R : Type} : okF (R := R) sm_63 5 (nf 74 0) O_63_74_0_1 := lp ov_63_74_ok (os := [O_63_74_1_3]) ⟨OK_63_74_1_3, trivial⟩ T_63_74_0_1 l_63_74_0_1 (fun R K k a => S_63_74_0_1 (fun p0 p1 p2 p3 p4 p5 => K (p0, p1, p2, p3, p4, p5, ())) k a.1 a.2.1 a.2.2.1 a.2.2.2.1 a.2.2.2.2.1 a.2.2.2.2.2.1) Y_63_74_0_1 (fun _ => rfl) (fun _ _ => rfl) (fun k K a => by kernel_rfl) (fun Y K a => by
 unfold S_63_74_0_1
 repeat' first | apply gdN | apply condN | (apply Bn_63_74_1_2 <;> intros) | (apply Bn_63_74_1_3 <;> intros) | rfl) (ok0 _)
noncomputable def T_63_74_0_0 : PS := ⟨89, [(0, .yl 4 63 (.kc (.pair .junk (.pair .junk (.pair .junk (.pair .junk (.pair .junk (.pair .junk (.pair (.ptr 2 []) (.pair .junk (.pair .junk (.pair .junk (.pair .junk (.pair .junk (.pair .junk (.pair .junk (.pair .junk (.pair .junk (.pair .junk (.pair .junk (.pair .junk (.pair .junk (.pair .junk (.pair .junk (.pair .junk (.pair .junk (.pair .junk (.pair .junk (.pair .junk (.pair .junk (.pair .junk (.pair .junk (.pair .junk (.pair .junk (.pair .junk (.pair .junk (.pair .junk (.pair .junk (.pair .junk (.pair .junk (.pair .junk (.pair .junk (.pair .junk (.pair .junk (.pair .junk (.pure .unit PUnit.unit)))))))))))))))))))))))))))))))))))))))))))))), (1, .kc (.ptr 3 [])), (3, .hv (.int .i64))], [.mem (.hv Zy63_4), .mem (.pr (.kc (.nil 99 Zy63_3)) (.hv Zy63_5)), .mem (.pr (.kc (.nil 99 Zy63_3)) (.hv Zy63_5)), .mem (.hv (.slice (.int .u32))), .gh 0], 5⟩
inductive Sp.E_63_74_0_0 where
 | e0 (p1 : Zt63_0) (p2 p3 : Zt63_1) (p4 : List Int)
 | e1 (p1 : Zt63_0) (p2 p3 : Zt63_1) (p4 : List Int)
 | e2 (p1 : Zt63_0) (p2 p3 : Zt63_1) (p4 : List Int) (p5 : Zt63_2)
 | e3 (p1 : Zt63_0) (p2 p3 : Zt63_1) (p4 : List Int) (p5 : Zt63_2)
noncomputable def Sp.B_63_74_0_0 {R : Type} (r : Option E_63_74_0_0) (k0 k1 : Zt63_0 → Zt63_1 → Zt63_1 → List Int → Option R) (k2 k3 : Zt63_0 → Zt63_1 → Zt63_1 → List Int → Zt63_2 → Option R) : Option R := match r with
 | none => none
 | some (.e0 p1 p2 p3 p4) => k0 p1 p2 p3 p4
 | some (.e1 p1 p2 p3 p4) => k1 p1 p2 p3 p4
 | some (.e2 p1 p2 p3 p4 p5) => k2 p1 p2 p3 p4 p5
 | some (.e3 p1 p2 p3 p4 p5) => k3 p1 p2 p3 p4 p5
noncomputable def Y_63_74_0_0 {R : Type} (k : Ex → St → Option R) : E_63_74_0_0 → Option R
 | .e0 p1 p2 p3 p4 => k Ex.ret (sx 89 [] [Blk.mem (CV.pure (Ty.pair (Ty.pair (Ty.slice (Ty.int u32)) (Ty.pair (Ty.slice (Ty.int i64)) (Ty.pair (Ty.int i64) Ty.unit))) (Ty.pair (Ty.int i64) (Ty.pair (Ty.int i64) Ty.unit))) p1), Blk.mem (CV.pair (CV.nil 99 (Ty.pair (Ty.int i64) (Ty.pair (Ty.slice (Ty.int u32)) Ty.unit))) (CV.pure (Ty.pair (Ty.int i64) (Ty.pair (Ty.int i64) Ty.unit)) p2)), Blk.mem (CV.pair (CV.nil 99 (Ty.pair (Ty.int i64) (Ty.pair (Ty.slice (Ty.int u32)) Ty.unit))) (CV.pure (Ty.pair (Ty.int i64) (Ty.pair (Ty.int i64) Ty.unit)) p3)), Blk.mem (CV.pure (Ty.slice (Ty.int u32)) p4), Blk.ghost 0] 5)
 | .e1 p1 p2 p3 p4 => k (Ex.exit 0) (sx 89 [] [Blk.mem (CV.pure (Ty.pair (Ty.pair (Ty.slice (Ty.int u32)) (Ty.pair (Ty.slice (Ty.int i64)) (Ty.pair (Ty.int i64) Ty.unit))) (Ty.pair (Ty.int i64) (Ty.pair (Ty.int i64) Ty.unit))) p1), Blk.mem (CV.pair (CV.nil 99 (Ty.pair (Ty.int i64) (Ty.pair (Ty.slice (Ty.int u32)) Ty.unit))) (CV.pure (Ty.pair (Ty.int i64) (Ty.pair (Ty.int i64) Ty.unit)) p2)), Blk.mem (CV.pair (CV.nil 99 (Ty.pair (Ty.int i64) (Ty.pair (Ty.slice (Ty.int u32)) Ty.unit))) (CV.pure (Ty.pair (Ty.int i64) (Ty.pair (Ty.int i64) Ty.unit)) p3)), Blk.mem (CV.pure (Ty.slice (Ty.int u32)) p4), Blk.ghost 0] 5)
 | .e2 p1 p2 p3 p4 p5 => k Ex.ret (sx 89 [] [Blk.mem (CV.pure (Ty.pair (Ty.pair (Ty.slice (Ty.int u32)) (Ty.pair (Ty.slice (Ty.int i64)) (Ty.pair (Ty.int i64) Ty.unit))) (Ty.pair (Ty.int i64) (Ty.pair (Ty.int i64) Ty.unit))) p1), Blk.mem (CV.pair (CV.nil 99 (Ty.pair (Ty.int i64) (Ty.pair (Ty.slice (Ty.int u32)) Ty.unit))) (CV.pure (Ty.pair (Ty.int i64) (Ty.pair (Ty.int i64) Ty.unit)) p2)), Blk.mem (CV.pair (CV.whole 5) (CV.pure (Ty.pair (Ty.int i64) (Ty.pair (Ty.int i64) Ty.unit)) p3)), Blk.mem (CV.pure (Ty.slice (Ty.int u32)) p4), Blk.ghost 0, Blk.vec 99 (Ty.pair (Ty.int i64) (Ty.pair (Ty.slice (Ty.int u32)) Ty.unit)) p5] 5)
 | .e3 p1 p2 p3 p4 p5 => k (Ex.exit 0) (sx 89 [] [Blk.mem (CV.pure (Ty.pair (Ty.pair (Ty.slice (Ty.int u32)) (Ty.pair (Ty.slice (Ty.int i64)) (Ty.pair (Ty.int i64) Ty.unit))) (Ty.pair (Ty.int i64) (Ty.pair (Ty.int i64) Ty.unit))) p1), Blk.mem (CV.pair (CV.nil 99 (Ty.pair (Ty.int i64) (Ty.pair (Ty.slice (Ty.int u32)) Ty.unit))) (CV.pure (Ty.pair (Ty.int i64) (Ty.pair (Ty.int i64) Ty.unit)) p2)), Blk.mem (CV.pair (CV.whole 5) (CV.pure (Ty.pair (Ty.int i64) (Ty.pair (Ty.int i64) Ty.unit)) p3)), Blk.mem (CV.pure (Ty.slice (Ty.int u32)) p4), Blk.ghost 0, Blk.vec 99 (Ty.pair (Ty.int i64) (Ty.pair (Ty.slice (Ty.int u32)) Ty.unit)) p5] 5)
noncomputable def Sp.S_63_74_0_0 {R : Type} (K : Int → ((List Int × List Int × Int × Unit) × Int × Int × Unit) → (Int × Int × Unit) → (Int × Int × Unit) → List Int → Option R) (KB : Int → ((List Int × List Int × Int × Unit) × Int × Int × Unit) → (Int × Int × Unit) → (Int × Int × Unit) → List Int → (List (Int × List Int × Unit)) → Option R) (k : E_63_74_0_0 → Option R) (p0 : Int) (p1 : (List Int × List Int × Int × Unit) × Int × Int × Unit) (p2 p3 : Int × Int × Unit) (p4 : List Int) : Option R :=
 bif decide (p0 < (↑(length p4) : Int)) then gd (inB p0 (length p4)) (gd (p_54 (getD p4 (toNat p0) 0)) (bif !(v_54 (getD p4 (toNat p0) 0)).2.1 then k (E_63_74_0_0.e0 p1 p2 p3 p4) else bif decide (wrap i64 (Int.tdiv ((v_54 (getD p4 (toNat p0) 0)).1) 256) > 254) then k (E_63_74_0_0.e0 p1 p2 p3 p4) else bif decide (Int.tmod ((v_54 (getD p4 (toNat p0) 0)).1) (256 :Int) > (24 :Int)) then k (E_63_74_0_0.e0 p1 p2 p3 p4) else bif decide (wrap i64 (wrap i64 (p0 + Int.tmod ((v_54 (getD p4 (toNat p0) 0)).1) 256) + 2) > (↑(length p4) : Int)) then k (E_63_74_0_0.e0 p1 p2 p3 p4) else gd (inB (wrap i64 (wrap i64 (p0 + Int.tmod ((v_54 (getD p4 (toNat p0) 0)).1) 256) + 1)) (length p4)) (gd (p_54 (getD p4 (toNat (wrap i64 (wrap i64 (p0 + Int.tmod ((v_54 (getD p4 (toNat p0) 0)).1) 256) + 1))) 0)) (bif (v_54 (getD p4 (toNat (wrap i64 (wrap i64 (p0 + Int.tmod ((v_54 (getD p4 (toNat p0) 0)).1) 256) + 1))) 0)).2.1 then gd (sl3 p0 (wrap i64 (wrap i64 (p0 + Int.tmod ((v_54 (getD p4 (toNat p0) 0)).1) 256) + 1)) (↑(length p4) : Int)) (gd (p_75 (take (toNat (wrap i64 (wrap i64 (p0 + Int.tmod ((v_54 (getD p4 (toNat p0) 0)).1) 256) + 1)) - toNat p0) (drop (toNat p0) p4))) (bif (v_54 (getD p4 (toNat (wrap i64 (wrap i64 (p0 + Int.tmod ((v_54 (getD p4 (toNat p0) 0)).1) 256) + 1))) 0)).1 == (v_75 (take (toNat (wrap i64 (wrap i64 (p0 + Int.tmod ((v_54 (getD p4 (toNat p0) 0)).1) 256) + 1)) - toNat p0) (drop (toNat p0) p4))).1 then gd (sl3 (wrap i64 (p0 + 1)) (wrap i64 (wrap i64 (p0 + Int.tmod ((v_54 (getD p4 (toNat p0) 0)).1) 256) + 1)) (↑(length p4) : Int)) (B_63_74_1_0 (J_63_74_1_0 p0 (Int.tmod ((v_54 (getD p4 (toNat p0) 0)).1) 256) p1 p2 p3 p4 (wrap i64 (Int.tdiv ((v_54 (getD p4 (toNat p0) 0)).1) 256), take (toNat (wrap i64 (wrap i64 (p0 + Int.tmod ((v_54 (getD p4 (toNat p0) 0)).1) 256) + 1)) - toNat (wrap i64 (p0 + 1))) (drop (toNat (wrap i64 (p0 + 1))) p4), PUnit.unit)) (fun y57 y58 y59 y60 y61 y62 y63 y64 => KB (wrap i64 (y57 + wrap i64 (y58 + 2))) y60 y61 y62 y63 [(y59.1, y59.2.1, PUnit.unit)]) fun y65 y66 y67 y68 y69 y70 y71 => K (wrap i64 (y65 + wrap i64 (y66 + 2))) y67 y68 (wrap i64 (y65 + wrap i64 (y66 + 2)), y69.2) y70) else B_63_74_1_1 (J_63_74_1_1 p0 (Int.tmod ((v_54 (getD p4 (toNat p0) 0)).1) 256) p1 p2 p3 p4 (-1 : Int) []) (fun y72 y73 y74 y75 y76 y77 y78 y79 y80 => KB (wrap i64 (y72 + wrap i64 (y73 + 2))) y75 y76 y77 y78 [(y74, y80, PUnit.unit)]) fun y81 y82 y83 y84 y85 y86 y87 y88 => K (wrap i64 (y81 + wrap i64 (y82 + 2))) y83 y84 (wrap i64 (y81 + wrap i64 (y82 + 2)), y85.2) y86)) else B_63_74_1_1 (J_63_74_1_1 p0 (Int.tmod ((v_54 (getD p4 (toNat p0) 0)).1) 256) p1 p2 p3 p4 (-1 : Int) []) (fun y89 y90 y91 y92 y93 y94 y95 y96 y97 => KB (wrap i64 (y89 + wrap i64 (y90 + 2))) y92 y93 y94 y95 [(y91, y97, PUnit.unit)]) fun y98 y99 y100 y101 y102 y103 y104 y105 => K (wrap i64 (y98 + wrap i64 (y99 + 2))) y100 y101 (wrap i64 (y98 + wrap i64 (y99 + 2)), y102.2) y103)))) else k (E_63_74_0_0.e1 p1 p2 p3 p4)
noncomputable def C_63_74_0_0 : E_63_74_0_1 → E_63_74_0_0
 | .e0 p1 p2 p3 p4 p5 => .e2 p1 p2 p3 p4 p5
 | .e1 p1 p2 p3 p4 p5 => .e3 p1 p2 p3 p4 p5
theorem BC_63_74_0_0 (r : Option E_63_74_0_1) : B_63_74_0_1 r (fun p1 p2 p3 p4 p5 => some (E_63_74_0_0.e2 p1 p2 p3 p4 p5)) (fun p1 p2 p3 p4 p5 => some (E_63_74_0_0.e3 p1 p2 p3 p4 p5)) = r.bind fun e => some (C_63_74_0_0 e) := by
 cases r with
 | none => rfl
 | some e => cases e <;> rfl
noncomputable def Sp.L_63_74_0_0 : Nat → Int → ((List Int × List Int × Int × Unit) × Int × Int × Unit) → (Int × Int × Unit) → (Int × Int × Unit) → List Int → Option E_63_74_0_0
 | 0, _, _, _, _, _ => none
 | m + 1, p0, p1, p2, p3, p4 => S_63_74_0_0 (L_63_74_0_0 m) (fun q0 q1 q2 q3 q4 q5 => B_63_74_0_1 (L_63_74_0_1 m q0 q1 q2 q3 q4 q5) (fun p1 p2 p3 p4 p5 => some (E_63_74_0_0.e2 p1 p2 p3 p4 p5)) (fun p1 p2 p3 p4 p5 => some (E_63_74_0_0.e3 p1 p2 p3 p4 p5))) some p0 p1 p2 p3 p4
noncomputable def l_63_74_0_0 (m : Nat) (a : T_63_74_0_0.E) : Option E_63_74_0_0 := L_63_74_0_0 m a.1 a.2.1 a.2.2.1 a.2.2.2.1 a.2.2.2.2.1
noncomputable def O_63_74_0_0 {R : Type} : Orc R := orL T_63_74_0_0 (l_63_74_0_0 FU) Y_63_74_0_0 O_63_74_0_1
theorem OK_63_74_0_0 {R : Type} : okF (R := R) sm_63 5 (nf 74 0) O_63_74_0_0 := lp2 ov_63_74_ok (os := [O_63_74_1_3]) ⟨OK_63_74_1_3, trivial⟩ T_63_74_0_0 T_63_74_0_1 l_63_74_0_0 l_63_74_0_1 (fun R K KB k a => S_63_74_0_0 (fun p0 p1 p2 p3 p4 => K (p0, p1, p2, p3, p4, ())) (fun q0 q1 q2 q3 q4 q5 => KB (q0, q1, q2, q3, q4, q5, ())) k a.1 a.2.1 a.2.2.1 a.2.2.2.1 a.2.2.2.2.1) Y_63_74_0_0 Y_63_74_0_1 C_63_74_0_0 (fun _ => rfl) (fun m a => by
 unfold l_63_74_0_0
 rw [L_63_74_0_0]
 simp only [BC_63_74_0_0]
 rfl) (fun k e => by cases e <;> rfl) (fun k => loop_63_74_0_1 k) (fun k K a => by kernel_rfl) (fun Y K KB a => by
 unfold S_63_74_0_0
 repeat' first | apply gdN | apply condN | (apply Bn_63_74_1_0 <;> intros) | (apply Bn_63_74_1_1 <;> intros) | rfl) OK_63_74_0_1
noncomputable def g_63_74 {R : Type} : List CV → List Blk → (CV → List Blk → Option R) → Option R := evFnL sm_63 FU (ovr ov_63_74 (evFn sm_63 fns FU 5)) (mkT (fB fns 74) [O_63_74_0_0]) (fO fns 74)
theorem g_63_74_ok {R : Type} (args : List CV) (hp : List Blk) (k : CV → List Blk → Option R) (r : R) (h : g_63_74 args hp k = some r) : evFn sm_63 fns FU 6 74 args hp k = some r := runG ov_63_74_ok (os := [O_63_74_0_0]) ⟨OK_63_74_0_0, trivial⟩ h
noncomputable def ov_63_68 {R : Type} : Nat → Option (List CV → List Blk → (CV → List Blk → Option R) → Option R) := fun f' => bif Nat.beq f' 74 then some g_63_74 else none
theorem ov_63_68_ok {R : Type} : OvrOK (R := R) ov_63_68 (evFn sm_63 fns FU 6) := by
 intro f' g h args hp k r hg
 dsimp only [ov_63_68] at h
 by_cases h74 : f' = 74
 · subst h74
   injection h with h
   subst h
   exact evFn_le 0 (g_63_74_ok _ _ _ _ hg)
 rw [nbeq_ne h74, cond_false] at h
 cases h
noncomputable def g_63_68 {R : Type} : List CV → List Blk → (CV → List Blk → Option R) → Option R := evFnL sm_63 FU (ovr ov_63_68 (evFn sm_63 fns FU 6)) (mkT (fB fns 68) []) (fO fns 68)
theorem g_63_68_ok {R : Type} (args : List CV) (hp : List Blk) (k : CV → List Blk → Option R) (r : R) (h : g_63_68 args hp k = some r) : evFn sm_63 fns FU 7 68 args hp k = some r := runG ov_63_68_ok (os := []) trivial h
noncomputable def T_63_79_0_0 : PS := ⟨19, [(0, .hv (.slice (.int .u32))), (1, .kc (.clo 71 (.pure .unit PUnit.unit))), (7, .hv (.int .i64)), (8, .hv (.int .i64))], [.mem (.hv Zy63_4), .mem (.pr (.kc (.nil 99 Zy63_3)) (.hv Zy63_5)), .mem (.pr (.kc (.nil 99 Zy63_3)) (.hv Zy63_5)), .mem (.hv (.slice (.int .u32))), .dead], 5⟩
inductive Sp.E_63_79_0_0 where
 | e0 (p2 : Int) (p3 : Zt63_0) (p4 p5 : Zt63_1) (p6 : List Int)
 | e1 (p3 : Zt63_0) (p4 p5 : Zt63_1) (p6 : List Int)
noncomputable def Sp.B_63_79_0_0 {R : Type} (r : Option E_63_79_0_0) (k0 : Int → Zt63_0 → Zt63_1 → Zt63_1 → List Int → Option R) (k1 : Zt63_0 → Zt63_1 → Zt63_1 → List Int → Option R) : Option R := match r with
 | none => none
 | some (.e0 p2 p3 p4 p5 p6) => k0 p2 p3 p4 p5 p6
 | some (.e1 p3 p4 p5 p6) => k1 p3 p4 p5 p6
noncomputable def Y_63_79_0_0 {R : Type} (k : Ex → St → Option R) : E_63_79_0_0 → Option R
 | .e0 p2 p3 p4 p5 p6 => k Ex.ret (sx 19 [(4, CV.int i64 p2)] [Blk.mem (CV.pure (Ty.pair (Ty.pair (Ty.slice (Ty.int u32)) (Ty.pair (Ty.slice (Ty.int i64)) (Ty.pair (Ty.int i64) Ty.unit))) (Ty.pair (Ty.int i64) (Ty.pair (Ty.int i64) Ty.unit))) p3), Blk.mem (CV.pair (CV.nil 99 (Ty.pair (Ty.int i64) (Ty.pair (Ty.slice (Ty.int u32)) Ty.unit))) (CV.pure (Ty.pair (Ty.int i64) (Ty.pair (Ty.int i64) Ty.unit)) p4)), Blk.mem (CV.pair (CV.nil 99 (Ty.pair (Ty.int i64) (Ty.pair (Ty.slice (Ty.int u32)) Ty.unit))) (CV.pure (Ty.pair (Ty.int i64) (Ty.pair (Ty.int i64) Ty.unit)) p5)), Blk.mem (CV.pure (Ty.slice (Ty.int u32)) p6), Blk.dead] 5)
 | .e1 p3 p4 p5 p6 => k (Ex.exit 0) (sx 19 [] [Blk.mem (CV.pure (Ty.pair (Ty.pair (Ty.slice (Ty.int u32)) (Ty.pair (Ty.slice (Ty.int i64)) (Ty.pair (Ty.int i64) Ty.unit))) (Ty.pair (Ty.int i64) (Ty.pair (Ty.int i64) Ty.unit))) p3), Blk.mem (CV.pair (CV.nil 99 (Ty.pair (Ty.int i64) (Ty.pair (Ty.slice (Ty.int u32)) Ty.unit))) (CV.pure (Ty.pair (Ty.int i64) (Ty.pair (Ty.int i64) Ty.unit)) p4)), Blk.mem (CV.pair (CV.nil 99 (Ty.pair (Ty.int i64) (Ty.pair (Ty.slice (Ty.int u32)) Ty.unit))) (CV.pure (Ty.pair (Ty.int i64) (Ty.pair (Ty.int i64) Ty.unit)) p5)), Blk.mem (CV.pure (Ty.slice (Ty.int u32)) p6), Blk.dead] 5)
noncomputable def Sp.S_63_79_0_0 {R : Type} (K : List Int → Int → Int → ((List Int × List Int × Int × Unit) × Int × Int × Unit) → (Int × Int × Unit) → (Int × Int × Unit) → List Int → Option R) (k : E_63_79_0_0 → Option R) (p0 : List Int) (p1 p2 : Int) (p3 : (List Int × List Int × Int × Unit) × Int × Int × Unit) (p4 p5 : Int × Int × Unit) (p6 : List Int) : Option R :=
 bif decide (p2 < p1) then gd (inB p2 (length p0)) (bif getD p0 (toNat p2) (0 :Int) != (4294967295 :Int) then k (E_63_79_0_0.e0 p2 p3 p4 p5 p6) else K p0 p1 (wrap i64 (p2 + 1)) p3 p4 p5 p6) else k (E_63_79_0_0.e1 p3 p4 p5 p6)
noncomputable def Sp.L_63_79_0_0 : Nat → List Int → Int → Int → ((List Int × List Int × Int × Unit) × Int × Int × Unit) → (Int × Int × Unit) → (Int × Int × Unit) → List Int → Option E_63_79_0_0
 | 0, _, _, _, _, _, _, _ => none
 | m + 1, p0, p1, p2, p3, p4, p5, p6 => S_63_79_0_0 (L_63_79_0_0 m) some p0 p1 p2 p3 p4 p5 p6
noncomputable def l_63_79_0_0 (m : Nat) (a : T_63_79_0_0.E) : Option E_63_79_0_0 := L_63_79_0_0 m a.1 a.2.1 a.2.2.1 a.2.2.2.1 a.2.2.2.2.1 a.2.2.2.2.2.1 a.2.2.2.2.2.2.1
noncomputable def O_63_79_0_0 {R : Type} : Orc R := orL T_63_79_0_0 (l_63_79_0_0 FU) Y_63_79_0_0
theorem OK_63_79_0_0 {R : Type} : okF (R := R) sm_63 2 (nf 79 0) O_63_79_0_0 := lp0 T_63_79_0_0 l_63_79_0_0 (fun R K k a => S_63_79_0_0 (fun p0 p1 p2 p3 p4 p5 p6 => K (p0, p1, p2, p3, p4, p5, p6, ())) k a.1 a.2.1 a.2.2.1 a.2.2.2.1 a.2.2.2.2.1 a.2.2.2.2.2.1 a.2.2.2.2.2.2.1) Y_63_79_0_0 (fun _ _ _ => by kernel_rfl) (fun _ _ _ => by
 unfold S_63_79_0_0
 repeat' first | apply gdN | apply condN | rfl) (ok0 _)
noncomputable def T_63_79_0_1 : PS := ⟨19, [(0, .hv (.slice (.int .u32))), (1, .kc (.clo 71 (.pure .unit PUnit.unit))), (7, .hv (.int .i64)), (8, .hv (.int .i64))], [.mem (.hv Zy63_4), .mem (.pr (.kc (.nil 99 Zy63_3)) (.hv Zy63_5)), .mem (.pr (.kc (.whole 5)) (.hv Zy63_5)), .mem (.hv (.slice (.int .u32))), .dead, .vec 99 Zy63_3], 6⟩
inductive Sp.E_63_79_0_1 where
 | e0 (p2 : Int) (p3 : Zt63_0) (p4 p5 : Zt63_1) (p6 : List Int) (p7 : Zt63_2)
 | e1 (p3 : Zt63_0) (p4 p5 : Zt63_1) (p6 : List Int) (p7 : Zt63_2)
noncomputable def Sp.B_63_79_0_1 {R : Type} (r : Option E_63_79_0_1) (k0 : Int → Zt63_0 → Zt63_1 → Zt63_1 → List Int → Zt63_2 → Option R) (k1 : Zt63_0 → Zt63_1 → Zt63_1 → List Int → Zt63_2 → Option R) : Option R := match r with
 | none => none
 | some (.e0 p2 p3 p4 p5 p6 p7) => k0 p2 p3 p4 p5 p6 p7
 | some (.e1 p3 p4 p5 p6 p7) => k1 p3 p4 p5 p6 p7
noncomputable def Y_63_79_0_1 {R : Type} (k : Ex → St → Option R) : E_63_79_0_1 → Option R
 | .e0 p2 p3 p4 p5 p6 p7 => k Ex.ret (sx 19 [(4, CV.int i64 p2)] [Blk.mem (CV.pure (Ty.pair (Ty.pair (Ty.slice (Ty.int u32)) (Ty.pair (Ty.slice (Ty.int i64)) (Ty.pair (Ty.int i64) Ty.unit))) (Ty.pair (Ty.int i64) (Ty.pair (Ty.int i64) Ty.unit))) p3), Blk.mem (CV.pair (CV.nil 99 (Ty.pair (Ty.int i64) (Ty.pair (Ty.slice (Ty.int u32)) Ty.unit))) (CV.pure (Ty.pair (Ty.int i64) (Ty.pair (Ty.int i64) Ty.unit)) p4)), Blk.mem (CV.pair (CV.whole 5) (CV.pure (Ty.pair (Ty.int i64) (Ty.pair (Ty.int i64) Ty.unit)) p5)), Blk.mem (CV.pure (Ty.slice (Ty.int u32)) p6), Blk.dead, Blk.vec 99 (Ty.pair (Ty.int i64) (Ty.pair (Ty.slice (Ty.int u32)) Ty.unit)) p7] 6)
 | .e1 p3 p4 p5 p6 p7 => k (Ex.exit 0) (sx 19 [] [Blk.mem (CV.pure (Ty.pair (Ty.pair (Ty.slice (Ty.int u32)) (Ty.pair (Ty.slice (Ty.int i64)) (Ty.pair (Ty.int i64) Ty.unit))) (Ty.pair (Ty.int i64) (Ty.pair (Ty.int i64) Ty.unit))) p3), Blk.mem (CV.pair (CV.nil 99 (Ty.pair (Ty.int i64) (Ty.pair (Ty.slice (Ty.int u32)) Ty.unit))) (CV.pure (Ty.pair (Ty.int i64) (Ty.pair (Ty.int i64) Ty.unit)) p4)), Blk.mem (CV.pair (CV.whole 5) (CV.pure (Ty.pair (Ty.int i64) (Ty.pair (Ty.int i64) Ty.unit)) p5)), Blk.mem (CV.pure (Ty.slice (Ty.int u32)) p6), Blk.dead, Blk.vec 99 (Ty.pair (Ty.int i64) (Ty.pair (Ty.slice (Ty.int u32)) Ty.unit)) p7] 6)
noncomputable def Sp.S_63_79_0_1 {R : Type} (K : List Int → Int → Int → ((List Int × List Int × Int × Unit) × Int × Int × Unit) → (Int × Int × Unit) → (Int × Int × Unit) → List Int → (List (Int × List Int × Unit)) → Option R) (k : E_63_79_0_1 → Option R) (p0 : List Int) (p1 p2 : Int) (p3 : (List Int × List Int × Int × Unit) × Int × Int × Unit) (p4 p5 : Int × Int × Unit) (p6 : List Int) (p7 : List (Int × List Int × Unit)) : Option R :=
 bif decide (p2 < p1) then gd (inB p2 (length p0)) (bif getD p0 (toNat p2) (0 :Int) != (4294967295 :Int) then k (E_63_79_0_1.e0 p2 p3 p4 p5 p6 p7) else K p0 p1 (wrap i64 (p2 + 1)) p3 p4 p5 p6 p7) else k (E_63_79_0_1.e1 p3 p4 p5 p6 p7)
noncomputable def Sp.L_63_79_0_1 : Nat → List Int → Int → Int → ((List Int × List Int × Int × Unit) × Int × Int × Unit) → (Int × Int × Unit) → (Int × Int × Unit) → List Int → (List (Int × List Int × Unit)) → Option E_63_79_0_1
 | 0, _, _, _, _, _, _, _, _ => none
 | m + 1, p0, p1, p2, p3, p4, p5, p6, p7 => S_63_79_0_1 (L_63_79_0_1 m) some p0 p1 p2 p3 p4 p5 p6 p7
noncomputable def l_63_79_0_1 (m : Nat) (a : T_63_79_0_1.E) : Option E_63_79_0_1 := L_63_79_0_1 m a.1 a.2.1 a.2.2.1 a.2.2.2.1 a.2.2.2.2.1 a.2.2.2.2.2.1 a.2.2.2.2.2.2.1 a.2.2.2.2.2.2.2.1
noncomputable def O_63_79_0_1 {R : Type} : Orc R := orL T_63_79_0_1 (l_63_79_0_1 FU) Y_63_79_0_1 O_63_79_0_0
theorem OK_63_79_0_1 {R : Type} : okF (R := R) sm_63 2 (nf 79 0) O_63_79_0_1 := lp0 T_63_79_0_1 l_63_79_0_1 (fun R K k a => S_63_79_0_1 (fun p0 p1 p2 p3 p4 p5 p6 p7 => K (p0, p1, p2, p3, p4, p5, p6, p7, ())) k a.1 a.2.1 a.2.2.1 a.2.2.2.1 a.2.2.2.2.1 a.2.2.2.2.2.1 a.2.2.2.2.2.2.1 a.2.2.2.2.2.2.2.1) Y_63_79_0_1 (fun _ _ _ => by kernel_rfl) (fun _ _ _ => by
 unfold S_63_79_0_1
 repeat' first | apply gdN | apply condN | rfl) OK_63_79_0_0
noncomputable def g_63_79 {R : Type} : List CV → List Blk → (CV → List Blk → Option R) → Option R := evFnL sm_63 FU (ovr noO (evFn sm_63 fns FU 2)) (mkT (fB fns 79) [O_63_79_0_1]) (fO fns 79)
theorem g_63_79_ok {R : Type} (args : List CV) (hp : List Blk) (k : CV → List Blk → Option R) (r : R) (h : g_63_79 args hp k = some r) : evFn sm_63 fns FU 3 79 args hp k = some r := runG noO_ok (os := [O_63_79_0_1]) ⟨OK_63_79_0_1, trivial⟩ h
noncomputable def ov_63_70 {R : Type} : Nat → Option (List CV → List Blk → (CV → List Blk → Option R) → Option R) := fun f' => bif Nat.beq f' 79 then some g_63_79 else none
theorem ov_63_70_ok {R : Type} : OvrOK (R := R) ov_63_70 (evFn sm_63 fns FU 3) := by
 intro f' g h args hp k r hg
 dsimp only [ov_63_70] at h
 by_cases h79 : f' = 79
 · subst h79
   injection h with h
   subst h
   exact evFn_le 0 (g_63_79_ok _ _ _ _ hg)
 rw [nbeq_ne h79, cond_false] at h
 cases h
noncomputable def g_63_70 {R : Type} : List CV → List Blk → (CV → List Blk → Option R) → Option R := evFnL sm_63 FU (ovr ov_63_70 (evFn sm_63 fns FU 3)) (mkT (fB fns 70) []) (fO fns 70)
theorem g_63_70_ok {R : Type} (args : List CV) (hp : List Blk) (k : CV → List Blk → Option R) (r : R) (h : g_63_70 args hp k = some r) : evFn sm_63 fns FU 4 70 args hp k = some r := runG ov_63_70_ok (os := []) trivial h
noncomputable def ov_63_63 {R : Type} : Nat → Option (List CV → List Blk → (CV → List Blk → Option R) → Option R) := fun f' => bif Nat.beq f' 68 then some g_63_68 else bif Nat.beq f' 70 then some g_63_70 else bif Nat.beq f' 74 then some g_63_74 else bif Nat.beq f' 1000063 then some g_63_1000063 else none
theorem ov_63_63_ok {R : Type} : OvrOK (R := R) ov_63_63 (evFn sm_63 fns FU 7) := by
 intro f' g h args hp k r hg
 dsimp only [ov_63_63] at h
 by_cases h68 : f' = 68
 · subst h68
   injection h with h
   subst h
   exact evFn_le 0 (g_63_68_ok _ _ _ _ hg)
 rw [nbeq_ne h68, cond_false] at h
 by_cases h70 : f' = 70
 · subst h70
   injection h with h
   subst h
   exact evFn_le 3 (g_63_70_ok _ _ _ _ hg)
 rw [nbeq_ne h70, cond_false] at h
 by_cases h74 : f' = 74
 · subst h74
   injection h with h
   subst h
   exact evFn_le 1 (g_63_74_ok _ _ _ _ hg)
 rw [nbeq_ne h74, cond_false] at h
 by_cases h1000063 : f' = 1000063
 · subst h1000063
   injection h with h
   subst h
   exact evFn_le 2 (g_63_1000063_ok _ _ _ _ hg)
 rw [nbeq_ne h1000063, cond_false] at h
 cases h
noncomputable def F_63 (a0 : (((List Int) × ((List Int) × (Int × Unit))) × (Int × (Int × Unit)))) (a1 : Int) : Option (((List (Int × ((List Int) × Unit))) × (Int × (Int × Unit))) × Unit) :=
 gd (p_55 a0 a1) (B_63_74_0_0 (L_63_74_0_0 4611686018427387904 1 a0 (0, 0, PUnit.unit) (1, 0, PUnit.unit) ((v_55 a0 a1).1)) (fun y58 y59 y60 y61 => gd (sl3 (y60.1) (↑(length ((v_55 a0 a1).1)) : Int) (↑(length ((v_55 a0 a1).1)) : Int)) (B_63_79_0_0 (L_63_79_0_0 4611686018427387904 (drop (toNat (y60.1)) ((v_55 a0 a1).1)) (↑(length (drop (toNat (y60.1)) ((v_55 a0 a1).1))) : Int) 0 y58 y59 y60 y61) (fun y62 y63 y64 y65 y66 => bif !decide (y62 ≥ 0) then some (([], y65.1, wrap i64 ((↑(length ((v_55 a0 a1).1)) : Int) - y65.1), y65.2.2), PUnit.unit) else some (([], y65), PUnit.unit)) fun y67 y68 y69 y70 => some (([], y69.1, wrap i64 ((↑(length ((v_55 a0 a1).1)) : Int) - y69.1), y69.2.2), PUnit.unit))) (fun y71 y72 y73 y74 => gd (sl3 (y73.1) (↑(length ((v_55 a0 a1).1)) : Int) (↑(length ((v_55 a0 a1).1)) : Int)) (B_63_79_0_0 (L_63_79_0_0 4611686018427387904 (drop (toNat (y73.1)) ((v_55 a0 a1).1)) (↑(length (drop (toNat (y73.1)) ((v_55 a0 a1).1))) : Int) 0 y71 y72 y73 y74) (fun y75 y76 y77 y78 y79 => bif !decide (y75 ≥ 0) then some (([], y78.1, wrap i64 ((↑(length ((v_55 a0 a1).1)) : Int) - y78.1), y78.2.2), PUnit.unit) else some (([], y78), PUnit.unit)) fun y80 y81 y82 y83 => some (([], y82.1, wrap i64 ((↑(length ((v_55 a0 a1).1)) : Int) - y82.1), y82.2.2), PUnit.unit))) (fun y84 y85 y86 y87 y88 => gd (sl3 (y86.1) (↑(length ((v_55 a0 a1).1)) : Int) (↑(length ((v_55 a0 a1).1)) : Int)) (B_63_79_0_1 (L_63_79_0_1 4611686018427387904 (drop (toNat (y86.1)) ((v_55 a0 a1).1)) (↑(length (drop (toNat (y86.1)) ((v_55 a0 a1).1))) : Int) 0 y84 y85 y86 y87 y88) (fun y89 y90 y91 y92 y93 y94 => bif !decide (y89 ≥ 0) then some ((y94, y92.1, wrap i64 ((↑(length ((v_55 a0 a1).1)) : Int) - y92.1), y92.2.2), PUnit.unit) else some ((y94, y92), PUnit.unit)) fun y95 y96 y97 y98 y99 => some ((y99, y97.1, wrap i64 ((↑(length ((v_55 a0 a1).1)) : Int) - y97.1), y97.2.2), PUnit.unit))) fun y100 y101 y102 y103 y104 => gd (sl3 (y102.1) (↑(length ((v_55 a0 a1).1)) : Int) (↑(length ((v_55 a0 a1).1)) : Int)) (B_63_79_0_1 (L_63_79_0_1 4611686018427387904 (drop (toNat (y102.1)) ((v_55 a0 a1).1)) (↑(length (drop (toNat (y102.1)) ((v_55 a0 a1).1))) : Int) 0 y100 y101 y102 y103 y104) (fun y105 y106 y107 y108 y109 y110 => bif !decide (y105 ≥ 0) then some ((y110, y108.1, wrap i64 ((↑(length ((v_55 a0 a1).1)) : Int) - y108.1), y108.2.2), PUnit.unit) else some ((y110, y108), PUnit.unit)) fun y111 y112 y113 y114 y115 => some ((y115, y113.1, wrap i64 ((↑(length ((v_55 a0 a1).1)) : Int) - y113.1), y113.2.2), PUnit.unit)))
noncomputable def Sp.p_63 (a0 : (((List Int) × ((List Int) × (Int × Unit))) × (Int × (Int × Unit)))) (a1 : Int) : Bool := (F_63 a0 a1).isSome
noncomputable def Sp.v_63 (a0 : (((List Int) × ((List Int) × (Int × Unit))) × (Int × (Int × Unit)))) (a1 : Int) : ((List (Int × ((List Int) × Unit))) × (Int × (Int × Unit))) × Unit := (F_63 a0 a1).getD (dfH R_63)
noncomputable def s_63 : Summ := ownS A_63 99 [] Zy63_7 [] (fun x => p_63 x.1 x.2.1) (fun x => v_63 x.1 x.2.1)
theorem pv_63 (a0 : (((List Int) × ((List Int) × (Int × Unit))) × (Int × (Int × Unit)))) (a1 : Int) {y : ((List (Int × ((List Int) × Unit))) × (Int × (Int × Unit))) × Unit} (h : F_63 a0 a1 = some y) : p_63 a0 a1 = true ∧ v_63 a0 a1 = y := pvG h
theorem run_63 (x : HDen A_63) (y : HDen R_63) (h : F_63 x.1 x.2.1 = some y) : evFn sm_63 fns FU 8 63 (ofH A_63 x) [] (ownK 99 [] Zy63_7 []) = some y := runG ov_63_63_ok (os := []) trivial (Eq.trans (by kernel_rfl) h)
end
noncomputable section
abbrev A_49 : List Ty := [(.pair (.pair (.slice (.int .u32)) (.pair (.slice (.int .i64)) (.pair (.int .i64) .unit))) (.pair (.int .i64) (.pair (.int .i64) .unit)))]
abbrev R_49 : List Ty := [(.slice (.pair (.int .i64) (.pair (.slice (.int .u32)) .unit))), (.int .i64)]
noncomputable def sm_49 : Nat → Option Summ := smL [(17, s_17), (25, s_25), (63, s_63)]
noncomputable def F_49 (a0 : (((List Int) × ((List Int) × (Int × Unit))) × (Int × (Int × Unit)))) : Option ((List (Int × ((List Int) × Unit))) × Int × Unit) :=
 gd (p_25 a0) (bif !(v_25 a0).1 then some ([], 1, PUnit.unit) else gd (p_17 a0) (gd (p_63 a0 ((v_17 a0).1)) (some ((v_63 a0 ((v_17 a0).1)).1.1, 0, PUnit.unit))))
noncomputable def Sp.p_49 (a0 : (((List Int) × ((List Int) × (Int × Unit))) × (Int × (Int × Unit)))) : Bool := (F_49 a0).isSome
noncomputable def Sp.v_49 (a0 : (((List Int) × ((List Int) × (Int × Unit))) × (Int × (Int × Unit)))) : (List (Int × ((List Int) × Unit))) × Int × Unit := (F_49 a0).getD (dfH R_49)
noncomputable def s_49 : Summ := shS A_49 R_49 (fun x => p_49 x.1) (fun x => v_49 x.1)
theorem pv_49 (a0 : (((List Int) × ((List Int) × (Int × Unit))) × (Int × (Int × Unit)))) {y : (List (Int × ((List Int) × Unit))) × Int × Unit} (h : F_49 a0 = some y) : p_49 a0 = true ∧ v_49 a0 = y := pvG h
theorem run_49 (x : HDen A_49) (y : HDen R_49) (h : F_49 x.1 = some y) : rnF sm_49 1 49 A_49 R_49 x y := runG noO_ok (os := []) trivial (Eq.trans (by kernel_rfl) h)
end
noncomputable section
abbrev A_28 : List Ty := [(.pair (.pair (.slice (.int .u32)) (.pair (.slice (.int .i64)) (.pair (.int .i64) .unit))) (.pair (.int .i64) (.pair (.int .i64) .unit))), (.int .i64)]
abbrev R_28 : List Ty := [(.slice (.int .u32)), (.int .i64)]
noncomputable def sm_28 : Nat → Option Summ := smL [(49, s_49)]
noncomputable def T_28_0 : PS := ⟨39, [(1, .hv (.int .i64)), (26, .hv (.slice (.pair (.int .i64) (.pair (.slice (.int .u32)) .unit)))), (27, .hv (.int .i64)), (28, .hv (.int .i64))], [], 0⟩
inductive Sp.E_28_0 where
 | e0 (p1 : List (Int × List Int × Unit)) (p3 : Int)
 | e1
noncomputable def Sp.B_28_0 {R : Type} (r : Option E_28_0) (k0 : (List (Int × List Int × Unit)) → Int → Option R) (k1 : Option R) : Option R := match r with
 | none => none
 | some (.e0 p1 p3) => k0 p1 p3
 | some (.e1) => k1
noncomputable def Y_28_0 {R : Type} (k : Ex → St → Option R) : E_28_0 → Option R
 | .e0 p1 p3 => k Ex.ret (sx 39 [(4, CV.pure (Ty.slice (Ty.int u32)) (((getD p1 (toNat p3) Zd3).2.1) : (List Int))), (5, CV.int i64 0)] [])
 | .e1 => k (Ex.exit 1) (sx 39 [] [])
noncomputable def Sp.S_28_0 {R : Type} (K : Int → (List (Int × List Int × Unit)) → Int → Int → Option R) (k : E_28_0 → Option R) (p0 : Int) (p1 : List (Int × List Int × Unit)) (p2 p3 : Int) : Option R :=
 bif decide (p3 < p2) then gd (inB p3 (length p1)) (bif (getD p1 (toNat p3) Zd3).1 == p0 then k (E_28_0.e0 p1 p3) else K p0 p1 p2 (wrap i64 (p3 + 1))) else k (E_28_0.e1)
noncomputable def Sp.L_28_0 : Nat → Int → (List (Int × List Int × Unit)) → Int → Int → Option E_28_0
 | 0, _, _, _, _ => none
 | m + 1, p0, p1, p2, p3 => S_28_0 (L_28_0 m) some p0 p1 p2 p3
noncomputable def l_28_0 (m : Nat) (a : T_28_0.E) : Option E_28_0 := L_28_0 m a.1 a.2.1 a.2.2.1 a.2.2.2.1
noncomputable def O_28_0 {R : Type} : Orc R := orL T_28_0 (l_28_0 FU) Y_28_0
theorem OK_28_0 {R : Type} : okF (R := R) sm_28 0 (nf 28 0) O_28_0 := lp0 T_28_0 l_28_0 (fun R K k a => S_28_0 (fun p0 p1 p2 p3 => K (p0, p1, p2, p3, ())) k a.1 a.2.1 a.2.2.1 a.2.2.2.1) Y_28_0 (fun _ _ _ => by kernel_rfl) (fun _ _ _ => by
 unfold S_28_0
 repeat' first | apply gdN | apply condN | rfl) (ok0 _)
noncomputable def F_28 (a0 : (((List Int) × ((List Int) × (Int × Unit))) × (Int × (Int × Unit)))) (a1 : Int) : Option ((List Int) × Int × Unit) :=
 gd (p_49 a0) (bif (v_49 a0).2.1 != 0 then some ([], (v_49 a0).2.1, PUnit.unit) else bif decide (a1 < 0) then some ([], 2, PUnit.unit) else bif decide (a1 > 254) then some ([], 2, PUnit.unit) else B_28_0 (L_28_0 4611686018427387904 a1 ((v_49 a0).1) (↑(length ((v_49 a0).1)) : Int) 0) (fun y2 y3 => some ((getD y2 (toNat y3) Zd3).2.1, 0, PUnit.unit)) (some ([], 7, PUnit.unit)))
noncomputable def Sp.p_28 (a0 : (((List Int) × ((List Int) × (Int × Unit))) × (Int × (Int × Unit)))) (a1 : Int) : Bool := (F_28 a0 a1).isSome
noncomputable def Sp.v_28 (a0 : (((List Int) × ((List Int) × (Int × Unit))) × (Int × (Int × Unit)))) (a1 : Int) : (List Int) × Int × Unit := (F_28 a0 a1).getD (dfH R_28)
noncomputable def s_28 : Summ := shS A_28 R_28 (fun x => p_28 x.1 x.2.1) (fun x => v_28 x.1 x.2.1)
theorem pv_28 (a0 : (((List Int) × ((List Int) × (Int × Unit))) × (Int × (Int × Unit)))) (a1 : Int) {y : (List Int) × Int × Unit} (h : F_28 a0 a1 = some y) : p_28 a0 a1 = true ∧ v_28 a0 a1 = y := pvG h
theorem run_28 (x : HDen A_28) (y : HDen R_28) (h : F_28 x.1 x.2.1 = some y) : rnF sm_28 1 28 A_28 R_28 x y := runG noO_ok (os := [O_28_0]) ⟨OK_28_0, trivial⟩ (Eq.trans (by kernel_rfl) h)
end
noncomputable section
abbrev A_27 : List Ty := [(.pair (.pair (.slice (.int .u32)) (.pair (.slice (.int .i64)) (.pair (.int .i64) .unit))) (.pair (.int .i64) (.pair (.int .i64) .unit)))]
abbrev R_27 : List Ty := [(.int .i64)]
noncomputable def sm_27 : Nat → Option Summ := smL [(28, s_28)]
noncomputable def F_27 (a0 : (((List Int) × ((List Int) × (Int × Unit))) × (Int × (Int × Unit)))) : Option (Int × Unit) :=
 gd (p_28 a0 254) (bif (v_28 a0 254).2.1 != 0 then some (0, PUnit.unit) else bif (↑(length ((v_28 a0 254).1)) : Int) != 1 then some (0, PUnit.unit) else gd (inB 0 (length ((v_28 a0 254).1))) (bif decide (getD ((v_28 a0 254).1) 0 (0 :Int) > (1073741824 :Int)) then some (0, PUnit.unit) else gd (inB 0 (length ((v_28 a0 254).1))) (some (wrap i64 (getD ((v_28 a0 254).1) 0 0), PUnit.unit))))
noncomputable def Sp.p_27 (a0 : (((List Int) × ((List Int) × (Int × Unit))) × (Int × (Int × Unit)))) : Bool := (F_27 a0).isSome
noncomputable def Sp.v_27 (a0 : (((List Int) × ((List Int) × (Int × Unit))) × (Int × (Int × Unit)))) : Int × Unit := (F_27 a0).getD (dfH R_27)
noncomputable def s_27 : Summ := shN A_27 R_27 (fun x => p_27 x.1) (fun x => v_27 x.1)
theorem pv_27 (a0 : (((List Int) × ((List Int) × (Int × Unit))) × (Int × (Int × Unit)))) {y : Int × Unit} (h : F_27 a0 = some y) : p_27 a0 = true ∧ v_27 a0 = y := pvG h
theorem run_27 (x : HDen A_27) (y : HDen R_27) (h : F_27 x.1 = some y) : rnF sm_27 1 27 A_27 R_27 x y := runG noO_ok (os := []) trivial (Eq.trans (by kernel_rfl) h)
end
end Go.Ev
