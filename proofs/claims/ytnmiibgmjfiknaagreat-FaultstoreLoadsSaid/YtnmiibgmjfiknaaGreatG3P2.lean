/- Helpers: functions of the program as Lean functions, and what they compute. No condition. -/
import Derived.Test.YtnmiibgmjfiknaaGreatG3P1
import Derived.Test.YtnmiibgmjfiknaaGreatProg
import Derived.Test.YtnmiibgmjfiknaaGreatE3P2
import Derived.Test.YtnmiibgmjfiknaaGreatG3P0
set_option maxRecDepth 10000
set_option linter.unusedVariables false
set_option linter.unusedSimpArgs false
open Go.IntKind (wrap i64 i32 i16 i8 u64 u32 u16 u8)
open List (getD length take drop replicate)
open Int (toNat)
open Go.Ev.Sp
namespace Go.Ev
open Go
set_option maxRecDepth 100000
set_option maxHeartbeats 4000000
set_option linter.unusedVariables false
noncomputable section
abbrev Zy44_0 : Ty := (.pair (.slice (.pair (.int .i64) (.pair (.int .i64) (.pair (.int .i64) (.pair (.int .i64) (.pair (.int .i64) (.pair (.int .i64) (.pair .bool (.pair (.int .i64) .unit))))))))) (.pair (.slice (.pair (.int .i64) (.pair (.int .i64) (.pair (.int .i64) (.pair (.int .i64) (.pair (.int .i64) (.pair (.slice (.int .i64)) (.pair (.int .i64) .unit)))))))) (.pair (.int .i64) (.pair .bool .unit))))
abbrev Zt44_1 : Type := List (Int × Int × Int × Int × Int × Int × Bool × Int × Unit) × List (Int × Int × Int × Int × Int × List Int × Int × Unit) × Int × Bool × Unit
abbrev A_44 : List Ty := [(.pair (.slice (.pair (.int .i64) (.pair (.int .i64) (.pair (.int .i64) (.pair (.int .i64) (.pair (.int .i64) (.pair (.int .i64) (.pair .bool (.pair (.int .i64) .unit))))))))) (.pair (.slice (.pair (.int .i64) (.pair (.int .i64) (.pair (.int .i64) (.pair (.int .i64) (.pair (.int .i64) (.pair (.slice (.int .i64)) (.pair (.int .i64) .unit)))))))) (.pair (.int .i64) (.pair .bool .unit))))]
abbrev R_44 : List Ty := [.bool]
noncomputable def sm_44 : Nat → Option Summ := smL [(82, s_82), (84, s_84), (85, s_85), (117, s_117)]
noncomputable def T_44_116_0_0 : PS := ⟨19, [(0, .hv (.slice (.pair (.int .i64) (.pair (.int .i64) (.pair (.int .i64) (.pair (.int .i64) (.pair (.int .i64) (.pair (.int .i64) (.pair .bool (.pair (.int .i64) .unit)))))))))), (1, .kc (.clo 81 (.pure .unit PUnit.unit))), (7, .hv (.int .i64)), (8, .hv (.int .i64))], [.mem (.hv Zy44_0)], 1⟩
inductive Sp.E_44_116_0_0 where
 | e0 (p2 : Int) (p3 : Zt44_1)
 | e1 (p3 : Zt44_1)
noncomputable def Sp.B_44_116_0_0 {R : Type} (r : Option E_44_116_0_0) (k0 : Int → Zt44_1 → Option R) (k1 : Zt44_1 → Option R) : Option R := match r with
 | none => none
 | some (.e0 p2 p3) => k0 p2 p3
 | some (.e1 p3) => k1 p3
noncomputable def Y_44_116_0_0 {R : Type} (k : Ex → St → Option R) : E_44_116_0_0 → Option R
 | .e0 p2 p3 => k Ex.ret (sx 19 [(4, CV.int i64 p2)] [Blk.mem (CV.pure (Ty.pair (Ty.slice (Ty.pair (Ty.int i64) (Ty.pair (Ty.int i64) (Ty.pair (Ty.int i64) (Ty.pair (Ty.int i64) (Ty.pair (Ty.int i64) (Ty.pair (Ty.int i64) (Ty.pair Ty.bool (Ty.pair (Ty.int i64) Ty.unit))))))))) (Ty.pair (Ty.slice (Ty.pair (Ty.int i64) (Ty.pair (Ty.int i64) (Ty.pair (Ty.int i64) (Ty.pair (Ty.int i64) (Ty.pair (Ty.int i64) (Ty.pair (Ty.slice (Ty.int i64)) (Ty.pair (Ty.int i64) Ty.unit)))))))) (Ty.pair (Ty.int i64) (Ty.pair Ty.bool Ty.unit)))) p3)] 1)
 | .e1 p3 => k (Ex.exit 0) (sx 19 [] [Blk.mem (CV.pure (Ty.pair (Ty.slice (Ty.pair (Ty.int i64) (Ty.pair (Ty.int i64) (Ty.pair (Ty.int i64) (Ty.pair (Ty.int i64) (Ty.pair (Ty.int i64) (Ty.pair (Ty.int i64) (Ty.pair Ty.bool (Ty.pair (Ty.int i64) Ty.unit))))))))) (Ty.pair (Ty.slice (Ty.pair (Ty.int i64) (Ty.pair (Ty.int i64) (Ty.pair (Ty.int i64) (Ty.pair (Ty.int i64) (Ty.pair (Ty.int i64) (Ty.pair (Ty.slice (Ty.int i64)) (Ty.pair (Ty.int i64) Ty.unit)))))))) (Ty.pair (Ty.int i64) (Ty.pair Ty.bool Ty.unit)))) p3)] 1)
noncomputable def Sp.S_44_116_0_0 {R : Type} (K : (List (Int × Int × Int × Int × Int × Int × Bool × Int × Unit)) → Int → Int → (List (Int × Int × Int × Int × Int × Int × Bool × Int × Unit) × List (Int × Int × Int × Int × Int × List Int × Int × Unit) × Int × Bool × Unit) → Option R) (k : E_44_116_0_0 → Option R) (p0 : List (Int × Int × Int × Int × Int × Int × Bool × Int × Unit)) (p1 p2 : Int) (p3 : List (Int × Int × Int × Int × Int × Int × Bool × Int × Unit) × List (Int × Int × Int × Int × Int × List Int × Int × Unit) × Int × Bool × Unit) : Option R :=
 bif decide (p2 < p1) then gd (inB p2 (length p0)) (gd (p_117 (getD p0 (toNat p2) Zd1)) (bif !(v_117 (getD p0 (toNat p2) Zd1)).1 then k (E_44_116_0_0.e0 p2 p3) else K p0 p1 (wrap i64 (p2 + 1)) p3)) else k (E_44_116_0_0.e1 p3)
noncomputable def Sp.L_44_116_0_0 : Nat → (List (Int × Int × Int × Int × Int × Int × Bool × Int × Unit)) → Int → Int → (List (Int × Int × Int × Int × Int × Int × Bool × Int × Unit) × List (Int × Int × Int × Int × Int × List Int × Int × Unit) × Int × Bool × Unit) → Option E_44_116_0_0
 | 0, _, _, _, _ => none
 | m + 1, p0, p1, p2, p3 => S_44_116_0_0 (L_44_116_0_0 m) some p0 p1 p2 p3
noncomputable def l_44_116_0_0 (m : Nat) (a : T_44_116_0_0.E) : Option E_44_116_0_0 := L_44_116_0_0 m a.1 a.2.1 a.2.2.1 a.2.2.2.1
noncomputable def O_44_116_0_0 {R : Type} : Orc R := orL T_44_116_0_0 (l_44_116_0_0 FU) Y_44_116_0_0
theorem OK_44_116_0_0 {R : Type} : okF (R := R) sm_44 3 (nf 116 0) O_44_116_0_0 := lp0 T_44_116_0_0 l_44_116_0_0 (fun R K k a => S_44_116_0_0 (fun p0 p1 p2 p3 => K (p0, p1, p2, p3, ())) k a.1 a.2.1 a.2.2.1 a.2.2.2.1) Y_44_116_0_0 (fun _ _ _ => by kernel_rfl) (fun _ _ _ => by
 unfold S_44_116_0_0
 repeat' first | apply gdN | apply condN | rfl) (ok0 _)
noncomputable def g_44_116 {R : Type} : List CV → List Blk → (CV → List Blk → Option R) → Option R := evFnL sm_44 FU (ovr noO (evFn sm_44 fns FU 3)) (mkT (fB fns 116) [O_44_116_0_0]) (fO fns 116)
theorem g_44_116_ok {R : Type} (args : List CV) (hp : List Blk) (k : CV → List Blk → Option R) (r : R) (h : g_44_116 args hp k = some r) : evFn sm_44 fns FU 4 116 args hp k = some r := runG noO_ok (os := [O_44_116_0_0]) ⟨OK_44_116_0_0, trivial⟩ h
noncomputable def ov_44_80 {R : Type} : Nat → Option (List CV → List Blk → (CV → List Blk → Option R) → Option R) := fun f' => bif Nat.beq f' 116 then some g_44_116 else none
theorem ov_44_80_ok {R : Type} : OvrOK (R := R) ov_44_80 (evFn sm_44 fns FU 4) := by
 intro f' g h args hp k r hg
 dsimp only [ov_44_80] at h
 by_cases h116 : f' = 116
 · subst h116
   injection h with h
   subst h
   exact evFn_le 0 (g_44_116_ok _ _ _ _ hg)
 rw [nbeq_ne h116, cond_false] at h
 cases h
noncomputable def g_44_80 {R : Type} : List CV → List Blk → (CV → List Blk → Option R) → Option R := evFnL sm_44 FU (ovr ov_44_80 (evFn sm_44 fns FU 4)) (mkT (fB fns 80) []) (fO fns 80)
theorem g_44_80_ok {R : Type} (args : List CV) (hp : List Blk) (k : CV → List Blk → Option R) (r : R) (h : g_44_80 args hp k = some r) : evFn sm_44 fns FU 5 80 args hp k = some r := runG ov_44_80_ok (os := []) trivial h
noncomputable def ov_44_44 {R : Type} : Nat → Option (List CV → List Blk → (CV → List Blk → Option R) → Option R) := fun f' => bif Nat.beq f' 80 then some g_44_80 else none
theorem ov_44_44_ok {R : Type} : OvrOK (R := R) ov_44_44 (evFn sm_44 fns FU 5) := by
 intro f' g h args hp k r hg
 dsimp only [ov_44_44] at h
 by_cases h80 : f' = 80
 · subst h80
   injection h with h
   subst h
   exact evFn_le 0 (g_44_80_ok _ _ _ _ hg)
 rw [nbeq_ne h80, cond_false] at h
 cases h
noncomputable def T_44_1 : PS := ⟨63, [(1, .kc (.ptr 0 [])), (45, .hv (.slice (.pair (.int .i64) (.pair (.int .i64) (.pair (.int .i64) (.pair (.int .i64) (.pair (.int .i64) (.pair (.slice (.int .i64)) (.pair (.int .i64) .unit))))))))), (46, .hv (.int .i64)), (47, .hv (.int .i64))], [.mem (.hv Zy44_0)], 0⟩
inductive Sp.E_44_1 where
 | e0
 | e1
noncomputable def Sp.B_44_1 {R : Type} (r : Option E_44_1) (k0 k1 : Option R) : Option R := match r with
 | none => none
 | some (.e0) => k0
 | some (.e1) => k1
theorem Bn_44_1 {A R : Type} {r : Option E_44_1} {f : A → Option R} {k0 : Option A} {k1 : Option A} {l0 : Option R} {l1 : Option R} (h0 : (k0).bind f = l0) (h1 : (k1).bind f = l1) : (B_44_1 r k0 k1).bind f = B_44_1 r l0 l1 := by
 cases r with
 | none => rfl
 | some e => cases e <;> first | apply h0 | apply h1
noncomputable def Y_44_1 {R : Type} (k : Ex → St → Option R) : E_44_1 → Option R
 | .e0 => k Ex.ret (sx 63 [(2, CV.bool false)] [])
 | .e1 => k (Ex.exit 0) (sx 63 [] [])
noncomputable def Sp.S_44_1 {R : Type} (K : (List (Int × Int × Int × Int × Int × List Int × Int × Unit)) → Int → Int → (List (Int × Int × Int × Int × Int × Int × Bool × Int × Unit) × List (Int × Int × Int × Int × Int × List Int × Int × Unit) × Int × Bool × Unit) → Option R) (k : E_44_1 → Option R) (p0 : List (Int × Int × Int × Int × Int × List Int × Int × Unit)) (p1 p2 : Int) (p3 : List (Int × Int × Int × Int × Int × Int × Bool × Int × Unit) × List (Int × Int × Int × Int × Int × List Int × Int × Unit) × Int × Bool × Unit) : Option R :=
 bif decide (p2 < p1) then gd (inB p2 (length p0)) (gd (inB p2 (length (p3.1))) (gd (p_85 (getD (p3.1) (toNat p2) Zd1) (getD p0 (toNat p2) Zd0) (p3.2.2.1)) (bif !(v_85 (getD (p3.1) (toNat p2) Zd1) (getD p0 (toNat p2) Zd0) (p3.2.2.1)).1 then k (E_44_1.e0) else K p0 p1 (wrap i64 (p2 + 1)) p3))) else k (E_44_1.e1)
noncomputable def Sp.L_44_1 : Nat → (List (Int × Int × Int × Int × Int × List Int × Int × Unit)) → Int → Int → (List (Int × Int × Int × Int × Int × Int × Bool × Int × Unit) × List (Int × Int × Int × Int × Int × List Int × Int × Unit) × Int × Bool × Unit) → Option E_44_1
 | 0, _, _, _, _ => none
 | m + 1, p0, p1, p2, p3 => S_44_1 (L_44_1 m) some p0 p1 p2 p3
noncomputable def l_44_1 (m : Nat) (a : T_44_1.E) : Option E_44_1 := L_44_1 m a.1 a.2.1 a.2.2.1 a.2.2.2.1
noncomputable def O_44_1 {R : Type} : Orc R := orL T_44_1 (l_44_1 FU) Y_44_1
theorem OK_44_1 {R : Type} : okF (R := R) sm_44 5 (ni (nf 44 0) 0) O_44_1 := lp ov_44_44_ok (os := []) trivial T_44_1 l_44_1 (fun R K k a => S_44_1 (fun p0 p1 p2 p3 => K (p0, p1, p2, p3, ())) k a.1 a.2.1 a.2.2.1 a.2.2.2.1) Y_44_1 (fun _ => rfl) (fun _ _ => rfl) (fun k K a => by kernel_rfl) (fun Y K a => by
 unfold S_44_1
 repeat' first | apply gdN | apply condN | rfl) (ok0 _)
noncomputable def T_44_0 : PS := ⟨63, [(1, .kc (.ptr 0 []))], [.mem (.hv Zy44_0)], 0⟩
inductive Sp.E_44_0 where
 | e0
 | e1
noncomputable def Sp.B_44_0 {R : Type} (r : Option E_44_0) (k0 k1 : Option R) : Option R := match r with
 | none => none
 | some (.e0) => k0
 | some (.e1) => k1
noncomputable def Y_44_0 {R : Type} (k : Ex → St → Option R) : E_44_0 → Option R
 | .e0 => k Ex.ret (sx 63 [(2, CV.bool false)] [])
 | .e1 => k Ex.ret (sx 63 [(2, CV.bool true)] [])
noncomputable def Sp.S_44_0 {R : Type} (k : E_44_0 → Option R) (p0 : List (Int × Int × Int × Int × Int × Int × Bool × Int × Unit) × List (Int × Int × Int × Int × Int × List Int × Int × Unit) × Int × Bool × Unit) : Option R :=
 B_44_1 (L_44_1 4611686018427387904 (p0.2.1) (↑(length (p0.2.1)) : Int) 0 p0) (k (E_44_0.e0)) (k (E_44_0.e1))
noncomputable def Sp.J_44_0 (p0 : List (Int × Int × Int × Int × Int × Int × Bool × Int × Unit) × List (Int × Int × Int × Int × Int × List Int × Int × Unit) × Int × Bool × Unit) : Option E_44_0 := S_44_0 some p0
noncomputable def O_44_0 {R : Type} : Orc R := orL T_44_0 (fun a => J_44_0 a.1) Y_44_0
theorem OK_44_0 {R : Type} : okF (R := R) sm_44 5 (nf 44 0) O_44_0 := jp ov_44_44_ok (os := [O_44_1]) ⟨OK_44_1, trivial⟩ T_44_0 (fun R k a => S_44_0 k a.1) Y_44_0 (fun k a => by kernel_rfl) (fun Y a => by
 unfold S_44_0
 repeat' first | apply gdN | apply condN | (apply Bn_44_1 <;> intros) | rfl) (ok0 _)
noncomputable def F_44 (a0 : ((List (Int × (Int × (Int × (Int × (Int × (Int × (Bool × (Int × Unit))))))))) × ((List (Int × (Int × (Int × (Int × (Int × ((List Int) × (Int × Unit)))))))) × (Int × (Bool × Unit))))) : Option (Bool × Unit) :=
 bif decide ((↑(length (a0.1)) : Int) > 64) then some (false, PUnit.unit) else B_44_116_0_0 (L_44_116_0_0 4611686018427387904 (a0.1) (↑(length (a0.1)) : Int) 0 a0) (fun y11 y12 => bif decide (y11 ≥ 0) then some (false, PUnit.unit) else bif !Sp.dst (List.map (fun y13 => y13.1) (y12.1)) then some (false, PUnit.unit) else bif (↑(length (y12.2.1)) : Int) != (↑(length (y12.1)) : Int) then some (false, PUnit.unit) else gd (p_84 (y12.2.2.1) 0 1073741824) (bif !(v_84 (y12.2.2.1) 0 1073741824).1 then some (false, PUnit.unit) else bif y12.2.2.2.1 then bif decide (y12.2.2.1 < 1) then some (false, PUnit.unit) else B_44_0 (J_44_0 y12) (some (false, PUnit.unit)) (some (true, PUnit.unit)) else B_44_0 (J_44_0 y12) (some (false, PUnit.unit)) (some (true, PUnit.unit)))) fun y16 => bif !Sp.dst (List.map (fun y17 => y17.1) (y16.1)) then some (false, PUnit.unit) else bif (↑(length (y16.2.1)) : Int) != (↑(length (y16.1)) : Int) then some (false, PUnit.unit) else gd (p_84 (y16.2.2.1) 0 1073741824) (bif !(v_84 (y16.2.2.1) 0 1073741824).1 then some (false, PUnit.unit) else bif y16.2.2.2.1 then bif decide (y16.2.2.1 < 1) then some (false, PUnit.unit) else B_44_0 (J_44_0 y16) (some (false, PUnit.unit)) (some (true, PUnit.unit)) else B_44_0 (J_44_0 y16) (some (false, PUnit.unit)) (some (true, PUnit.unit)))
noncomputable def Sp.p_44 (a0 : ((List (Int × (Int × (Int × (Int × (Int × (Int × (Bool × (Int × Unit))))))))) × ((List (Int × (Int × (Int × (Int × (Int × ((List Int) × (Int × Unit)))))))) × (Int × (Bool × Unit))))) : Bool := (F_44 a0).isSome
noncomputable def Sp.v_44 (a0 : ((List (Int × (Int × (Int × (Int × (Int × (Int × (Bool × (Int × Unit))))))))) × ((List (Int × (Int × (Int × (Int × (Int × ((List Int) × (Int × Unit)))))))) × (Int × (Bool × Unit))))) : Bool × Unit := (F_44 a0).getD (dfH R_44)
noncomputable def s_44 : Summ := shN A_44 R_44 (fun x => p_44 x.1) (fun x => v_44 x.1)
theorem pv_44 (a0 : ((List (Int × (Int × (Int × (Int × (Int × (Int × (Bool × (Int × Unit))))))))) × ((List (Int × (Int × (Int × (Int × (Int × ((List Int) × (Int × Unit)))))))) × (Int × (Bool × Unit))))) {y : Bool × Unit} (h : F_44 a0 = some y) : p_44 a0 = true ∧ v_44 a0 = y := pvG h
theorem run_44 (x : HDen A_44) (y : HDen R_44) (h : F_44 x.1 = some y) : rnF sm_44 6 44 A_44 R_44 x y := runG ov_44_44_ok (os := [O_44_0]) ⟨OK_44_0, trivial⟩ (Eq.trans (by kernel_rfl) h)
end
noncomputable section
abbrev Zt10_0 : Type := List (Int × Int × Int × Int × Int × Int × Bool × Int × Unit)
abbrev Zt10_1 : Type := List (Int × Int × Int × Int × Int × List Int × Int × Unit)
abbrev Zy10_2 : Ty := (.slice (.pair (.int .i64) (.pair (.int .i64) (.pair (.int .i64) (.pair (.int .i64) (.pair (.int .i64) (.pair (.int .i64) (.pair .bool (.pair (.int .i64) .unit)))))))))
abbrev Zy10_3 : Ty := (.pair (.int .i64) (.pair (.int .i64) (.pair (.int .i64) (.pair (.int .i64) (.pair (.int .i64) (.pair (.slice (.int .i64)) (.pair (.int .i64) .unit)))))))
abbrev Zt10_4 : Type := Int × Bool × Unit
abbrev A_10 : List Ty := [(.pair (.pair (.slice (.int .u32)) (.pair (.slice (.int .i64)) (.pair (.int .i64) .unit))) (.pair (.int .i64) (.pair (.int .i64) .unit))), (.slice (.pair (.int .i64) (.pair (.int .i64) (.pair (.int .i64) (.pair (.int .i64) (.pair (.int .i64) (.pair (.int .i64) (.pair .bool (.pair (.int .i64) .unit)))))))))]
abbrev R_10 : List Ty := [(.pair (.slice (.pair (.int .i64) (.pair (.int .i64) (.pair (.int .i64) (.pair (.int .i64) (.pair (.int .i64) (.pair (.int .i64) (.pair .bool (.pair (.int .i64) .unit))))))))) (.pair (.slice (.pair (.int .i64) (.pair (.int .i64) (.pair (.int .i64) (.pair (.int .i64) (.pair (.int .i64) (.pair (.slice (.int .i64)) (.pair (.int .i64) .unit)))))))) (.pair (.int .i64) (.pair .bool .unit)))), (.int .i64)]
noncomputable def sm_10 : Nat → Option Summ := smL [(38, s_38), (39, s_39), (40, s_40), (41, s_41), (42, s_42), (43, s_43), (44, s_44)]
noncomputable def T_10_0 : PS := ⟨86, [(2, .kc (.ptr 0 [])), (4, .kc (.ptr 1 [])), (6, .kc (.ptr 4 [])), (29, .hv Zy10_2), (30, .hv (.int .i64)), (31, .hv (.int .i64))], [.mem (.hv (.pair (.pair (.slice (.int .u32)) (.pair (.slice (.int .i64)) (.pair (.int .i64) .unit))) (.pair (.int .i64) (.pair (.int .i64) .unit)))), .mem (.pr (.kc (.whole 2)) (.pr (.kc (.whole 3)) (.hv (.pair (.int .i64) (.pair .bool .unit))))), .vec 63 (.pair (.int .i64) (.pair (.int .i64) (.pair (.int .i64) (.pair (.int .i64) (.pair (.int .i64) (.pair (.int .i64) (.pair .bool (.pair (.int .i64) .unit)))))))), .vec 47 Zy10_3, .mem (.pr (.hv Zy10_2) (.pr (.kc (.whole 5)) (.hv (.pair (.int .i64) (.pair .bool .unit))))), .vec 47 Zy10_3], 0⟩
inductive Sp.E_10_0 where
 | e0 (p4 : Zt10_4) (p5 : Zt10_0) (p6 : Zt10_1) (p7 : Zt10_0) (p8 : Zt10_4) (p9 : Zt10_1)
noncomputable def Sp.B_10_0 {R : Type} (r : Option E_10_0) (k0 : Zt10_4 → Zt10_0 → Zt10_1 → Zt10_0 → Zt10_4 → Zt10_1 → Option R) : Option R := match r with
 | none => none
 | some (.e0 p4 p5 p6 p7 p8 p9) => k0 p4 p5 p6 p7 p8 p9
noncomputable def Y_10_0 {R : Type} (k : Ex → St → Option R) : E_10_0 → Option R
 | .e0 p4 p5 p6 p7 p8 p9 => k (Ex.exit 0) (sx 86 [(4, CV.ptr 0 []), (6, CV.ptr 3 [])] [Blk.mem (CV.pair (CV.whole 1) (CV.pair (CV.whole 2) (CV.pure (Ty.pair (Ty.int i64) (Ty.pair Ty.bool Ty.unit)) p4))), Blk.vec 63 (Ty.pair (Ty.int i64) (Ty.pair (Ty.int i64) (Ty.pair (Ty.int i64) (Ty.pair (Ty.int i64) (Ty.pair (Ty.int i64) (Ty.pair (Ty.int i64) (Ty.pair Ty.bool (Ty.pair (Ty.int i64) Ty.unit)))))))) p5, Blk.vec 47 (Ty.pair (Ty.int i64) (Ty.pair (Ty.int i64) (Ty.pair (Ty.int i64) (Ty.pair (Ty.int i64) (Ty.pair (Ty.int i64) (Ty.pair (Ty.slice (Ty.int i64)) (Ty.pair (Ty.int i64) Ty.unit))))))) p6, Blk.mem (CV.pair (CV.pure (Ty.slice (Ty.pair (Ty.int i64) (Ty.pair (Ty.int i64) (Ty.pair (Ty.int i64) (Ty.pair (Ty.int i64) (Ty.pair (Ty.int i64) (Ty.pair (Ty.int i64) (Ty.pair Ty.bool (Ty.pair (Ty.int i64) Ty.unit))))))))) p7) (CV.pair (CV.whole 4) (CV.pure (Ty.pair (Ty.int i64) (Ty.pair Ty.bool Ty.unit)) p8))), Blk.vec 47 (Ty.pair (Ty.int i64) (Ty.pair (Ty.int i64) (Ty.pair (Ty.int i64) (Ty.pair (Ty.int i64) (Ty.pair (Ty.int i64) (Ty.pair (Ty.slice (Ty.int i64)) (Ty.pair (Ty.int i64) Ty.unit))))))) p9])
noncomputable def Sp.S_10_0 {R : Type} (K : (List (Int × Int × Int × Int × Int × Int × Bool × Int × Unit)) → Int → Int → ((List Int × List Int × Int × Unit) × Int × Int × Unit) → (Int × Bool × Unit) → (List (Int × Int × Int × Int × Int × Int × Bool × Int × Unit)) → (List (Int × Int × Int × Int × Int × List Int × Int × Unit)) → (List (Int × Int × Int × Int × Int × Int × Bool × Int × Unit)) → (Int × Bool × Unit) → (List (Int × Int × Int × Int × Int × List Int × Int × Unit)) → Option R) (k : E_10_0 → Option R) (p0 : List (Int × Int × Int × Int × Int × Int × Bool × Int × Unit)) (p1 p2 : Int) (p3 : (List Int × List Int × Int × Unit) × Int × Int × Unit) (p4 : Int × Bool × Unit) (p5 : List (Int × Int × Int × Int × Int × Int × Bool × Int × Unit)) (p6 : List (Int × Int × Int × Int × Int × List Int × Int × Unit)) (p7 : List (Int × Int × Int × Int × Int × Int × Bool × Int × Unit)) (p8 : Int × Bool × Unit) (p9 : List (Int × Int × Int × Int × Int × List Int × Int × Unit)) : Option R :=
 bif decide (p2 < p1) then gd (inB p2 (length p0)) (gd (p_41 p3 p2) (bif (v_41 p3 p2).2.1 != 0 then K p0 p1 (wrap i64 (p2 + 1)) p3 p4 p5 p6 p7 p8 p9 else bif decide ((↑(length ((v_41 p3 p2).1)) : Int) < 1) then K p0 p1 (wrap i64 (p2 + 1)) p3 p4 p5 p6 p7 p8 p9 else gd (inB 0 (length ((v_41 p3 p2).1))) (bif wrap i64 (getD ((v_41 p3 p2).1) 0 0) != (getD p0 (toNat p2) Zd1).1 then K p0 p1 (wrap i64 (p2 + 1)) p3 p4 p5 p6 p7 p8 p9 else gd (sl3 1 (↑(length ((v_41 p3 p2).1)) : Int) (↑(length ((v_41 p3 p2).1)) : Int)) (gd (p_42 (drop 1 ((v_41 p3 p2).1))) (bif (v_42 (drop 1 ((v_41 p3 p2).1))).2.1 != 0 then K p0 p1 (wrap i64 (p2 + 1)) p3 p4 p5 p6 p7 p8 p9 else gd (p_43 ((v_42 (drop 1 ((v_41 p3 p2).1))).1)) (bif !(v_43 ((v_42 (drop 1 ((v_41 p3 p2).1))).1)).1 then K p0 p1 (wrap i64 (p2 + 1)) p3 p4 p5 p6 p7 p8 p9 else gd (inB p2 (length p9)) (gd (decide (toNat p2 < length p9) && true && true) (gd (p_44 (p7, List.set p9 (toNat p2) ((v_42 (drop 1 ((v_41 p3 p2).1))).1), p8)) (bif !(v_44 (p7, List.set p9 (toNat p2) ((v_42 (drop 1 ((v_41 p3 p2).1))).1), p8)).1 then gd (inB p2 (length (List.set p9 (toNat p2) ((v_42 (drop 1 ((v_41 p3 p2).1))).1)))) (gd (decide (toNat p2 < length (List.set p9 (toNat p2) ((v_42 (drop 1 ((v_41 p3 p2).1))).1))) && true && true) (K p0 p1 (wrap i64 (p2 + 1)) p3 p4 p5 p6 p7 p8 (List.set (List.set p9 (toNat p2) ((v_42 (drop 1 ((v_41 p3 p2).1))).1)) (toNat p2) (0, 0, 0, 0, 0, [], 0, PUnit.unit)))) else K p0 p1 (wrap i64 (p2 + 1)) p3 p4 p5 p6 p7 p8 (List.set p9 (toNat p2) ((v_42 (drop 1 ((v_41 p3 p2).1))).1))))))))))) else k (E_10_0.e0 p4 p5 p6 p7 p8 p9)
noncomputable def Sp.L_10_0 : Nat → (List (Int × Int × Int × Int × Int × Int × Bool × Int × Unit)) → Int → Int → ((List Int × List Int × Int × Unit) × Int × Int × Unit) → (Int × Bool × Unit) → (List (Int × Int × Int × Int × Int × Int × Bool × Int × Unit)) → (List (Int × Int × Int × Int × Int × List Int × Int × Unit)) → (List (Int × Int × Int × Int × Int × Int × Bool × Int × Unit)) → (Int × Bool × Unit) → (List (Int × Int × Int × Int × Int × List Int × Int × Unit)) → Option E_10_0
 | 0, _, _, _, _, _, _, _, _, _, _ => none
 | m + 1, p0, p1, p2, p3, p4, p5, p6, p7, p8, p9 => S_10_0 (L_10_0 m) some p0 p1 p2 p3 p4 p5 p6 p7 p8 p9
noncomputable def l_10_0 (m : Nat) (a : T_10_0.E) : Option E_10_0 := L_10_0 m a.1 a.2.1 a.2.2.1 a.2.2.2.1 a.2.2.2.2.1 a.2.2.2.2.2.1 a.2.2.2.2.2.2.1 a.2.2.2.2.2.2.2.1 a.2.2.2.2.2.2.2.2.1 a.2.2.2.2.2.2.2.2.2.1
noncomputable def O_10_0 {R : Type} : Orc R := orL T_10_0 (l_10_0 FU) Y_10_0
theorem OK_10_0 {R : Type} : okF (R := R) sm_10 0 (nf 10 0) O_10_0 := lp0 T_10_0 l_10_0 (fun R K k a => S_10_0 (fun p0 p1 p2 p3 p4 p5 p6 p7 p8 p9 => K (p0, p1, p2, p3, p4, p5, p6, p7, p8, p9, ())) k a.1 a.2.1 a.2.2.1 a.2.2.2.1 a.2.2.2.2.1 a.2.2.2.2.2.1 a.2.2.2.2.2.2.1 a.2.2.2.2.2.2.2.1 a.2.2.2.2.2.2.2.2.1 a.2.2.2.2.2.2.2.2.2.1) Y_10_0 (fun _ _ _ => by kernel_rfl) (fun _ _ _ => by
 unfold S_10_0
 repeat' first | apply gdN | apply condN | rfl) (ok0 _)
noncomputable def F_10 (a0 : (((List Int) × ((List Int) × (Int × Unit))) × (Int × (Int × Unit)))) (a1 : (List (Int × (Int × (Int × (Int × (Int × (Int × (Bool × (Int × Unit)))))))))) : Option (((List (Int × (Int × (Int × (Int × (Int × (Int × (Bool × (Int × Unit))))))))) × ((List (Int × (Int × (Int × (Int × (Int × ((List Int) × (Int × Unit)))))))) × (Int × (Bool × Unit)))) × Int × Unit) :=
 gd (p_38 a0) (bif !(v_38 a0).1 then some (([], [], 0, false, PUnit.unit), 1, PUnit.unit) else gd (p_39 a1) (bif (v_39 a1).2.1 != 0 then some (([], [], 0, false, PUnit.unit), (v_39 a1).2.1, PUnit.unit) else gd (p_40 a0) (B_10_0 (L_10_0 4611686018427387904 a1 (↑(length a1) : Int) 0 a0 (0, false, PUnit.unit) [] [] ((v_39 a1).1.1) ((v_40 a0).1, (v_39 a1).1.2.2.2) ((v_39 a1).1.2.1)) fun y6 y7 y8 y9 y10 y11 => some ((y9, y11, y10), 0, PUnit.unit))))
noncomputable def Sp.p_10 (a0 : (((List Int) × ((List Int) × (Int × Unit))) × (Int × (Int × Unit)))) (a1 : (List (Int × (Int × (Int × (Int × (Int × (Int × (Bool × (Int × Unit)))))))))) : Bool := (F_10 a0 a1).isSome
noncomputable def Sp.v_10 (a0 : (((List Int) × ((List Int) × (Int × Unit))) × (Int × (Int × Unit)))) (a1 : (List (Int × (Int × (Int × (Int × (Int × (Int × (Bool × (Int × Unit)))))))))) : ((List (Int × (Int × (Int × (Int × (Int × (Int × (Bool × (Int × Unit))))))))) × ((List (Int × (Int × (Int × (Int × (Int × ((List Int) × (Int × Unit)))))))) × (Int × (Bool × Unit)))) × Int × Unit := (F_10 a0 a1).getD (dfH R_10)
noncomputable def s_10 : Summ := shS A_10 R_10 (fun x => p_10 x.1 x.2.1) (fun x => v_10 x.1 x.2.1)
theorem pv_10 (a0 : (((List Int) × ((List Int) × (Int × Unit))) × (Int × (Int × Unit)))) (a1 : (List (Int × (Int × (Int × (Int × (Int × (Int × (Bool × (Int × Unit)))))))))) {y : ((List (Int × (Int × (Int × (Int × (Int × (Int × (Bool × (Int × Unit))))))))) × ((List (Int × (Int × (Int × (Int × (Int × ((List Int) × (Int × Unit)))))))) × (Int × (Bool × Unit)))) × Int × Unit} (h : F_10 a0 a1 = some y) : p_10 a0 a1 = true ∧ v_10 a0 a1 = y := pvG h
theorem run_10 (x : HDen A_10) (y : HDen R_10) (h : F_10 x.1 x.2.1 = some y) : rnF sm_10 1 10 A_10 R_10 x y := runG noO_ok (os := [O_10_0]) ⟨OK_10_0, trivial⟩ (Eq.trans (by kernel_rfl) h)
end
noncomputable section
abbrev A_45 : List Ty := [(.slice (.pair (.int .i64) (.pair (.int .i64) (.pair (.int .i64) (.pair (.int .i64) (.pair (.int .i64) (.pair (.int .i64) (.pair .bool (.pair (.int .i64) .unit))))))))), (.slice (.pair (.int .i64) (.pair (.int .i64) (.pair (.int .i64) (.pair (.int .i64) (.pair (.int .i64) (.pair (.int .i64) (.pair .bool (.pair (.int .i64) .unit)))))))))]
abbrev R_45 : List Ty := [.bool]
noncomputable def sm_45 : Nat → Option Summ := smL []
noncomputable def T_45_0 : PS := ⟨26, [(0, .hv (.slice (.pair (.int .i64) (.pair (.int .i64) (.pair (.int .i64) (.pair (.int .i64) (.pair (.int .i64) (.pair (.int .i64) (.pair .bool (.pair (.int .i64) .unit)))))))))), (1, .hv (.slice (.pair (.int .i64) (.pair (.int .i64) (.pair (.int .i64) (.pair (.int .i64) (.pair (.int .i64) (.pair (.int .i64) (.pair .bool (.pair (.int .i64) .unit)))))))))), (12, .hv (.int .i64)), (13, .hv (.int .i64))], [], 0⟩
inductive Sp.E_45_0 where
 | e0
 | e1
noncomputable def Sp.B_45_0 {R : Type} (r : Option E_45_0) (k0 k1 : Option R) : Option R := match r with
 | none => none
 | some (.e0) => k0
 | some (.e1) => k1
noncomputable def Y_45_0 {R : Type} (k : Ex → St → Option R) : E_45_0 → Option R
 | .e0 => k Ex.ret (sx 26 [(4, CV.bool false)] [])
 | .e1 => k (Ex.exit 0) (sx 26 [] [])
noncomputable def Sp.S_45_0 {R : Type} (K : (List (Int × Int × Int × Int × Int × Int × Bool × Int × Unit)) → (List (Int × Int × Int × Int × Int × Int × Bool × Int × Unit)) → Int → Int → Option R) (k : E_45_0 → Option R) (p0 p1 : List (Int × Int × Int × Int × Int × Int × Bool × Int × Unit)) (p2 p3 : Int) : Option R :=
 bif decide (p3 < p2) then gd (inB p3 (length p0)) (gd (inB p3 (length p1)) (bif !Ty.beq (Ty.pair (Ty.int i64) (Ty.pair (Ty.int i64) (Ty.pair (Ty.int i64) (Ty.pair (Ty.int i64) (Ty.pair (Ty.int i64) (Ty.pair (Ty.int i64) (Ty.pair Ty.bool (Ty.pair (Ty.int i64) Ty.unit)))))))) (getD p0 (toNat p3) Zd1) (getD p1 (toNat p3) Zd1) then k (E_45_0.e0) else K p0 p1 p2 (wrap i64 (p3 + 1)))) else k (E_45_0.e1)
noncomputable def Sp.L_45_0 : Nat → (List (Int × Int × Int × Int × Int × Int × Bool × Int × Unit)) → (List (Int × Int × Int × Int × Int × Int × Bool × Int × Unit)) → Int → Int → Option E_45_0
 | 0, _, _, _, _ => none
 | m + 1, p0, p1, p2, p3 => S_45_0 (L_45_0 m) some p0 p1 p2 p3
noncomputable def l_45_0 (m : Nat) (a : T_45_0.E) : Option E_45_0 := L_45_0 m a.1 a.2.1 a.2.2.1 a.2.2.2.1
noncomputable def O_45_0 {R : Type} : Orc R := orL T_45_0 (l_45_0 FU) Y_45_0
theorem OK_45_0 {R : Type} : okF (R := R) sm_45 0 (nf 45 0) O_45_0 := lp0 T_45_0 l_45_0 (fun R K k a => S_45_0 (fun p0 p1 p2 p3 => K (p0, p1, p2, p3, ())) k a.1 a.2.1 a.2.2.1 a.2.2.2.1) Y_45_0 (fun _ _ _ => by kernel_rfl) (fun _ _ _ => by
 unfold S_45_0
 repeat' first | apply gdN | apply condN | rfl) (ok0 _)
noncomputable def F_45 (a0 : (List (Int × (Int × (Int × (Int × (Int × (Int × (Bool × (Int × Unit)))))))))) (a1 : (List (Int × (Int × (Int × (Int × (Int × (Int × (Bool × (Int × Unit)))))))))) : Option (Bool × Unit) :=
 bif (↑(length a0) : Int) != (↑(length a1) : Int) then some (false, PUnit.unit) else B_45_0 (L_45_0 4611686018427387904 a0 a1 (↑(length a0) : Int) 0) (some (false, PUnit.unit)) (some (true, PUnit.unit))
noncomputable def Sp.p_45 (a0 : (List (Int × (Int × (Int × (Int × (Int × (Int × (Bool × (Int × Unit)))))))))) (a1 : (List (Int × (Int × (Int × (Int × (Int × (Int × (Bool × (Int × Unit)))))))))) : Bool := (F_45 a0 a1).isSome
noncomputable def Sp.v_45 (a0 : (List (Int × (Int × (Int × (Int × (Int × (Int × (Bool × (Int × Unit)))))))))) (a1 : (List (Int × (Int × (Int × (Int × (Int × (Int × (Bool × (Int × Unit)))))))))) : Bool × Unit := (F_45 a0 a1).getD (dfH R_45)
noncomputable def s_45 : Summ := shN A_45 R_45 (fun x => p_45 x.1 x.2.1) (fun x => v_45 x.1 x.2.1)
theorem pv_45 (a0 : (List (Int × (Int × (Int × (Int × (Int × (Int × (Bool × (Int × Unit)))))))))) (a1 : (List (Int × (Int × (Int × (Int × (Int × (Int × (Bool × (Int × Unit)))))))))) {y : Bool × Unit} (h : F_45 a0 a1 = some y) : p_45 a0 a1 = true ∧ v_45 a0 a1 = y := pvG h
theorem run_45 (x : HDen A_45) (y : HDen R_45) (h : F_45 x.1 x.2.1 = some y) : rnF sm_45 1 45 A_45 R_45 x y := runG noO_ok (os := [O_45_0]) ⟨OK_45_0, trivial⟩ (Eq.trans (by kernel_rfl) h)
end
noncomputable section
abbrev A_20 : List Ty := [(.slice (.int .i64)), (.slice (.int .i64))]
abbrev R_20 : List Ty := [.bool]
noncomputable def sm_20 : Nat → Option Summ := smL []
noncomputable def T_20_0 : PS := ⟨26, [(0, .hv (.slice (.int .i64))), (1, .hv (.slice (.int .i64))), (12, .hv (.int .i64)), (13, .hv (.int .i64))], [], 0⟩
inductive Sp.E_20_0 where
 | e0
 | e1
noncomputable def Sp.B_20_0 {R : Type} (r : Option E_20_0) (k0 k1 : Option R) : Option R := match r with
 | none => none
 | some (.e0) => k0
 | some (.e1) => k1
noncomputable def Y_20_0 {R : Type} (k : Ex → St → Option R) : E_20_0 → Option R
 | .e0 => k Ex.ret (sx 26 [(4, CV.bool false)] [])
 | .e1 => k (Ex.exit 0) (sx 26 [] [])
noncomputable def Sp.S_20_0 {R : Type} (K : List Int → List Int → Int → Int → Option R) (k : E_20_0 → Option R) (p0 p1 : List Int) (p2 p3 : Int) : Option R :=
 bif decide (p3 < p2) then gd (inB p3 (length p0)) (gd (inB p3 (length p1)) (bif getD p0 (toNat p3) 0 != getD p1 (toNat p3) 0 then k (E_20_0.e0) else K p0 p1 p2 (wrap i64 (p3 + 1)))) else k (E_20_0.e1)
noncomputable def Sp.L_20_0 : Nat → List Int → List Int → Int → Int → Option E_20_0
 | 0, _, _, _, _ => none
 | m + 1, p0, p1, p2, p3 => S_20_0 (L_20_0 m) some p0 p1 p2 p3
noncomputable def l_20_0 (m : Nat) (a : T_20_0.E) : Option E_20_0 := L_20_0 m a.1 a.2.1 a.2.2.1 a.2.2.2.1
noncomputable def O_20_0 {R : Type} : Orc R := orL T_20_0 (l_20_0 FU) Y_20_0
theorem OK_20_0 {R : Type} : okF (R := R) sm_20 0 (nf 20 0) O_20_0 := lp0 T_20_0 l_20_0 (fun R K k a => S_20_0 (fun p0 p1 p2 p3 => K (p0, p1, p2, p3, ())) k a.1 a.2.1 a.2.2.1 a.2.2.2.1) Y_20_0 (fun _ _ _ => by kernel_rfl) (fun _ _ _ => by
 unfold S_20_0
 repeat' first | apply gdN | apply condN | rfl) (ok0 _)
noncomputable def F_20 (a0 a1 : (List Int)) : Option (Bool × Unit) :=
 bif (↑(length a0) : Int) != (↑(length a1) : Int) then some (false, PUnit.unit) else B_20_0 (L_20_0 4611686018427387904 a0 a1 (↑(length a0) : Int) 0) (some (false, PUnit.unit)) (some (true, PUnit.unit))
noncomputable def Sp.p_20 (a0 a1 : (List Int)) : Bool := (F_20 a0 a1).isSome
noncomputable def Sp.v_20 (a0 a1 : (List Int)) : Bool × Unit := (F_20 a0 a1).getD (dfH R_20)
noncomputable def s_20 : Summ := shN A_20 R_20 (fun x => p_20 x.1 x.2.1) (fun x => v_20 x.1 x.2.1)
theorem pv_20 (a0 a1 : (List Int)) {y : Bool × Unit} (h : F_20 a0 a1 = some y) : p_20 a0 a1 = true ∧ v_20 a0 a1 = y := pvG h
theorem run_20 (x : HDen A_20) (y : HDen R_20) (h : F_20 x.1 x.2.1 = some y) : rnF sm_20 1 20 A_20 R_20 x y := runG noO_ok (os := [O_20_0]) ⟨OK_20_0, trivial⟩ (Eq.trans (by kernel_rfl) h)
end
noncomputable section
abbrev A_46 : List Ty := [(.pair (.int .i64) (.pair (.int .i64) (.pair (.int .i64) (.pair (.int .i64) (.pair (.int .i64) (.pair (.slice (.int .i64)) (.pair (.int .i64) .unit))))))), (.pair (.int .i64) (.pair (.int .i64) (.pair (.int .i64) (.pair (.int .i64) (.pair (.int .i64) (.pair (.slice (.int .i64)) (.pair (.int .i64) .unit)))))))]
abbrev R_46 : List Ty := [.bool]
noncomputable def sm_46 : Nat → Option Summ := smL [(20, s_20)]
noncomputable def F_46 (a0 : (Int × (Int × (Int × (Int × (Int × ((List Int) × (Int × Unit)))))))) (a1 : (Int × (Int × (Int × (Int × (Int × ((List Int) × (Int × Unit)))))))) : Option (Bool × Unit) :=
 bif a0.1 == a1.1 then bif a0.2.1 == a1.2.1 then bif a0.2.2.1 == a1.2.2.1 then bif a0.2.2.2.1 == a1.2.2.2.1 then bif a0.2.2.2.2.1 == a1.2.2.2.2.1 then bif a0.2.2.2.2.2.2.1 == a1.2.2.2.2.2.2.1 then gd (p_20 (a0.2.2.2.2.2.1) (a1.2.2.2.2.2.1)) (some ((v_20 (a0.2.2.2.2.2.1) (a1.2.2.2.2.2.1)).1, PUnit.unit)) else some (false, PUnit.unit) else some (false, PUnit.unit) else some (false, PUnit.unit) else some (false, PUnit.unit) else some (false, PUnit.unit) else some (false, PUnit.unit)
noncomputable def Sp.p_46 (a0 : (Int × (Int × (Int × (Int × (Int × ((List Int) × (Int × Unit)))))))) (a1 : (Int × (Int × (Int × (Int × (Int × ((List Int) × (Int × Unit)))))))) : Bool := (F_46 a0 a1).isSome
noncomputable def Sp.v_46 (a0 : (Int × (Int × (Int × (Int × (Int × ((List Int) × (Int × Unit)))))))) (a1 : (Int × (Int × (Int × (Int × (Int × ((List Int) × (Int × Unit)))))))) : Bool × Unit := (F_46 a0 a1).getD (dfH R_46)
noncomputable def s_46 : Summ := shN A_46 R_46 (fun x => p_46 x.1 x.2.1) (fun x => v_46 x.1 x.2.1)
theorem pv_46 (a0 : (Int × (Int × (Int × (Int × (Int × ((List Int) × (Int × Unit)))))))) (a1 : (Int × (Int × (Int × (Int × (Int × ((List Int) × (Int × Unit)))))))) {y : Bool × Unit} (h : F_46 a0 a1 = some y) : p_46 a0 a1 = true ∧ v_46 a0 a1 = y := pvG h
theorem run_46 (x : HDen A_46) (y : HDen R_46) (h : F_46 x.1 x.2.1 = some y) : rnF sm_46 1 46 A_46 R_46 x y := runG noO_ok (os := []) trivial (Eq.trans (by kernel_rfl) h)
end
noncomputable section
abbrev A_47 : List Ty := [(.pair (.int .i64) (.pair (.int .i64) (.pair (.int .i64) (.pair (.int .i64) (.pair (.int .i64) (.pair (.slice (.int .i64)) (.pair (.int .i64) .unit)))))))]
abbrev R_47 : List Ty := [(.pair (.int .i64) (.pair (.int .i64) (.pair (.int .i64) (.pair (.int .i64) (.pair (.int .i64) (.pair (.slice (.int .i64)) (.pair (.int .i64) .unit)))))))]
noncomputable def sm_47 : Nat → Option Summ := smL [(43, s_43)]
noncomputable def F_47 (a0 : (Int × (Int × (Int × (Int × (Int × ((List Int) × (Int × Unit)))))))) : Option ((Int × (Int × (Int × (Int × (Int × ((List Int) × (Int × Unit))))))) × Unit) :=
 gd (p_43 a0) (bif !(v_43 a0).1 then some ((0, 0, 0, 0, 0, [], 0, PUnit.unit), PUnit.unit) else some ((Sp.andI i64 (a0.1) 22, 0, a0.2.2), PUnit.unit))
noncomputable def Sp.p_47 (a0 : (Int × (Int × (Int × (Int × (Int × ((List Int) × (Int × Unit)))))))) : Bool := (F_47 a0).isSome
noncomputable def Sp.v_47 (a0 : (Int × (Int × (Int × (Int × (Int × ((List Int) × (Int × Unit)))))))) : (Int × (Int × (Int × (Int × (Int × ((List Int) × (Int × Unit))))))) × Unit := (F_47 a0).getD (dfH R_47)
noncomputable def s_47 : Summ := shS A_47 R_47 (fun x => p_47 x.1) (fun x => v_47 x.1)
theorem pv_47 (a0 : (Int × (Int × (Int × (Int × (Int × ((List Int) × (Int × Unit)))))))) {y : (Int × (Int × (Int × (Int × (Int × ((List Int) × (Int × Unit))))))) × Unit} (h : F_47 a0 = some y) : p_47 a0 = true ∧ v_47 a0 = y := pvG h
theorem run_47 (x : HDen A_47) (y : HDen R_47) (h : F_47 x.1 = some y) : rnF sm_47 1 47 A_47 R_47 x y := runG noO_ok (os := []) trivial (Eq.trans (by kernel_rfl) h)
end
noncomputable section
abbrev Zy11_0 : Ty := (.pair (.slice (.pair (.int .i64) (.pair (.int .i64) (.pair (.int .i64) (.pair (.int .i64) (.pair (.int .i64) (.pair (.int .i64) (.pair .bool (.pair (.int .i64) .unit))))))))) (.pair (.slice (.pair (.int .i64) (.pair (.int .i64) (.pair (.int .i64) (.pair (.int .i64) (.pair (.int .i64) (.pair (.slice (.int .i64)) (.pair (.int .i64) .unit)))))))) (.pair (.int .i64) (.pair .bool .unit))))
abbrev A_11 : List Ty := [(.pair (.slice (.pair (.int .i64) (.pair (.int .i64) (.pair (.int .i64) (.pair (.int .i64) (.pair (.int .i64) (.pair (.int .i64) (.pair .bool (.pair (.int .i64) .unit))))))))) (.pair (.slice (.pair (.int .i64) (.pair (.int .i64) (.pair (.int .i64) (.pair (.int .i64) (.pair (.int .i64) (.pair (.slice (.int .i64)) (.pair (.int .i64) .unit)))))))) (.pair (.int .i64) (.pair .bool .unit)))), (.pair (.slice (.pair (.int .i64) (.pair (.int .i64) (.pair (.int .i64) (.pair (.int .i64) (.pair (.int .i64) (.pair (.int .i64) (.pair .bool (.pair (.int .i64) .unit))))))))) (.pair (.slice (.pair (.int .i64) (.pair (.int .i64) (.pair (.int .i64) (.pair (.int .i64) (.pair (.int .i64) (.pair (.slice (.int .i64)) (.pair (.int .i64) .unit)))))))) (.pair (.int .i64) (.pair .bool .unit))))]
abbrev R_11 : List Ty := [(.slice (.int .i64)), (.int .i64)]
noncomputable def sm_11 : Nat → Option Summ := smL [(44, s_44), (45, s_45), (46, s_46), (47, s_47)]
noncomputable def T_11_0 : PS := ⟨50, [(2, .kc (.ptr 0 [])), (3, .kc (.ptr 1 [])), (6, .kc (.whole 2)), (26, .hv (.int .i64)), (27, .hv (.int .i64))], [.mem (.hv Zy11_0), .mem (.hv Zy11_0), .vec 3 (.int .i64)], 0⟩
inductive Sp.E_11_0 where
 | e0 (p4 : List Int)
noncomputable def Sp.B_11_0 {R : Type} (r : Option E_11_0) (k0 : List Int → Option R) : Option R := match r with
 | none => none
 | some (.e0 p4) => k0 p4
noncomputable def Y_11_0 {R : Type} (k : Ex → St → Option R) : E_11_0 → Option R
 | .e0 p4 => k (Ex.exit 0) (sx 50 [(6, CV.whole 0)] [Blk.vec 3 (Ty.int i64) p4])
noncomputable def Sp.S_11_0 {R : Type} (K : Int → Int → (List (Int × Int × Int × Int × Int × Int × Bool × Int × Unit) × List (Int × Int × Int × Int × Int × List Int × Int × Unit) × Int × Bool × Unit) → (List (Int × Int × Int × Int × Int × Int × Bool × Int × Unit) × List (Int × Int × Int × Int × Int × List Int × Int × Unit) × Int × Bool × Unit) → List Int → Option R) (k : E_11_0 → Option R) (p0 p1 : Int) (p2 p3 : List (Int × Int × Int × Int × Int × Int × Bool × Int × Unit) × List (Int × Int × Int × Int × Int × List Int × Int × Unit) × Int × Bool × Unit) (p4 : List Int) : Option R :=
 bif decide (p1 < p0) then gd (inB p1 (length (p2.2.1))) (gd (p_47 (getD (p2.2.1) (toNat p1) Zd0)) (gd (inB p1 (length (p3.2.1))) (gd (p_47 (getD (p3.2.1) (toNat p1) Zd0)) (gd (p_46 ((v_47 (getD (p2.2.1) (toNat p1) Zd0)).1) ((v_47 (getD (p3.2.1) (toNat p1) Zd0)).1)) (bif !(v_46 ((v_47 (getD (p2.2.1) (toNat p1) Zd0)).1) ((v_47 (getD (p3.2.1) (toNat p1) Zd0)).1)).1 then gd (room (length p4 + 1) 8) (K p0 (wrap i64 (p1 + 1)) p2 p3 (p4 ++ [p1])) else K p0 (wrap i64 (p1 + 1)) p2 p3 p4))))) else k (E_11_0.e0 p4)
noncomputable def Sp.L_11_0 : Nat → Int → Int → (List (Int × Int × Int × Int × Int × Int × Bool × Int × Unit) × List (Int × Int × Int × Int × Int × List Int × Int × Unit) × Int × Bool × Unit) → (List (Int × Int × Int × Int × Int × Int × Bool × Int × Unit) × List (Int × Int × Int × Int × Int × List Int × Int × Unit) × Int × Bool × Unit) → List Int → Option E_11_0
 | 0, _, _, _, _, _ => none
 | m + 1, p0, p1, p2, p3, p4 => S_11_0 (L_11_0 m) some p0 p1 p2 p3 p4
noncomputable def l_11_0 (m : Nat) (a : T_11_0.E) : Option E_11_0 := L_11_0 m a.1 a.2.1 a.2.2.1 a.2.2.2.1 a.2.2.2.2.1
noncomputable def O_11_0 {R : Type} : Orc R := orL T_11_0 (l_11_0 FU) Y_11_0
theorem OK_11_0 {R : Type} : okF (R := R) sm_11 0 (nf 11 0) O_11_0 := lp0 T_11_0 l_11_0 (fun R K k a => S_11_0 (fun p0 p1 p2 p3 p4 => K (p0, p1, p2, p3, p4, ())) k a.1 a.2.1 a.2.2.1 a.2.2.2.1 a.2.2.2.2.1) Y_11_0 (fun _ _ _ => by kernel_rfl) (fun _ _ _ => by
 unfold S_11_0
 repeat' first | apply gdN | apply condN | rfl) (ok0 _)
noncomputable def F_11 (a0 : ((List (Int × (Int × (Int × (Int × (Int × (Int × (Bool × (Int × Unit))))))))) × ((List (Int × (Int × (Int × (Int × (Int × ((List Int) × (Int × Unit)))))))) × (Int × (Bool × Unit))))) (a1 : ((List (Int × (Int × (Int × (Int × (Int × (Int × (Bool × (Int × Unit))))))))) × ((List (Int × (Int × (Int × (Int × (Int × ((List Int) × (Int × Unit)))))))) × (Int × (Bool × Unit))))) : Option ((List Int) × Int × Unit) :=
 gd (p_44 a0) (bif !(v_44 a0).1 then some ([], 1, PUnit.unit) else gd (p_44 a1) (bif !(v_44 a1).1 then some ([], 1, PUnit.unit) else gd (p_45 (a0.1) (a1.1)) (bif !(v_45 (a0.1) (a1.1)).1 then some ([], 1, PUnit.unit) else B_11_0 (L_11_0 4611686018427387904 (↑(length (a0.2.1)) : Int) 0 a0 a1 []) fun y1 => some (y1, 0, PUnit.unit))))
noncomputable def Sp.p_11 (a0 : ((List (Int × (Int × (Int × (Int × (Int × (Int × (Bool × (Int × Unit))))))))) × ((List (Int × (Int × (Int × (Int × (Int × ((List Int) × (Int × Unit)))))))) × (Int × (Bool × Unit))))) (a1 : ((List (Int × (Int × (Int × (Int × (Int × (Int × (Bool × (Int × Unit))))))))) × ((List (Int × (Int × (Int × (Int × (Int × ((List Int) × (Int × Unit)))))))) × (Int × (Bool × Unit))))) : Bool := (F_11 a0 a1).isSome
noncomputable def Sp.v_11 (a0 : ((List (Int × (Int × (Int × (Int × (Int × (Int × (Bool × (Int × Unit))))))))) × ((List (Int × (Int × (Int × (Int × (Int × ((List Int) × (Int × Unit)))))))) × (Int × (Bool × Unit))))) (a1 : ((List (Int × (Int × (Int × (Int × (Int × (Int × (Bool × (Int × Unit))))))))) × ((List (Int × (Int × (Int × (Int × (Int × ((List Int) × (Int × Unit)))))))) × (Int × (Bool × Unit))))) : (List Int) × Int × Unit := (F_11 a0 a1).getD (dfH R_11)
noncomputable def s_11 : Summ := shS A_11 R_11 (fun x => p_11 x.1 x.2.1) (fun x => v_11 x.1 x.2.1)
theorem pv_11 (a0 : ((List (Int × (Int × (Int × (Int × (Int × (Int × (Bool × (Int × Unit))))))))) × ((List (Int × (Int × (Int × (Int × (Int × ((List Int) × (Int × Unit)))))))) × (Int × (Bool × Unit))))) (a1 : ((List (Int × (Int × (Int × (Int × (Int × (Int × (Bool × (Int × Unit))))))))) × ((List (Int × (Int × (Int × (Int × (Int × ((List Int) × (Int × Unit)))))))) × (Int × (Bool × Unit))))) {y : (List Int) × Int × Unit} (h : F_11 a0 a1 = some y) : p_11 a0 a1 = true ∧ v_11 a0 a1 = y := pvG h
theorem run_11 (x : HDen A_11) (y : HDen R_11) (h : F_11 x.1 x.2.1 = some y) : rnF sm_11 1 11 A_11 R_11 x y := runG noO_ok (os := [O_11_0]) ⟨OK_11_0, trivial⟩ (Eq.trans (by kernel_rfl) h)
end
noncomputable section
abbrev A_55 : List Ty := [(.int .i64), (.int .i64), (.int .i64)]
abbrev R_55 : List Ty := [.bool]
noncomputable def sm_55 : Nat → Option Summ := smL []
noncomputable def F_55 (a0 a1 a2 : Int) : Option (Bool × Unit) :=
 bif decide (a0 ≥ a1) then some (decide (a0 ≤ a2), PUnit.unit) else some (false, PUnit.unit)
noncomputable def Sp.p_55 (a0 a1 a2 : Int) : Bool := (F_55 a0 a1 a2).isSome
noncomputable def Sp.v_55 (a0 a1 a2 : Int) : Bool × Unit := (F_55 a0 a1 a2).getD (dfH R_55)
noncomputable def s_55 : Summ := shN A_55 R_55 (fun x => p_55 x.1 x.2.1 x.2.2.1) (fun x => v_55 x.1 x.2.1 x.2.2.1)
theorem pv_55 (a0 a1 a2 : Int) {y : Bool × Unit} (h : F_55 a0 a1 a2 = some y) : p_55 a0 a1 a2 = true ∧ v_55 a0 a1 a2 = y := pvG h
theorem run_55 (x : HDen A_55) (y : HDen R_55) (h : F_55 x.1 x.2.1 x.2.2.1 = some y) : rnF sm_55 1 55 A_55 R_55 x y := runG noO_ok (os := []) trivial (Eq.trans (by kernel_rfl) h)
end
noncomputable section
abbrev A_48 : List Ty := [(.pair (.int .i64) (.pair (.int .i64) (.pair (.int .i64) (.pair (.int .i64) (.pair (.int .i64) (.pair (.int .i64) (.pair .bool (.pair (.int .i64) .unit))))))))]
abbrev R_48 : List Ty := [.bool]
noncomputable def sm_48 : Nat → Option Summ := smL [(55, s_55)]
noncomputable def F_48 (a0 : (Int × (Int × (Int × (Int × (Int × (Int × (Bool × (Int × Unit))))))))) : Option (Bool × Unit) :=
 gd (p_55 (a0.1) 1 16777215) (bif (v_55 (a0.1) 1 16777215).1 then gd (p_55 (a0.2.1) 1 100) (bif (v_55 (a0.2.1) 1 100).1 then gd (p_55 (a0.2.2.1) 1 100) (bif (v_55 (a0.2.2.1) 1 100).1 then gd (p_55 (a0.2.2.2.1) 1 100) (bif (v_55 (a0.2.2.2.1) 1 100).1 then gd (p_55 (a0.2.2.2.2.1) (a0.2.2.2.1) 255) (bif (v_55 (a0.2.2.2.2.1) (a0.2.2.2.1) 255).1 then gd (p_55 (a0.2.2.2.2.2.1) 0 255) (bif (v_55 (a0.2.2.2.2.2.1) 0 255).1 then gd (p_55 (a0.2.2.2.2.2.2.2.1) 0 8) (some ((v_55 (a0.2.2.2.2.2.2.2.1) 0 8).1, PUnit.unit)) else some (false, PUnit.unit)) else some (false, PUnit.unit)) else some (false, PUnit.unit)) else some (false, PUnit.unit)) else some (false, PUnit.unit)) else some (false, PUnit.unit))
noncomputable def Sp.p_48 (a0 : (Int × (Int × (Int × (Int × (Int × (Int × (Bool × (Int × Unit))))))))) : Bool := (F_48 a0).isSome
noncomputable def Sp.v_48 (a0 : (Int × (Int × (Int × (Int × (Int × (Int × (Bool × (Int × Unit))))))))) : Bool × Unit := (F_48 a0).getD (dfH R_48)
noncomputable def s_48 : Summ := shN A_48 R_48 (fun x => p_48 x.1) (fun x => v_48 x.1)
theorem pv_48 (a0 : (Int × (Int × (Int × (Int × (Int × (Int × (Bool × (Int × Unit))))))))) {y : Bool × Unit} (h : F_48 a0 = some y) : p_48 a0 = true ∧ v_48 a0 = y := pvG h
theorem run_48 (x : HDen A_48) (y : HDen R_48) (h : F_48 x.1 = some y) : rnF sm_48 1 48 A_48 R_48 x y := runG noO_ok (os := []) trivial (Eq.trans (by kernel_rfl) h)
end
noncomputable section
abbrev Zy12_0 : Ty := (.slice (.pair (.int .i64) (.pair (.int .i64) (.pair (.int .i64) (.pair (.int .i64) (.pair (.int .i64) (.pair (.int .i64) (.pair .bool (.pair (.int .i64) .unit)))))))))
abbrev Zt12_1 : Type := List (Int × Int × Int × Int × Int × Int × Bool × Int × Unit)
abbrev A_12 : List Ty := [(.slice (.pair (.int .i64) (.pair (.int .i64) (.pair (.int .i64) (.pair (.int .i64) (.pair (.int .i64) (.pair (.int .i64) (.pair .bool (.pair (.int .i64) .unit)))))))))]
abbrev R_12 : List Ty := [(.int .i64)]
noncomputable def sm_12 : Nat → Option Summ := smL [(48, s_48)]
noncomputable def T_12_0 : PS := ⟨43, [(0, .hv Zy12_0), (3, .hv (.int .i64))], [], 0⟩
inductive Sp.E_12_0 where
 | e0
 | e1 (p0 : Zt12_1)
noncomputable def Sp.B_12_0 {R : Type} (r : Option E_12_0) (k0 : Option R) (k1 : Zt12_1 → Option R) : Option R := match r with
 | none => none
 | some (.e0) => k0
 | some (.e1 p0) => k1 p0
noncomputable def Y_12_0 {R : Type} (k : Ex → St → Option R) : E_12_0 → Option R
 | .e0 => k Ex.ret (sx 43 [(2, CV.int i64 1)] [])
 | .e1 p0 => k (Ex.exit 0) (sx 43 [(0, CV.pure (Ty.slice (Ty.pair (Ty.int i64) (Ty.pair (Ty.int i64) (Ty.pair (Ty.int i64) (Ty.pair (Ty.int i64) (Ty.pair (Ty.int i64) (Ty.pair (Ty.int i64) (Ty.pair Ty.bool (Ty.pair (Ty.int i64) Ty.unit))))))))) p0)] [])
noncomputable def Sp.S_12_0 {R : Type} (K : (List (Int × Int × Int × Int × Int × Int × Bool × Int × Unit)) → Int → Option R) (k : E_12_0 → Option R) (p0 : List (Int × Int × Int × Int × Int × Int × Bool × Int × Unit)) (p1 : Int) : Option R :=
 bif decide (p1 < (↑(length p0) : Int)) then gd (inB p1 (length p0)) (gd (p_48 (getD p0 (toNat p1) Zd1)) (bif !(v_48 (getD p0 (toNat p1) Zd1)).1 then k (E_12_0.e0) else K p0 (wrap i64 (p1 + 1)))) else k (E_12_0.e1 p0)
noncomputable def Sp.L_12_0 : Nat → (List (Int × Int × Int × Int × Int × Int × Bool × Int × Unit)) → Int → Option E_12_0
 | 0, _, _ => none
 | m + 1, p0, p1 => S_12_0 (L_12_0 m) some p0 p1
noncomputable def l_12_0 (m : Nat) (a : T_12_0.E) : Option E_12_0 := L_12_0 m a.1 a.2.1
noncomputable def O_12_0 {R : Type} : Orc R := orL T_12_0 (l_12_0 FU) Y_12_0
theorem OK_12_0 {R : Type} : okF (R := R) sm_12 0 (nf 12 0) O_12_0 := lp0 T_12_0 l_12_0 (fun R K k a => S_12_0 (fun p0 p1 => K (p0, p1, ())) k a.1 a.2.1) Y_12_0 (fun _ _ _ => by kernel_rfl) (fun _ _ _ => by
 unfold S_12_0
 repeat' first | apply gdN | apply condN | rfl) (ok0 _)
noncomputable def T_12_2 : PS := ⟨43, [(0, .hv Zy12_0), (4, .hv (.int .i64)), (5, .hv (.int .i64))], [], 0⟩
inductive Sp.E_12_2 where
 | e0
 | e1 (p0 : Zt12_1) (p1 : Int)
noncomputable def Sp.B_12_2 {R : Type} (r : Option E_12_2) (k0 : Option R) (k1 : Zt12_1 → Int → Option R) : Option R := match r with
 | none => none
 | some (.e0) => k0
 | some (.e1 p0 p1) => k1 p0 p1
theorem Bn_12_2 {A R : Type} {r : Option E_12_2} {f : A → Option R} {k0 : Option A} {k1 : Zt12_1 → Int → Option A} {l0 : Option R} {l1 : Zt12_1 → Int → Option R} (h0 : (k0).bind f = l0) (h1 : ∀ p0 p1, (k1 p0 p1).bind f = l1 p0 p1) : (B_12_2 r k0 k1).bind f = B_12_2 r l0 l1 := by
 cases r with
 | none => rfl
 | some e => cases e <;> first | apply h0 | apply h1
noncomputable def Y_12_2 {R : Type} (k : Ex → St → Option R) : E_12_2 → Option R
 | .e0 => k Ex.ret (sx 43 [(2, CV.int i64 8)] [])
 | .e1 p0 p1 => k (Ex.exit 4) (sx 43 [(0, CV.pure (Ty.slice (Ty.pair (Ty.int i64) (Ty.pair (Ty.int i64) (Ty.pair (Ty.int i64) (Ty.pair (Ty.int i64) (Ty.pair (Ty.int i64) (Ty.pair (Ty.int i64) (Ty.pair Ty.bool (Ty.pair (Ty.int i64) Ty.unit))))))))) p0), (4, CV.int i64 p1)] [])
noncomputable def Sp.S_12_2 {R : Type} (K : (List (Int × Int × Int × Int × Int × Int × Bool × Int × Unit)) → Int → Int → Option R) (k : E_12_2 → Option R) (p0 : List (Int × Int × Int × Int × Int × Int × Bool × Int × Unit)) (p1 p2 : Int) : Option R :=
 bif decide (p2 < p1) then gd (inB p2 (length p0)) (gd (inB p1 (length p0)) (bif (getD p0 (toNat p2) Zd1).1 == (getD p0 (toNat p1) Zd1).1 then k (E_12_2.e0) else K p0 p1 (wrap i64 (p2 + 1)))) else k (E_12_2.e1 p0 p1)
noncomputable def Sp.L_12_2 : Nat → (List (Int × Int × Int × Int × Int × Int × Bool × Int × Unit)) → Int → Int → Option E_12_2
 | 0, _, _, _ => none
 | m + 1, p0, p1, p2 => S_12_2 (L_12_2 m) some p0 p1 p2
noncomputable def l_12_2 (m : Nat) (a : T_12_2.E) : Option E_12_2 := L_12_2 m a.1 a.2.1 a.2.2.1
noncomputable def O_12_2 {R : Type} : Orc R := orL T_12_2 (l_12_2 FU) Y_12_2
theorem OK_12_2 {R : Type} : okF (R := R) sm_12 0 (ni (nf 12 1) 0) O_12_2 := lp0 T_12_2 l_12_2 (fun R K k a => S_12_2 (fun p0 p1 p2 => K (p0, p1, p2, ())) k a.1 a.2.1 a.2.2.1) Y_12_2 (fun _ _ _ => by kernel_rfl) (fun _ _ _ => by
 unfold S_12_2
 repeat' first | apply gdN | apply condN | rfl) (ok0 _)
noncomputable def T_12_1 : PS := ⟨43, [(0, .hv Zy12_0), (4, .hv (.int .i64))], [], 0⟩
inductive Sp.E_12_1 where
 | e0
 | e1
noncomputable def Sp.B_12_1 {R : Type} (r : Option E_12_1) (k0 k1 : Option R) : Option R := match r with
 | none => none
 | some (.e0) => k0
 | some (.e1) => k1
noncomputable def Y_12_1 {R : Type} (k : Ex → St → Option R) : E_12_1 → Option R
 | .e0 => k Ex.ret (sx 43 [(2, CV.int i64 8)] [])
 | .e1 => k (Ex.exit 2) (sx 43 [] [])
noncomputable def Sp.S_12_1 {R : Type} (K : (List (Int × Int × Int × Int × Int × Int × Bool × Int × Unit)) → Int → Option R) (k : E_12_1 → Option R) (p0 : List (Int × Int × Int × Int × Int × Int × Bool × Int × Unit)) (p1 : Int) : Option R :=
 bif decide (p1 < (↑(length p0) : Int)) then B_12_2 (L_12_2 4611686018427387904 p0 p1 0) (k (E_12_1.e0)) fun y6 y7 => K y6 (wrap i64 (y7 + 1)) else k (E_12_1.e1)
noncomputable def Sp.L_12_1 : Nat → (List (Int × Int × Int × Int × Int × Int × Bool × Int × Unit)) → Int → Option E_12_1
 | 0, _, _ => none
 | m + 1, p0, p1 => S_12_1 (L_12_1 m) some p0 p1
noncomputable def l_12_1 (m : Nat) (a : T_12_1.E) : Option E_12_1 := L_12_1 m a.1 a.2.1
noncomputable def O_12_1 {R : Type} : Orc R := orL T_12_1 (l_12_1 FU) Y_12_1
theorem OK_12_1 {R : Type} : okF (R := R) sm_12 0 (nf 12 1) O_12_1 := lp noO_ok (os := [O_12_2]) ⟨OK_12_2, trivial⟩ T_12_1 l_12_1 (fun R K k a => S_12_1 (fun p0 p1 => K (p0, p1, ())) k a.1 a.2.1) Y_12_1 (fun _ => rfl) (fun _ _ => rfl) (fun k K a => by kernel_rfl) (fun Y K a => by
 unfold S_12_1
 repeat' first | apply gdN | apply condN | (apply Bn_12_2 <;> intros) | rfl) (ok0 _)
noncomputable def F_12 (a0 : (List (Int × (Int × (Int × (Int × (Int × (Int × (Bool × (Int × Unit)))))))))) : Option (Int × Unit) :=
 bif decide ((↑(length a0) : Int) > 64) then some (5, PUnit.unit) else B_12_0 (L_12_0 4611686018427387904 a0 0) (some (1, PUnit.unit)) fun y5 => B_12_1 (L_12_1 4611686018427387904 y5 0) (some (8, PUnit.unit)) (some (0, PUnit.unit))
noncomputable def Sp.p_12 (a0 : (List (Int × (Int × (Int × (Int × (Int × (Int × (Bool × (Int × Unit)))))))))) : Bool := (F_12 a0).isSome
noncomputable def Sp.v_12 (a0 : (List (Int × (Int × (Int × (Int × (Int × (Int × (Bool × (Int × Unit)))))))))) : Int × Unit := (F_12 a0).getD (dfH R_12)
noncomputable def s_12 : Summ := shN A_12 R_12 (fun x => p_12 x.1) (fun x => v_12 x.1)
theorem pv_12 (a0 : (List (Int × (Int × (Int × (Int × (Int × (Int × (Bool × (Int × Unit)))))))))) {y : Int × Unit} (h : F_12 a0 = some y) : p_12 a0 = true ∧ v_12 a0 = y := pvG h
theorem run_12 (x : HDen A_12) (y : HDen R_12) (h : F_12 x.1 = some y) : rnF sm_12 1 12 A_12 R_12 x y := runG noO_ok (os := [O_12_0, O_12_1]) ⟨OK_12_0, OK_12_1, trivial⟩ (Eq.trans (by kernel_rfl) h)
end
noncomputable section
abbrev A_68 : List Ty := [(.int .i64)]
abbrev R_68 : List Ty := [.bool]
noncomputable def sm_68 : Nat → Option Summ := smL []
noncomputable def F_68 (a0 : Int) : Option (Bool × Unit) :=
 bif decide (a0 ≥ 1) then some (decide (a0 ≤ 1000000), PUnit.unit) else some (false, PUnit.unit)
noncomputable def Sp.p_68 (a0 : Int) : Bool := (F_68 a0).isSome
noncomputable def Sp.v_68 (a0 : Int) : Bool × Unit := (F_68 a0).getD (dfH R_68)
noncomputable def s_68 : Summ := shN A_68 R_68 (fun x => p_68 x.1) (fun x => v_68 x.1)
theorem pv_68 (a0 : Int) {y : Bool × Unit} (h : F_68 a0 = some y) : p_68 a0 = true ∧ v_68 a0 = y := pvG h
theorem run_68 (x : HDen A_68) (y : HDen R_68) (h : F_68 x.1 = some y) : rnF sm_68 1 68 A_68 R_68 x y := runG noO_ok (os := []) trivial (Eq.trans (by kernel_rfl) h)
end
noncomputable section
abbrev A_27 : List Ty := [(.pair (.slice (.int .u32)) (.pair (.slice (.int .i64)) (.pair (.int .i64) .unit)))]
abbrev R_27 : List Ty := [.bool]
noncomputable def sm_27 : Nat → Option Summ := smL [(68, s_68)]
noncomputable def T_27_0 : PS := ⟨49, [(1, .kc (.ptr 0 [])), (3, .hv (.int .i64)), (4, .hv (.int .i64))], [.mem (.hv (.pair (.slice (.int .u32)) (.pair (.slice (.int .i64)) (.pair (.int .i64) .unit))))], 0⟩
inductive Sp.E_27_0 where
 | e0
 | e1
noncomputable def Sp.B_27_0 {R : Type} (r : Option E_27_0) (k0 k1 : Option R) : Option R := match r with
 | none => none
 | some (.e0) => k0
 | some (.e1) => k1
noncomputable def Y_27_0 {R : Type} (k : Ex → St → Option R) : E_27_0 → Option R
 | .e0 => k Ex.ret (sx 49 [(2, CV.bool false)] [])
 | .e1 => k (Ex.exit 0) (sx 49 [] [])
noncomputable def Sp.S_27_0 {R : Type} (K : Int → Int → (List Int × List Int × Int × Unit) → Option R) (k : E_27_0 → Option R) (p0 p1 : Int) (p2 : List Int × List Int × Int × Unit) : Option R :=
 bif decide (p1 < p0) then gd (inB p1 (length (p2.2.1))) (bif decide (getD (p2.2.1) (toNat p1) (0 :Int) < (0 :Int)) then k (E_27_0.e0) else gd (inB p1 (length (p2.2.1))) (bif decide (getD (p2.2.1) (toNat p1) 0 > p2.2.2.1) then k (E_27_0.e0) else K p0 (wrap i64 (p1 + 1)) p2)) else k (E_27_0.e1)
noncomputable def Sp.L_27_0 : Nat → Int → Int → (List Int × List Int × Int × Unit) → Option E_27_0
 | 0, _, _, _ => none
 | m + 1, p0, p1, p2 => S_27_0 (L_27_0 m) some p0 p1 p2
noncomputable def l_27_0 (m : Nat) (a : T_27_0.E) : Option E_27_0 := L_27_0 m a.1 a.2.1 a.2.2.1
noncomputable def O_27_0 {R : Type} : Orc R := orL T_27_0 (l_27_0 FU) Y_27_0
theorem OK_27_0 {R : Type} : okF (R := R) sm_27 0 (nf 27 0) O_27_0 := lp0 T_27_0 l_27_0 (fun R K k a => S_27_0 (fun p0 p1 p2 => K (p0, p1, p2, ())) k a.1 a.2.1 a.2.2.1) Y_27_0 (fun _ _ _ => by kernel_rfl) (fun _ _ _ => by
 unfold S_27_0
 repeat' first | apply gdN | apply condN | rfl) (ok0 _)
noncomputable def F_27 (a0 : ((List Int) × ((List Int) × (Int × Unit)))) : Option (Bool × Unit) :=
 bif decide ((↑(length (a0.2.1)) : Int) < 1) then some (false, PUnit.unit) else bif decide ((↑(length (a0.2.1)) : Int) > 64) then some (false, PUnit.unit) else bif (↑(length (a0.1)) : Int) != wrap i64 ((↑(length (a0.2.1)) : Int) * 64) then some (false, PUnit.unit) else gd (p_68 (a0.2.2.1)) (bif !(v_68 (a0.2.2.1)).1 then some (false, PUnit.unit) else B_27_0 (L_27_0 4611686018427387904 (↑(length (a0.2.1)) : Int) 0 a0) (some (false, PUnit.unit)) (some (true, PUnit.unit)))
noncomputable def Sp.p_27 (a0 : ((List Int) × ((List Int) × (Int × Unit)))) : Bool := (F_27 a0).isSome
noncomputable def Sp.v_27 (a0 : ((List Int) × ((List Int) × (Int × Unit)))) : Bool × Unit := (F_27 a0).getD (dfH R_27)
noncomputable def s_27 : Summ := shN A_27 R_27 (fun x => p_27 x.1) (fun x => v_27 x.1)
theorem pv_27 (a0 : ((List Int) × ((List Int) × (Int × Unit)))) {y : Bool × Unit} (h : F_27 a0 = some y) : p_27 a0 = true ∧ v_27 a0 = y := pvG h
theorem run_27 (x : HDen A_27) (y : HDen R_27) (h : F_27 x.1 = some y) : rnF sm_27 1 27 A_27 R_27 x y := runG noO_ok (os := [O_27_0]) ⟨OK_27_0, trivial⟩ (Eq.trans (by kernel_rfl) h)
end
noncomputable section
abbrev A_49 : List Ty := [(.pair (.slice (.int .u32)) (.pair (.slice (.int .i64)) (.pair (.int .i64) .unit))), (.int .i64), (.int .i64)]
abbrev R_49 : List Ty := [.bool]
noncomputable def sm_49 : Nat → Option Summ := smL []
noncomputable def F_49 (a0 : ((List Int) × ((List Int) × (Int × Unit)))) (a1 a2 : Int) : Option (Bool × Unit) :=
 bif decide (a2 < 2) then some (false, PUnit.unit) else bif decide (a2 > 16) then some (false, PUnit.unit) else bif Int.tmod a2 (2 :Int) != (0 :Int) then some (false, PUnit.unit) else bif decide (a1 < 0) then some (false, PUnit.unit) else some (decide (a1 ≤ wrap i64 ((↑(length (a0.2.1)) : Int) - a2)), PUnit.unit)
noncomputable def Sp.p_49 (a0 : ((List Int) × ((List Int) × (Int × Unit)))) (a1 a2 : Int) : Bool := (F_49 a0 a1 a2).isSome
noncomputable def Sp.v_49 (a0 : ((List Int) × ((List Int) × (Int × Unit)))) (a1 a2 : Int) : Bool × Unit := (F_49 a0 a1 a2).getD (dfH R_49)
noncomputable def s_49 : Summ := shN A_49 R_49 (fun x => p_49 x.1 x.2.1 x.2.2.1) (fun x => v_49 x.1 x.2.1 x.2.2.1)
theorem pv_49 (a0 : ((List Int) × ((List Int) × (Int × Unit)))) (a1 a2 : Int) {y : Bool × Unit} (h : F_49 a0 a1 a2 = some y) : p_49 a0 a1 a2 = true ∧ v_49 a0 a1 a2 = y := pvG h
theorem run_49 (x : HDen A_49) (y : HDen R_49) (h : F_49 x.1 x.2.1 x.2.2.1 = some y) : rnF sm_49 1 49 A_49 R_49 x y := runG noO_ok (os := []) trivial (Eq.trans (by kernel_rfl) h)
end
noncomputable section
abbrev A_136 : List Ty := [(.int .i64)]
abbrev R_136 : List Ty := [(.int .u32)]
noncomputable def sm_136 : Nat → Option Summ := smL []
noncomputable def F_136 (a0 : Int) : Option (Int × Unit) :=
 some (Sp.orI u32 (wrap u32 (wrap u32 a0 * 65536)) (wrap u32 (wrap i64 (65535 - a0))), PUnit.unit)
noncomputable def Sp.p_136 (a0 : Int) : Bool := (F_136 a0).isSome
noncomputable def Sp.v_136 (a0 : Int) : Int × Unit := (F_136 a0).getD (dfH R_136)
noncomputable def s_136 : Summ := shN A_136 R_136 (fun x => p_136 x.1) (fun x => v_136 x.1)
theorem pv_136 (a0 : Int) {y : Int × Unit} (h : F_136 a0 = some y) : p_136 a0 = true ∧ v_136 a0 = y := pvG h
theorem run_136 (x : HDen A_136) (y : HDen R_136) (h : F_136 x.1 = some y) : rnF sm_136 1 136 A_136 R_136 x y := runG noO_ok (os := []) trivial (Eq.trans (by kernel_rfl) h)
end
noncomputable section
abbrev A_121 : List Ty := [(.int .u32)]
abbrev R_121 : List Ty := [(.int .i64), .bool]
noncomputable def sm_121 : Nat → Option Summ := smL [(136, s_136)]
noncomputable def F_121 (a0 : Int) : Option (Int × Bool × Unit) :=
 gd (p_136 (wrap i64 (Int.fdiv a0 65536))) (some (wrap i64 (Int.fdiv a0 65536), (v_136 (wrap i64 (Int.fdiv a0 65536))).1 == a0, PUnit.unit))
noncomputable def Sp.p_121 (a0 : Int) : Bool := (F_121 a0).isSome
noncomputable def Sp.v_121 (a0 : Int) : Int × Bool × Unit := (F_121 a0).getD (dfH R_121)
noncomputable def s_121 : Summ := shN A_121 R_121 (fun x => p_121 x.1) (fun x => v_121 x.1)
theorem pv_121 (a0 : Int) {y : Int × Bool × Unit} (h : F_121 a0 = some y) : p_121 a0 = true ∧ v_121 a0 = y := pvG h
theorem run_121 (x : HDen A_121) (y : HDen R_121) (h : F_121 x.1 = some y) : rnF sm_121 1 121 A_121 R_121 x y := runG noO_ok (os := []) trivial (Eq.trans (by kernel_rfl) h)
end
noncomputable section
abbrev A_101 : List Ty := [(.pair (.pair (.slice (.int .u32)) (.pair (.slice (.int .i64)) (.pair (.int .i64) .unit))) (.pair (.int .i64) (.pair (.int .i64) .unit)))]
abbrev R_101 : List Ty := [(.int .i64)]
noncomputable def sm_101 : Nat → Option Summ := smL []
noncomputable def F_101 (a0 : (((List Int) × ((List Int) × (Int × Unit))) × (Int × (Int × Unit)))) : Option (Int × Unit) :=
 some (wrap i64 (Int.tdiv (wrap i64 (64 * a0.2.2.1)) 2), PUnit.unit)
noncomputable def Sp.p_101 (a0 : (((List Int) × ((List Int) × (Int × Unit))) × (Int × (Int × Unit)))) : Bool := (F_101 a0).isSome
noncomputable def Sp.v_101 (a0 : (((List Int) × ((List Int) × (Int × Unit))) × (Int × (Int × Unit)))) : Int × Unit := (F_101 a0).getD (dfH R_101)
noncomputable def s_101 : Summ := shN A_101 R_101 (fun x => p_101 x.1) (fun x => v_101 x.1)
theorem pv_101 (a0 : (((List Int) × ((List Int) × (Int × Unit))) × (Int × (Int × Unit)))) {y : Int × Unit} (h : F_101 a0 = some y) : p_101 a0 = true ∧ v_101 a0 = y := pvG h
theorem run_101 (x : HDen A_101) (y : HDen R_101) (h : F_101 x.1 = some y) : rnF sm_101 1 101 A_101 R_101 x y := runG noO_ok (os := []) trivial (Eq.trans (by kernel_rfl) h)
end
noncomputable section
abbrev A_103 : List Ty := [(.pair (.pair (.slice (.int .u32)) (.pair (.slice (.int .i64)) (.pair (.int .i64) .unit))) (.pair (.int .i64) (.pair (.int .i64) .unit))), (.int .i64)]
abbrev R_103 : List Ty := [(.int .i64)]
noncomputable def sm_103 : Nat → Option Summ := smL [(101, s_101)]
noncomputable def F_103 (a0 : (((List Int) × ((List Int) × (Int × Unit))) × (Int × (Int × Unit)))) (a1 : Int) : Option (Int × Unit) :=
 gd (p_101 a0) (some (wrap i64 (wrap i64 (64 * a0.2.1) + wrap i64 (a1 * (v_101 a0).1)), PUnit.unit))
noncomputable def Sp.p_103 (a0 : (((List Int) × ((List Int) × (Int × Unit))) × (Int × (Int × Unit)))) (a1 : Int) : Bool := (F_103 a0 a1).isSome
noncomputable def Sp.v_103 (a0 : (((List Int) × ((List Int) × (Int × Unit))) × (Int × (Int × Unit)))) (a1 : Int) : Int × Unit := (F_103 a0 a1).getD (dfH R_103)
noncomputable def s_103 : Summ := shN A_103 R_103 (fun x => p_103 x.1 x.2.1) (fun x => v_103 x.1 x.2.1)
theorem pv_103 (a0 : (((List Int) × ((List Int) × (Int × Unit))) × (Int × (Int × Unit)))) (a1 : Int) {y : Int × Unit} (h : F_103 a0 a1 = some y) : p_103 a0 a1 = true ∧ v_103 a0 a1 = y := pvG h
theorem run_103 (x : HDen A_103) (y : HDen R_103) (h : F_103 x.1 x.2.1 = some y) : rnF sm_103 1 103 A_103 R_103 x y := runG noO_ok (os := []) trivial (Eq.trans (by kernel_rfl) h)
end
noncomputable section
abbrev A_122 : List Ty := [(.pair (.pair (.slice (.int .u32)) (.pair (.slice (.int .i64)) (.pair (.int .i64) .unit))) (.pair (.int .i64) (.pair (.int .i64) .unit))), (.int .i64), (.int .i64)]
abbrev R_122 : List Ty := [(.int .u32)]
noncomputable def sm_122 : Nat → Option Summ := smL [(103, s_103)]
noncomputable def F_122 (a0 : (((List Int) × ((List Int) × (Int × Unit))) × (Int × (Int × Unit)))) (a1 a2 : Int) : Option (Int × Unit) :=
 gd (p_103 a0 a1) (gd (inB (wrap i64 ((v_103 a0 a1).1 + a2)) (length (a0.1.1))) (some (getD (a0.1.1) (toNat (wrap i64 ((v_103 a0 a1).1 + a2))) 0, PUnit.unit)))
noncomputable def Sp.p_122 (a0 : (((List Int) × ((List Int) × (Int × Unit))) × (Int × (Int × Unit)))) (a1 a2 : Int) : Bool := (F_122 a0 a1 a2).isSome
noncomputable def Sp.v_122 (a0 : (((List Int) × ((List Int) × (Int × Unit))) × (Int × (Int × Unit)))) (a1 a2 : Int) : Int × Unit := (F_122 a0 a1 a2).getD (dfH R_122)
noncomputable def s_122 : Summ := shN A_122 R_122 (fun x => p_122 x.1 x.2.1 x.2.2.1) (fun x => v_122 x.1 x.2.1 x.2.2.1)
theorem pv_122 (a0 : (((List Int) × ((List Int) × (Int × Unit))) × (Int × (Int × Unit)))) (a1 a2 : Int) {y : Int × Unit} (h : F_122 a0 a1 a2 = some y) : p_122 a0 a1 a2 = true ∧ v_122 a0 a1 a2 = y := pvG h
theorem run_122 (x : HDen A_122) (y : HDen R_122) (h : F_122 x.1 x.2.1 x.2.2.1 = some y) : rnF sm_122 1 122 A_122 R_122 x y := runG noO_ok (os := []) trivial (Eq.trans (by kernel_rfl) h)
end
noncomputable section
abbrev A_86 : List Ty := [(.pair (.pair (.slice (.int .u32)) (.pair (.slice (.int .i64)) (.pair (.int .i64) .unit))) (.pair (.int .i64) (.pair (.int .i64) .unit))), (.int .i64)]
abbrev R_86 : List Ty := [(.int .i64)]
noncomputable def sm_86 : Nat → Option Summ := smL [(121, s_121), (122, s_122)]
noncomputable def F_86 (a0 : (((List Int) × ((List Int) × (Int × Unit))) × (Int × (Int × Unit)))) (a1 : Int) : Option (Int × Unit) :=
 gd (p_122 a0 a1 0) (gd (p_121 ((v_122 a0 a1 0).1)) (bif !(v_121 ((v_122 a0 a1 0).1)).2.1 then some (0, PUnit.unit) else some ((v_121 ((v_122 a0 a1 0).1)).1, PUnit.unit)))
noncomputable def Sp.p_86 (a0 : (((List Int) × ((List Int) × (Int × Unit))) × (Int × (Int × Unit)))) (a1 : Int) : Bool := (F_86 a0 a1).isSome
noncomputable def Sp.v_86 (a0 : (((List Int) × ((List Int) × (Int × Unit))) × (Int × (Int × Unit)))) (a1 : Int) : Int × Unit := (F_86 a0 a1).getD (dfH R_86)
noncomputable def s_86 : Summ := shN A_86 R_86 (fun x => p_86 x.1 x.2.1) (fun x => v_86 x.1 x.2.1)
theorem pv_86 (a0 : (((List Int) × ((List Int) × (Int × Unit))) × (Int × (Int × Unit)))) (a1 : Int) {y : Int × Unit} (h : F_86 a0 a1 = some y) : p_86 a0 a1 = true ∧ v_86 a0 a1 = y := pvG h
theorem run_86 (x : HDen A_86) (y : HDen R_86) (h : F_86 x.1 x.2.1 = some y) : rnF sm_86 1 86 A_86 R_86 x y := runG noO_ok (os := []) trivial (Eq.trans (by kernel_rfl) h)
end
noncomputable section
abbrev A_50 : List Ty := [(.pair (.pair (.slice (.int .u32)) (.pair (.slice (.int .i64)) (.pair (.int .i64) .unit))) (.pair (.int .i64) (.pair (.int .i64) .unit)))]
abbrev R_50 : List Ty := [(.int .i64)]
noncomputable def sm_50 : Nat → Option Summ := smL [(86, s_86)]
noncomputable def F_50 (a0 : (((List Int) × ((List Int) × (Int × Unit))) × (Int × (Int × Unit)))) : Option (Int × Unit) :=
 gd (p_86 a0 0) (gd (p_86 a0 1) (bif (v_86 a0 0).1 == 0 then bif (v_86 a0 1).1 == 0 then some ((-1 : Int), PUnit.unit) else bif decide ((v_86 a0 1).1 > (v_86 a0 0).1) then some (1, PUnit.unit) else some (0, PUnit.unit) else bif decide ((v_86 a0 1).1 > (v_86 a0 0).1) then some (1, PUnit.unit) else some (0, PUnit.unit)))
noncomputable def Sp.p_50 (a0 : (((List Int) × ((List Int) × (Int × Unit))) × (Int × (Int × Unit)))) : Bool := (F_50 a0).isSome
noncomputable def Sp.v_50 (a0 : (((List Int) × ((List Int) × (Int × Unit))) × (Int × (Int × Unit)))) : Int × Unit := (F_50 a0).getD (dfH R_50)
noncomputable def s_50 : Summ := shN A_50 R_50 (fun x => p_50 x.1) (fun x => v_50 x.1)
theorem pv_50 (a0 : (((List Int) × ((List Int) × (Int × Unit))) × (Int × (Int × Unit)))) {y : Int × Unit} (h : F_50 a0 = some y) : p_50 a0 = true ∧ v_50 a0 = y := pvG h
theorem run_50 (x : HDen A_50) (y : HDen R_50) (h : F_50 x.1 = some y) : rnF sm_50 1 50 A_50 R_50 x y := runG noO_ok (os := []) trivial (Eq.trans (by kernel_rfl) h)
end
noncomputable section
abbrev A_13 : List Ty := [(.pair (.pair (.slice (.int .u32)) (.pair (.slice (.int .i64)) (.pair (.int .i64) .unit))) (.pair (.int .i64) (.pair (.int .i64) .unit)))]
abbrev R_13 : List Ty := [.bool]
noncomputable def sm_13 : Nat → Option Summ := smL [(27, s_27), (49, s_49), (50, s_50)]
noncomputable def F_13 (a0 : (((List Int) × ((List Int) × (Int × Unit))) × (Int × (Int × Unit)))) : Option (Bool × Unit) :=
 gd (p_27 (a0.1)) (bif (v_27 (a0.1)).1 then gd (p_49 (a0.1) (a0.2.1) (a0.2.2.1)) (bif (v_49 (a0.1) (a0.2.1) (a0.2.2.1)).1 then gd (p_50 a0) (some (decide ((v_50 a0).1 ≥ 0), PUnit.unit)) else some (false, PUnit.unit)) else some (false, PUnit.unit))
noncomputable def Sp.p_13 (a0 : (((List Int) × ((List Int) × (Int × Unit))) × (Int × (Int × Unit)))) : Bool := (F_13 a0).isSome
noncomputable def Sp.v_13 (a0 : (((List Int) × ((List Int) × (Int × Unit))) × (Int × (Int × Unit)))) : Bool × Unit := (F_13 a0).getD (dfH R_13)
noncomputable def s_13 : Summ := shN A_13 R_13 (fun x => p_13 x.1) (fun x => v_13 x.1)
theorem pv_13 (a0 : (((List Int) × ((List Int) × (Int × Unit))) × (Int × (Int × Unit)))) {y : Bool × Unit} (h : F_13 a0 = some y) : p_13 a0 = true ∧ v_13 a0 = y := pvG h
theorem run_13 (x : HDen A_13) (y : HDen R_13) (h : F_13 x.1 = some y) : rnF sm_13 1 13 A_13 R_13 x y := runG noO_ok (os := []) trivial (Eq.trans (by kernel_rfl) h)
end
noncomputable section
abbrev A_56 : List Ty := [(.slice (.int .i64)), (.slice (.int .i64))]
abbrev R_56 : List Ty := [.bool]
noncomputable def sm_56 : Nat → Option Summ := smL []
noncomputable def T_56_0 : PS := ⟨26, [(0, .hv (.slice (.int .i64))), (1, .hv (.slice (.int .i64))), (5, .hv (.int .i64))], [], 0⟩
inductive Sp.E_56_0 where
 | e0
 | e1
noncomputable def Sp.B_56_0 {R : Type} (r : Option E_56_0) (k0 k1 : Option R) : Option R := match r with
 | none => none
 | some (.e0) => k0
 | some (.e1) => k1
noncomputable def Y_56_0 {R : Type} (k : Ex → St → Option R) : E_56_0 → Option R
 | .e0 => k Ex.ret (sx 26 [(4, CV.bool false)] [])
 | .e1 => k (Ex.exit 0) (sx 26 [] [])
noncomputable def Sp.S_56_0 {R : Type} (K : List Int → List Int → Int → Option R) (k : E_56_0 → Option R) (p0 p1 : List Int) (p2 : Int) : Option R :=
 bif decide (p2 < (↑(length p0) : Int)) then gd (inB p2 (length p0)) (gd (inB p2 (length p1)) (bif getD p0 (toNat p2) 0 != getD p1 (toNat p2) 0 then k (E_56_0.e0) else K p0 p1 (wrap i64 (p2 + 1)))) else k (E_56_0.e1)
noncomputable def Sp.L_56_0 : Nat → List Int → List Int → Int → Option E_56_0
 | 0, _, _, _ => none
 | m + 1, p0, p1, p2 => S_56_0 (L_56_0 m) some p0 p1 p2
noncomputable def l_56_0 (m : Nat) (a : T_56_0.E) : Option E_56_0 := L_56_0 m a.1 a.2.1 a.2.2.1
noncomputable def O_56_0 {R : Type} : Orc R := orL T_56_0 (l_56_0 FU) Y_56_0
theorem OK_56_0 {R : Type} : okF (R := R) sm_56 0 (nf 56 0) O_56_0 := lp0 T_56_0 l_56_0 (fun R K k a => S_56_0 (fun p0 p1 p2 => K (p0, p1, p2, ())) k a.1 a.2.1 a.2.2.1) Y_56_0 (fun _ _ _ => by kernel_rfl) (fun _ _ _ => by
 unfold S_56_0
 repeat' first | apply gdN | apply condN | rfl) (ok0 _)
noncomputable def F_56 (a0 a1 : (List Int)) : Option (Bool × Unit) :=
 bif (↑(length a0) : Int) != (↑(length a1) : Int) then some (false, PUnit.unit) else B_56_0 (L_56_0 4611686018427387904 a0 a1 0) (some (false, PUnit.unit)) (some (true, PUnit.unit))
noncomputable def Sp.p_56 (a0 a1 : (List Int)) : Bool := (F_56 a0 a1).isSome
noncomputable def Sp.v_56 (a0 a1 : (List Int)) : Bool × Unit := (F_56 a0 a1).getD (dfH R_56)
noncomputable def s_56 : Summ := shN A_56 R_56 (fun x => p_56 x.1 x.2.1) (fun x => v_56 x.1 x.2.1)
theorem pv_56 (a0 a1 : (List Int)) {y : Bool × Unit} (h : F_56 a0 a1 = some y) : p_56 a0 a1 = true ∧ v_56 a0 a1 = y := pvG h
theorem run_56 (x : HDen A_56) (y : HDen R_56) (h : F_56 x.1 x.2.1 = some y) : rnF sm_56 1 56 A_56 R_56 x y := runG noO_ok (os := [O_56_0]) ⟨OK_56_0, trivial⟩ (Eq.trans (by kernel_rfl) h)
end
noncomputable section
abbrev A_18 : List Ty := [(.pair (.int .i64) (.pair (.int .i64) (.pair (.int .i64) (.pair (.int .i64) (.pair (.int .i64) (.pair (.slice (.int .i64)) (.pair (.int .i64) .unit))))))), (.pair (.int .i64) (.pair (.int .i64) (.pair (.int .i64) (.pair (.int .i64) (.pair (.int .i64) (.pair (.slice (.int .i64)) (.pair (.int .i64) .unit)))))))]
abbrev R_18 : List Ty := [.bool]
noncomputable def sm_18 : Nat → Option Summ := smL [(56, s_56)]
noncomputable def F_18 (a0 : (Int × (Int × (Int × (Int × (Int × ((List Int) × (Int × Unit)))))))) (a1 : (Int × (Int × (Int × (Int × (Int × ((List Int) × (Int × Unit)))))))) : Option (Bool × Unit) :=
 bif a0.1 == a1.1 then bif a0.2.1 == a1.2.1 then bif a0.2.2.1 == a1.2.2.1 then bif a0.2.2.2.1 == a1.2.2.2.1 then bif a0.2.2.2.2.1 == a1.2.2.2.2.1 then bif a0.2.2.2.2.2.2.1 == a1.2.2.2.2.2.2.1 then gd (p_56 (a0.2.2.2.2.2.1) (a1.2.2.2.2.2.1)) (some ((v_56 (a0.2.2.2.2.2.1) (a1.2.2.2.2.2.1)).1, PUnit.unit)) else some (false, PUnit.unit) else some (false, PUnit.unit) else some (false, PUnit.unit) else some (false, PUnit.unit) else some (false, PUnit.unit) else some (false, PUnit.unit)
noncomputable def Sp.p_18 (a0 : (Int × (Int × (Int × (Int × (Int × ((List Int) × (Int × Unit)))))))) (a1 : (Int × (Int × (Int × (Int × (Int × ((List Int) × (Int × Unit)))))))) : Bool := (F_18 a0 a1).isSome
noncomputable def Sp.v_18 (a0 : (Int × (Int × (Int × (Int × (Int × ((List Int) × (Int × Unit)))))))) (a1 : (Int × (Int × (Int × (Int × (Int × ((List Int) × (Int × Unit)))))))) : Bool × Unit := (F_18 a0 a1).getD (dfH R_18)
noncomputable def s_18 : Summ := shN A_18 R_18 (fun x => p_18 x.1 x.2.1) (fun x => v_18 x.1 x.2.1)
theorem pv_18 (a0 : (Int × (Int × (Int × (Int × (Int × ((List Int) × (Int × Unit)))))))) (a1 : (Int × (Int × (Int × (Int × (Int × ((List Int) × (Int × Unit)))))))) {y : Bool × Unit} (h : F_18 a0 a1 = some y) : p_18 a0 a1 = true ∧ v_18 a0 a1 = y := pvG h
theorem run_18 (x : HDen A_18) (y : HDen R_18) (h : F_18 x.1 x.2.1 = some y) : rnF sm_18 1 18 A_18 R_18 x y := runG noO_ok (os := []) trivial (Eq.trans (by kernel_rfl) h)
end
noncomputable section
abbrev Zy14_0 : Ty := (.pair (.slice (.pair (.int .i64) (.pair (.int .i64) (.pair (.int .i64) (.pair (.int .i64) (.pair (.int .i64) (.pair (.int .i64) (.pair .bool (.pair (.int .i64) .unit))))))))) (.pair (.slice (.pair (.int .i64) (.pair (.int .i64) (.pair (.int .i64) (.pair (.int .i64) (.pair (.int .i64) (.pair (.slice (.int .i64)) (.pair (.int .i64) .unit)))))))) (.pair (.int .i64) (.pair .bool .unit))))
abbrev Zt14_1 : Type := List (Int × Int × Int × Int × Int × Int × Bool × Int × Unit) × List (Int × Int × Int × Int × Int × List Int × Int × Unit) × Int × Bool × Unit
abbrev A_14 : List Ty := [(.pair (.slice (.pair (.int .i64) (.pair (.int .i64) (.pair (.int .i64) (.pair (.int .i64) (.pair (.int .i64) (.pair (.int .i64) (.pair .bool (.pair (.int .i64) .unit))))))))) (.pair (.slice (.pair (.int .i64) (.pair (.int .i64) (.pair (.int .i64) (.pair (.int .i64) (.pair (.int .i64) (.pair (.slice (.int .i64)) (.pair (.int .i64) .unit)))))))) (.pair (.int .i64) (.pair .bool .unit)))), (.pair (.slice (.pair (.int .i64) (.pair (.int .i64) (.pair (.int .i64) (.pair (.int .i64) (.pair (.int .i64) (.pair (.int .i64) (.pair .bool (.pair (.int .i64) .unit))))))))) (.pair (.slice (.pair (.int .i64) (.pair (.int .i64) (.pair (.int .i64) (.pair (.int .i64) (.pair (.int .i64) (.pair (.slice (.int .i64)) (.pair (.int .i64) .unit)))))))) (.pair (.int .i64) (.pair .bool .unit))))]
abbrev R_14 : List Ty := [.bool]
noncomputable def sm_14 : Nat → Option Summ := smL [(18, s_18)]
noncomputable def T_14_0 : PS := ⟨74, [(2, .kc (.ptr 0 [])), (3, .kc (.ptr 1 [])), (5, .hv (.int .i64))], [.mem (.hv Zy14_0), .mem (.hv Zy14_0)], 0⟩
inductive Sp.E_14_0 where
 | e0
 | e1 (p1 p2 : Zt14_1)
noncomputable def Sp.B_14_0 {R : Type} (r : Option E_14_0) (k0 : Option R) (k1 : Zt14_1 → Zt14_1 → Option R) : Option R := match r with
 | none => none
 | some (.e0) => k0
 | some (.e1 p1 p2) => k1 p1 p2
noncomputable def Y_14_0 {R : Type} (k : Ex → St → Option R) : E_14_0 → Option R
 | .e0 => k Ex.ret (sx 74 [(4, CV.bool false)] [])
 | .e1 p1 p2 => k (Ex.exit 0) (sx 74 [(2, CV.ptr 0 []), (3, CV.ptr 1 [])] [Blk.mem (CV.pure (Ty.pair (Ty.slice (Ty.pair (Ty.int i64) (Ty.pair (Ty.int i64) (Ty.pair (Ty.int i64) (Ty.pair (Ty.int i64) (Ty.pair (Ty.int i64) (Ty.pair (Ty.int i64) (Ty.pair Ty.bool (Ty.pair (Ty.int i64) Ty.unit))))))))) (Ty.pair (Ty.slice (Ty.pair (Ty.int i64) (Ty.pair (Ty.int i64) (Ty.pair (Ty.int i64) (Ty.pair (Ty.int i64) (Ty.pair (Ty.int i64) (Ty.pair (Ty.slice (Ty.int i64)) (Ty.pair (Ty.int i64) Ty.unit)))))))) (Ty.pair (Ty.int i64) (Ty.pair Ty.bool Ty.unit)))) p1), Blk.mem (CV.pure (Ty.pair (Ty.slice (Ty.pair (Ty.int i64) (Ty.pair (Ty.int i64) (Ty.pair (Ty.int i64) (Ty.pair (Ty.int i64) (Ty.pair (Ty.int i64) (Ty.pair (Ty.int i64) (Ty.pair Ty.bool (Ty.pair (Ty.int i64) Ty.unit))))))))) (Ty.pair (Ty.slice (Ty.pair (Ty.int i64) (Ty.pair (Ty.int i64) (Ty.pair (Ty.int i64) (Ty.pair (Ty.int i64) (Ty.pair (Ty.int i64) (Ty.pair (Ty.slice (Ty.int i64)) (Ty.pair (Ty.int i64) Ty.unit)))))))) (Ty.pair (Ty.int i64) (Ty.pair Ty.bool Ty.unit)))) p2)])
noncomputable def Sp.S_14_0 {R : Type} (K : Int → (List (Int × Int × Int × Int × Int × Int × Bool × Int × Unit) × List (Int × Int × Int × Int × Int × List Int × Int × Unit) × Int × Bool × Unit) → (List (Int × Int × Int × Int × Int × Int × Bool × Int × Unit) × List (Int × Int × Int × Int × Int × List Int × Int × Unit) × Int × Bool × Unit) → Option R) (k : E_14_0 → Option R) (p0 : Int) (p1 p2 : List (Int × Int × Int × Int × Int × Int × Bool × Int × Unit) × List (Int × Int × Int × Int × Int × List Int × Int × Unit) × Int × Bool × Unit) : Option R :=
 bif decide (p0 < (↑(length (p1.1)) : Int)) then gd (inB p0 (length (p1.1))) (gd (inB p0 (length (p2.1))) (bif !Ty.beq (Ty.pair (Ty.int i64) (Ty.pair (Ty.int i64) (Ty.pair (Ty.int i64) (Ty.pair (Ty.int i64) (Ty.pair (Ty.int i64) (Ty.pair (Ty.int i64) (Ty.pair Ty.bool (Ty.pair (Ty.int i64) Ty.unit)))))))) (getD (p1.1) (toNat p0) Zd1) (getD (p2.1) (toNat p0) Zd1) then k (E_14_0.e0) else K (wrap i64 (p0 + 1)) p1 p2)) else k (E_14_0.e1 p1 p2)
noncomputable def Sp.L_14_0 : Nat → Int → (List (Int × Int × Int × Int × Int × Int × Bool × Int × Unit) × List (Int × Int × Int × Int × Int × List Int × Int × Unit) × Int × Bool × Unit) → (List (Int × Int × Int × Int × Int × Int × Bool × Int × Unit) × List (Int × Int × Int × Int × Int × List Int × Int × Unit) × Int × Bool × Unit) → Option E_14_0
 | 0, _, _, _ => none
 | m + 1, p0, p1, p2 => S_14_0 (L_14_0 m) some p0 p1 p2
noncomputable def l_14_0 (m : Nat) (a : T_14_0.E) : Option E_14_0 := L_14_0 m a.1 a.2.1 a.2.2.1
noncomputable def O_14_0 {R : Type} : Orc R := orL T_14_0 (l_14_0 FU) Y_14_0
theorem OK_14_0 {R : Type} : okF (R := R) sm_14 0 (nf 14 0) O_14_0 := lp0 T_14_0 l_14_0 (fun R K k a => S_14_0 (fun p0 p1 p2 => K (p0, p1, p2, ())) k a.1 a.2.1 a.2.2.1) Y_14_0 (fun _ _ _ => by kernel_rfl) (fun _ _ _ => by
 unfold S_14_0
 repeat' first | apply gdN | apply condN | rfl) (ok0 _)
noncomputable def T_14_1 : PS := ⟨74, [(2, .kc (.ptr 0 [])), (3, .kc (.ptr 1 [])), (6, .hv (.int .i64))], [.mem (.hv Zy14_0), .mem (.hv Zy14_0)], 0⟩
inductive Sp.E_14_1 where
 | e0
 | e1
noncomputable def Sp.B_14_1 {R : Type} (r : Option E_14_1) (k0 k1 : Option R) : Option R := match r with
 | none => none
 | some (.e0) => k0
 | some (.e1) => k1
noncomputable def Y_14_1 {R : Type} (k : Ex → St → Option R) : E_14_1 → Option R
 | .e0 => k Ex.ret (sx 74 [(4, CV.bool false)] [])
 | .e1 => k (Ex.exit 2) (sx 74 [] [])
noncomputable def Sp.S_14_1 {R : Type} (K : Int → (List (Int × Int × Int × Int × Int × Int × Bool × Int × Unit) × List (Int × Int × Int × Int × Int × List Int × Int × Unit) × Int × Bool × Unit) → (List (Int × Int × Int × Int × Int × Int × Bool × Int × Unit) × List (Int × Int × Int × Int × Int × List Int × Int × Unit) × Int × Bool × Unit) → Option R) (k : E_14_1 → Option R) (p0 : Int) (p1 p2 : List (Int × Int × Int × Int × Int × Int × Bool × Int × Unit) × List (Int × Int × Int × Int × Int × List Int × Int × Unit) × Int × Bool × Unit) : Option R :=
 bif decide (p0 < (↑(length (p1.2.1)) : Int)) then gd (inB p0 (length (p1.2.1))) (gd (inB p0 (length (p2.2.1))) (gd (p_18 (getD (p1.2.1) (toNat p0) Zd0) (getD (p2.2.1) (toNat p0) Zd0)) (bif !(v_18 (getD (p1.2.1) (toNat p0) Zd0) (getD (p2.2.1) (toNat p0) Zd0)).1 then k (E_14_1.e0) else K (wrap i64 (p0 + 1)) p1 p2))) else k (E_14_1.e1)
noncomputable def Sp.L_14_1 : Nat → Int → (List (Int × Int × Int × Int × Int × Int × Bool × Int × Unit) × List (Int × Int × Int × Int × Int × List Int × Int × Unit) × Int × Bool × Unit) → (List (Int × Int × Int × Int × Int × Int × Bool × Int × Unit) × List (Int × Int × Int × Int × Int × List Int × Int × Unit) × Int × Bool × Unit) → Option E_14_1
 | 0, _, _, _ => none
 | m + 1, p0, p1, p2 => S_14_1 (L_14_1 m) some p0 p1 p2
noncomputable def l_14_1 (m : Nat) (a : T_14_1.E) : Option E_14_1 := L_14_1 m a.1 a.2.1 a.2.2.1
noncomputable def O_14_1 {R : Type} : Orc R := orL T_14_1 (l_14_1 FU) Y_14_1
theorem OK_14_1 {R : Type} : okF (R := R) sm_14 0 (nf 14 1) O_14_1 := lp0 T_14_1 l_14_1 (fun R K k a => S_14_1 (fun p0 p1 p2 => K (p0, p1, p2, ())) k a.1 a.2.1 a.2.2.1) Y_14_1 (fun _ _ _ => by kernel_rfl) (fun _ _ _ => by
 unfold S_14_1
 repeat' first | apply gdN | apply condN | rfl) (ok0 _)
noncomputable def F_14 (a0 : ((List (Int × (Int × (Int × (Int × (Int × (Int × (Bool × (Int × Unit))))))))) × ((List (Int × (Int × (Int × (Int × (Int × ((List Int) × (Int × Unit)))))))) × (Int × (Bool × Unit))))) (a1 : ((List (Int × (Int × (Int × (Int × (Int × (Int × (Bool × (Int × Unit))))))))) × ((List (Int × (Int × (Int × (Int × (Int × ((List Int) × (Int × Unit)))))))) × (Int × (Bool × Unit))))) : Option (Bool × Unit) :=
 bif (↑(length (a0.1)) : Int) != (↑(length (a1.1)) : Int) then some (false, PUnit.unit) else bif (↑(length (a0.2.1)) : Int) != (↑(length (a1.2.1)) : Int) then some (false, PUnit.unit) else bif a0.2.2.1 != a1.2.2.1 then some (false, PUnit.unit) else bif !a0.2.2.2.1 == a1.2.2.2.1 then some (false, PUnit.unit) else B_14_0 (L_14_0 4611686018427387904 0 a0 a1) (some (false, PUnit.unit)) fun y2 y3 => B_14_1 (L_14_1 4611686018427387904 0 y2 y3) (some (false, PUnit.unit)) (some (true, PUnit.unit))
noncomputable def Sp.p_14 (a0 : ((List (Int × (Int × (Int × (Int × (Int × (Int × (Bool × (Int × Unit))))))))) × ((List (Int × (Int × (Int × (Int × (Int × ((List Int) × (Int × Unit)))))))) × (Int × (Bool × Unit))))) (a1 : ((List (Int × (Int × (Int × (Int × (Int × (Int × (Bool × (Int × Unit))))))))) × ((List (Int × (Int × (Int × (Int × (Int × ((List Int) × (Int × Unit)))))))) × (Int × (Bool × Unit))))) : Bool := (F_14 a0 a1).isSome
noncomputable def Sp.v_14 (a0 : ((List (Int × (Int × (Int × (Int × (Int × (Int × (Bool × (Int × Unit))))))))) × ((List (Int × (Int × (Int × (Int × (Int × ((List Int) × (Int × Unit)))))))) × (Int × (Bool × Unit))))) (a1 : ((List (Int × (Int × (Int × (Int × (Int × (Int × (Bool × (Int × Unit))))))))) × ((List (Int × (Int × (Int × (Int × (Int × ((List Int) × (Int × Unit)))))))) × (Int × (Bool × Unit))))) : Bool × Unit := (F_14 a0 a1).getD (dfH R_14)
noncomputable def s_14 : Summ := shN A_14 R_14 (fun x => p_14 x.1 x.2.1) (fun x => v_14 x.1 x.2.1)
theorem pv_14 (a0 : ((List (Int × (Int × (Int × (Int × (Int × (Int × (Bool × (Int × Unit))))))))) × ((List (Int × (Int × (Int × (Int × (Int × ((List Int) × (Int × Unit)))))))) × (Int × (Bool × Unit))))) (a1 : ((List (Int × (Int × (Int × (Int × (Int × (Int × (Bool × (Int × Unit))))))))) × ((List (Int × (Int × (Int × (Int × (Int × ((List Int) × (Int × Unit)))))))) × (Int × (Bool × Unit))))) {y : Bool × Unit} (h : F_14 a0 a1 = some y) : p_14 a0 a1 = true ∧ v_14 a0 a1 = y := pvG h
theorem run_14 (x : HDen A_14) (y : HDen R_14) (h : F_14 x.1 x.2.1 = some y) : rnF sm_14 1 14 A_14 R_14 x y := runG noO_ok (os := [O_14_0, O_14_1]) ⟨OK_14_0, OK_14_1, trivial⟩ (Eq.trans (by kernel_rfl) h)
end
noncomputable section
abbrev A_105 : List Ty := [(.slice (.pair (.int .i64) (.pair (.slice (.int .u32)) .unit))), (.int .i64), (.slice (.int .u32))]
abbrev R_105 : List Ty := [(.slice (.pair (.int .i64) (.pair (.slice (.int .u32)) .unit)))]
noncomputable def sm_105 : Nat → Option Summ := smL []
noncomputable def T_105_0 : PS := ⟨60, [(0, .hv (.slice (.pair (.int .i64) (.pair (.slice (.int .u32)) .unit)))), (1, .hv (.int .i64)), (2, .hv (.slice (.int .u32))), (7, .kc (.whole 0)), (8, .hv .bool), (9, .hv (.int .i64))], [.vec 71 (.pair (.int .i64) (.pair (.slice (.int .u32)) .unit))], 0⟩
inductive Sp.E_105_0 where
 | e0 (p1 : Int) (p2 : List Int) (p3 : Bool) (p5 : List (Int × List Int × Unit))
noncomputable def Sp.B_105_0 {R : Type} (r : Option E_105_0) (k0 : Int → List Int → Bool → (List (Int × List Int × Unit)) → Option R) : Option R := match r with
 | none => none
 | some (.e0 p1 p2 p3 p5) => k0 p1 p2 p3 p5
noncomputable def Y_105_0 {R : Type} (k : Ex → St → Option R) : E_105_0 → Option R
 | .e0 p1 p2 p3 p5 => k (Ex.exit 0) (sx 60 [(1, CV.int i64 p1), (2, CV.pure (Ty.slice (Ty.int u32)) p2), (7, CV.whole 0), (8, CV.bool p3)] [Blk.vec 71 (Ty.pair (Ty.int i64) (Ty.pair (Ty.slice (Ty.int u32)) Ty.unit)) p5])
noncomputable def Sp.S_105_0 {R : Type} (K : (List (Int × List Int × Unit)) → Int → List Int → Bool → Int → (List (Int × List Int × Unit)) → Option R) (k : E_105_0 → Option R) (p0 : List (Int × List Int × Unit)) (p1 : Int) (p2 : List Int) (p3 : Bool) (p4 : Int) (p5 : List (Int × List Int × Unit)) : Option R :=
 bif decide (p4 < (↑(length p0) : Int)) then bif !p3 then gd (inB p4 (length p0)) (bif decide ((getD p0 (toNat p4) Zd2).1 ≥ p1) then gd (room (0 + length p2) 4) (gd (room (length p5 + 1) 32) (gd (inB p4 (length p0)) (bif (getD p0 (toNat p4) Zd2).1 != p1 then gd (inB p4 (length p0)) (gd (room (length (p5 ++ [(p1, [] ++ p2, PUnit.unit)]) + 1) 32) (K p0 p1 p2 true (wrap i64 (p4 + 1)) (p5 ++ [(p1, [] ++ p2, PUnit.unit)] ++ [getD p0 (toNat p4) Zd2]))) else K p0 p1 p2 true (wrap i64 (p4 + 1)) (p5 ++ [(p1, [] ++ p2, PUnit.unit)])))) else gd (inB p4 (length p0)) (bif (getD p0 (toNat p4) Zd2).1 != p1 then gd (inB p4 (length p0)) (gd (room (length p5 + 1) 32) (K p0 p1 p2 p3 (wrap i64 (p4 + 1)) (p5 ++ [getD p0 (toNat p4) Zd2]))) else K p0 p1 p2 p3 (wrap i64 (p4 + 1)) p5)) else gd (inB p4 (length p0)) (bif (getD p0 (toNat p4) Zd2).1 != p1 then gd (inB p4 (length p0)) (gd (room (length p5 + 1) 32) (K p0 p1 p2 p3 (wrap i64 (p4 + 1)) (p5 ++ [getD p0 (toNat p4) Zd2]))) else K p0 p1 p2 p3 (wrap i64 (p4 + 1)) p5) else k (E_105_0.e0 p1 p2 p3 p5)
noncomputable def Sp.L_105_0 : Nat → (List (Int × List Int × Unit)) → Int → List Int → Bool → Int → (List (Int × List Int × Unit)) → Option E_105_0
 | 0, _, _, _, _, _, _ => none
 | m + 1, p0, p1, p2, p3, p4, p5 => S_105_0 (L_105_0 m) some p0 p1 p2 p3 p4 p5
noncomputable def l_105_0 (m : Nat) (a : T_105_0.E) : Option E_105_0 := L_105_0 m a.1 a.2.1 a.2.2.1 a.2.2.2.1 a.2.2.2.2.1 a.2.2.2.2.2.1
noncomputable def O_105_0 {R : Type} : Orc R := orL T_105_0 (l_105_0 FU) Y_105_0
theorem OK_105_0 {R : Type} : okF (R := R) sm_105 0 (nf 105 0) O_105_0 := lp0 T_105_0 l_105_0 (fun R K k a => S_105_0 (fun p0 p1 p2 p3 p4 p5 => K (p0, p1, p2, p3, p4, p5, ())) k a.1 a.2.1 a.2.2.1 a.2.2.2.1 a.2.2.2.2.1 a.2.2.2.2.2.1) Y_105_0 (fun _ _ _ => by kernel_rfl) (fun _ _ _ => by
 unfold S_105_0
 repeat' first | apply gdN | apply condN | rfl) (ok0 _)
noncomputable def F_105 (a0 : (List (Int × ((List Int) × Unit)))) (a1 : Int) (a2 : (List Int)) : Option ((List (Int × ((List Int) × Unit))) × Unit) :=
 B_105_0 (L_105_0 4611686018427387904 a0 a1 a2 false 0 []) fun y4 y5 y6 y7 => bif !y6 then gd (room (0 + length y5) 4) (gd (room (length y7 + 1) 32) (some (y7 ++ [(y4, [] ++ y5, PUnit.unit)], PUnit.unit))) else some (y7, PUnit.unit)
noncomputable def Sp.p_105 (a0 : (List (Int × ((List Int) × Unit)))) (a1 : Int) (a2 : (List Int)) : Bool := (F_105 a0 a1 a2).isSome
noncomputable def Sp.v_105 (a0 : (List (Int × ((List Int) × Unit)))) (a1 : Int) (a2 : (List Int)) : (List (Int × ((List Int) × Unit))) × Unit := (F_105 a0 a1 a2).getD (dfH R_105)
noncomputable def s_105 : Summ := shS A_105 R_105 (fun x => p_105 x.1 x.2.1 x.2.2.1) (fun x => v_105 x.1 x.2.1 x.2.2.1)
theorem pv_105 (a0 : (List (Int × ((List Int) × Unit)))) (a1 : Int) (a2 : (List Int)) {y : (List (Int × ((List Int) × Unit))) × Unit} (h : F_105 a0 a1 a2 = some y) : p_105 a0 a1 a2 = true ∧ v_105 a0 a1 a2 = y := pvG h
theorem run_105 (x : HDen A_105) (y : HDen R_105) (h : F_105 x.1 x.2.1 x.2.2.1 = some y) : rnF sm_105 1 105 A_105 R_105 x y := runG noO_ok (os := [O_105_0]) ⟨OK_105_0, trivial⟩ (Eq.trans (by kernel_rfl) h)
end
noncomputable section
abbrev A_134 : List Ty := [(.int .i64)]
abbrev R_134 : List Ty := [.bool]
noncomputable def sm_134 : Nat → Option Summ := smL []
noncomputable def F_134 (a0 : Int) : Option (Bool × Unit) :=
 bif decide (a0 ≥ 0) then some (decide (a0 ≤ 254), PUnit.unit) else some (false, PUnit.unit)
noncomputable def Sp.p_134 (a0 : Int) : Bool := (F_134 a0).isSome
noncomputable def Sp.v_134 (a0 : Int) : Bool × Unit := (F_134 a0).getD (dfH R_134)
noncomputable def s_134 : Summ := shN A_134 R_134 (fun x => p_134 x.1) (fun x => v_134 x.1)
theorem pv_134 (a0 : Int) {y : Bool × Unit} (h : F_134 a0 = some y) : p_134 a0 = true ∧ v_134 a0 = y := pvG h
theorem run_134 (x : HDen A_134) (y : HDen R_134) (h : F_134 x.1 = some y) : rnF sm_134 1 134 A_134 R_134 x y := runG noO_ok (os := []) trivial (Eq.trans (by kernel_rfl) h)
end
noncomputable section
abbrev A_135 : List Ty := [(.slice (.int .u32))]
abbrev R_135 : List Ty := [(.int .i64)]
noncomputable def sm_135 : Nat → Option Summ := smL []
noncomputable def T_135_0 : PS := ⟨30, [(0, .hv (.slice (.int .u32))), (3, .hv (.int .i64)), (4, .hv (.int .i64))], [], 0⟩
inductive Sp.E_135_0 where
 | e0 (p1 : Int)
noncomputable def Sp.B_135_0 {R : Type} (r : Option E_135_0) (k0 : Int → Option R) : Option R := match r with
 | none => none
 | some (.e0 p1) => k0 p1
noncomputable def Y_135_0 {R : Type} (k : Ex → St → Option R) : E_135_0 → Option R
 | .e0 p1 => k (Ex.exit 0) (sx 30 [(3, CV.int i64 p1)] [])
noncomputable def Sp.S_135_0 {R : Type} (K : List Int → Int → Int → Option R) (k : E_135_0 → Option R) (p0 : List Int) (p1 p2 : Int) : Option R :=
 bif decide (p2 < (↑(length p0) : Int)) then gd (inB p2 (length p0)) (gd (inB p2 (length p0)) (K p0 (Int.tmod (wrap i64 (wrap i64 (wrap i64 (31 * p1) + wrap i64 (Int.fdiv (getD p0 (toNat p2) 0) 65536)) + wrap i64 (7 * wrap i64 (Int.tmod (getD p0 (toNat p2) 0) 65536)))) 65536) (wrap i64 (p2 + 1)))) else k (E_135_0.e0 p1)
noncomputable def Sp.L_135_0 : Nat → List Int → Int → Int → Option E_135_0
 | 0, _, _, _ => none
 | m + 1, p0, p1, p2 => S_135_0 (L_135_0 m) some p0 p1 p2
noncomputable def l_135_0 (m : Nat) (a : T_135_0.E) : Option E_135_0 := L_135_0 m a.1 a.2.1 a.2.2.1
noncomputable def O_135_0 {R : Type} : Orc R := orL T_135_0 (l_135_0 FU) Y_135_0
theorem OK_135_0 {R : Type} : okF (R := R) sm_135 0 (nf 135 0) O_135_0 := lp0 T_135_0 l_135_0 (fun R K k a => S_135_0 (fun p0 p1 p2 => K (p0, p1, p2, ())) k a.1 a.2.1 a.2.2.1) Y_135_0 (fun _ _ _ => by kernel_rfl) (fun _ _ _ => by
 unfold S_135_0
 repeat' first | apply gdN | apply condN | rfl) (ok0 _)
noncomputable def F_135 (a0 : (List Int)) : Option (Int × Unit) :=
 B_135_0 (L_135_0 4611686018427387904 a0 0 0) fun y1 => some (y1, PUnit.unit)
noncomputable def Sp.p_135 (a0 : (List Int)) : Bool := (F_135 a0).isSome
noncomputable def Sp.v_135 (a0 : (List Int)) : Int × Unit := (F_135 a0).getD (dfH R_135)
noncomputable def s_135 : Summ := shN A_135 R_135 (fun x => p_135 x.1) (fun x => v_135 x.1)
theorem pv_135 (a0 : (List Int)) {y : Int × Unit} (h : F_135 a0 = some y) : p_135 a0 = true ∧ v_135 a0 = y := pvG h
theorem run_135 (x : HDen A_135) (y : HDen R_135) (h : F_135 x.1 = some y) : rnF sm_135 1 135 A_135 R_135 x y := runG noO_ok (os := [O_135_0]) ⟨OK_135_0, trivial⟩ (Eq.trans (by kernel_rfl) h)
end
noncomputable section
abbrev Zt99_0 : Type := List (Int × List Int × Unit)
abbrev Zy99_1 : Ty := (.pair (.pair (.slice (.int .u32)) (.pair (.slice (.int .i64)) (.pair (.int .i64) .unit))) (.pair (.int .i64) (.pair (.int .i64) .unit)))
abbrev Zt99_2 : Type := (List Int × List Int × Int × Unit) × Int × Int × Unit
abbrev Zy99_3 : Ty := (.slice (.pair (.int .i64) (.pair (.slice (.int .u32)) .unit)))
abbrev Zy99_4 : Ty := (.pair (.int .i64) (.pair (.slice (.int .u32)) .unit))
abbrev A_99 : List Ty := [(.pair (.pair (.slice (.int .u32)) (.pair (.slice (.int .i64)) (.pair (.int .i64) .unit))) (.pair (.int .i64) (.pair (.int .i64) .unit))), (.int .i64)]
abbrev R_99 : List Ty := [(.slice (.pair (.int .i64) (.pair (.slice (.int .u32)) .unit))), (.int .i64)]
noncomputable def sm_99 : Nat → Option Summ := smL [(101, s_101), (103, s_103), (105, s_105), (121, s_121), (122, s_122), (134, s_134), (135, s_135)]
noncomputable def T_99_0_1 : PS := ⟨120, [(1, .hv (.int .i64)), (2, .kc (.ptr 0 [])), (6, .hv (.int .i64)), (7, .hv Zy99_3), (8, .hv (.int .i64))], [.mem (.hv Zy99_1)], 0⟩
inductive Sp.E_99_0_1 where
 | e0 (p1 : Int) (p2 : Zt99_0)
 | e1 (p0 p1 : Int) (p2 : Zt99_0) (p3 : Int) (p4 : Zt99_2)
noncomputable def Sp.B_99_0_1 {R : Type} (r : Option E_99_0_1) (k0 : Int → Zt99_0 → Option R) (k1 : Int → Int → Zt99_0 → Int → Zt99_2 → Option R) : Option R := match r with
 | none => none
 | some (.e0 p1 p2) => k0 p1 p2
 | some (.e1 p0 p1 p2 p3 p4) => k1 p0 p1 p2 p3 p4
noncomputable def Y_99_0_1 {R : Type} (k : Ex → St → Option R) : E_99_0_1 → Option R
 | .e0 p1 p2 => k Ex.ret (sx 120 [(4, CV.pure (Ty.slice (Ty.pair (Ty.int i64) (Ty.pair (Ty.slice (Ty.int u32)) Ty.unit))) p2), (5, CV.int i64 p1)] [])
 | .e1 p0 p1 p2 p3 p4 => k (Ex.exit 0) (sx 120 [(1, CV.int i64 p0), (2, CV.ptr 0 []), (6, CV.int i64 p1), (7, CV.pure (Ty.slice (Ty.pair (Ty.int i64) (Ty.pair (Ty.slice (Ty.int u32)) Ty.unit))) p2), (8, CV.int i64 p3)] [Blk.mem (CV.pure (Ty.pair (Ty.pair (Ty.slice (Ty.int u32)) (Ty.pair (Ty.slice (Ty.int i64)) (Ty.pair (Ty.int i64) Ty.unit))) (Ty.pair (Ty.int i64) (Ty.pair (Ty.int i64) Ty.unit))) p4)])
noncomputable def Sp.S_99_0_1 {R : Type} (K : Int → Int → (List (Int × List Int × Unit)) → Int → ((List Int × List Int × Int × Unit) × Int × Int × Unit) → Option R) (k : E_99_0_1 → Option R) (p0 p1 : Int) (p2 : List (Int × List Int × Unit)) (p3 : Int) (p4 : (List Int × List Int × Int × Unit) × Int × Int × Unit) : Option R :=
 bif decide (p3 < p1) then gd (p_122 p4 p0 p3) (bif (v_122 p4 p0 p3).1 != 4294967295 then gd (p_122 p4 p0 p3) (gd (p_121 ((v_122 p4 p0 p3).1)) (bif !(v_121 ((v_122 p4 p0 p3).1)).2.1 then k (E_99_0_1.e0 p1 p2) else gd (p_134 (wrap i64 (Int.tdiv ((v_121 ((v_122 p4 p0 p3).1)).1) 256))) (bif !(v_134 (wrap i64 (Int.tdiv ((v_121 ((v_122 p4 p0 p3).1)).1) 256))).1 then k (E_99_0_1.e0 p1 p2) else bif decide (Int.tmod ((v_121 ((v_122 p4 p0 p3).1)).1) (256 :Int) > (24 :Int)) then k (E_99_0_1.e0 p1 p2) else bif decide (wrap i64 (wrap i64 (p3 + Int.tmod ((v_121 ((v_122 p4 p0 p3).1)).1) 256) + 2) > p1) then k (E_99_0_1.e0 p1 p2) else gd (p_103 p4 p0) (gd (sl3 (wrap i64 ((v_103 p4 p0).1 + p3)) (wrap i64 (wrap i64 (wrap i64 ((v_103 p4 p0).1 + p3) + Int.tmod ((v_121 ((v_122 p4 p0 p3).1)).1) 256) + 1)) (↑(length (p4.1.1)) : Int)) (gd (p_122 p4 p0 (wrap i64 (wrap i64 (p3 + Int.tmod ((v_121 ((v_122 p4 p0 p3).1)).1) 256) + 1))) (gd (p_121 ((v_122 p4 p0 (wrap i64 (wrap i64 (p3 + Int.tmod ((v_121 ((v_122 p4 p0 p3).1)).1) 256) + 1))).1)) (bif (v_121 ((v_122 p4 p0 (wrap i64 (wrap i64 (p3 + Int.tmod ((v_121 ((v_122 p4 p0 p3).1)).1) 256) + 1))).1)).2.1 then gd (p_135 (take (toNat (wrap i64 (wrap i64 (wrap i64 ((v_103 p4 p0).1 + p3) + Int.tmod ((v_121 ((v_122 p4 p0 p3).1)).1) 256) + 1)) - toNat (wrap i64 ((v_103 p4 p0).1 + p3))) (drop (toNat (wrap i64 ((v_103 p4 p0).1 + p3))) (p4.1.1)))) (bif (v_121 ((v_122 p4 p0 (wrap i64 (wrap i64 (p3 + Int.tmod ((v_121 ((v_122 p4 p0 p3).1)).1) 256) + 1))).1)).1 == (v_135 (take (toNat (wrap i64 (wrap i64 (wrap i64 ((v_103 p4 p0).1 + p3) + Int.tmod ((v_121 ((v_122 p4 p0 p3).1)).1) 256) + 1)) - toNat (wrap i64 ((v_103 p4 p0).1 + p3))) (drop (toNat (wrap i64 ((v_103 p4 p0).1 + p3))) (p4.1.1)))).1 then gd (sl3 1 (↑(length (take (toNat (wrap i64 (wrap i64 (wrap i64 ((v_103 p4 p0).1 + p3) + Int.tmod ((v_121 ((v_122 p4 p0 p3).1)).1) 256) + 1)) - toNat (wrap i64 ((v_103 p4 p0).1 + p3))) (drop (toNat (wrap i64 ((v_103 p4 p0).1 + p3))) (p4.1.1)))) : Int) (↑(length (take (toNat (wrap i64 (wrap i64 (wrap i64 ((v_103 p4 p0).1 + p3) + Int.tmod ((v_121 ((v_122 p4 p0 p3).1)).1) 256) + 1)) - toNat (wrap i64 ((v_103 p4 p0).1 + p3))) (drop (toNat (wrap i64 ((v_103 p4 p0).1 + p3))) (p4.1.1)))) : Int)) (gd (p_105 p2 (wrap i64 (Int.tdiv ((v_121 ((v_122 p4 p0 p3).1)).1) 256)) (drop 1 (take (toNat (wrap i64 (wrap i64 (wrap i64 ((v_103 p4 p0).1 + p3) + Int.tmod ((v_121 ((v_122 p4 p0 p3).1)).1) 256) + 1)) - toNat (wrap i64 ((v_103 p4 p0).1 + p3))) (drop (toNat (wrap i64 ((v_103 p4 p0).1 + p3))) (p4.1.1))))) (K p0 p1 ((v_105 p2 (wrap i64 (Int.tdiv ((v_121 ((v_122 p4 p0 p3).1)).1) 256)) (drop 1 (take (toNat (wrap i64 (wrap i64 (wrap i64 ((v_103 p4 p0).1 + p3) + Int.tmod ((v_121 ((v_122 p4 p0 p3).1)).1) 256) + 1)) - toNat (wrap i64 ((v_103 p4 p0).1 + p3))) (drop (toNat (wrap i64 ((v_103 p4 p0).1 + p3))) (p4.1.1))))).1) (wrap i64 (wrap i64 (p3 + Int.tmod ((v_121 ((v_122 p4 p0 p3).1)).1) 256) + 2)) p4)) else K p0 p1 p2 (wrap i64 (wrap i64 (p3 + Int.tmod ((v_121 ((v_122 p4 p0 p3).1)).1) 256) + 2)) p4) else K p0 p1 p2 (wrap i64 (wrap i64 (p3 + Int.tmod ((v_121 ((v_122 p4 p0 p3).1)).1) 256) + 2)) p4))))))) else k (E_99_0_1.e1 p0 p1 p2 p3 p4)) else k (E_99_0_1.e1 p0 p1 p2 p3 p4)
noncomputable def Sp.L_99_0_1 : Nat → Int → Int → (List (Int × List Int × Unit)) → Int → ((List Int × List Int × Int × Unit) × Int × Int × Unit) → Option E_99_0_1
 | 0, _, _, _, _, _ => none
 | m + 1, p0, p1, p2, p3, p4 => S_99_0_1 (L_99_0_1 m) some p0 p1 p2 p3 p4
noncomputable def l_99_0_1 (m : Nat) (a : T_99_0_1.E) : Option E_99_0_1 := L_99_0_1 m a.1 a.2.1 a.2.2.1 a.2.2.2.1 a.2.2.2.2.1
noncomputable def O_99_0_1 {R : Type} : Orc R := orL T_99_0_1 (l_99_0_1 FU) Y_99_0_1
theorem loop_99_0_1 {R : Type} (k : Ex → St → Option R) : ∀ m a, evLoopN (evCodeL sm_99 FU (ovr noO (evFn sm_99 fns FU 0)) (mkT (inner (nf 99 0)) []) (inner (nf 99 0))) (St.norm (lv (nf 99 0))) m (T_99_0_1.inst a) k = (l_99_0_1 m a).bind (Y_99_0_1 k) := lpN l_99_0_1 (fun R K k a => S_99_0_1 (fun p0 p1 p2 p3 p4 => K (p0, p1, p2, p3, p4, ())) k a.1 a.2.1 a.2.2.1 a.2.2.2.1 a.2.2.2.2.1) (fun _ => rfl) (fun _ _ => rfl) (fun K a => by kernel_rfl) (fun K a => by
 unfold S_99_0_1
 repeat' first | apply gdN | apply condN | rfl)
theorem OK_99_0_1 {R : Type} : okF (R := R) sm_99 0 (nf 99 0) O_99_0_1 := lp0 T_99_0_1 l_99_0_1 (fun R K k a => S_99_0_1 (fun p0 p1 p2 p3 p4 => K (p0, p1, p2, p3, p4, ())) k a.1 a.2.1 a.2.2.1 a.2.2.2.1 a.2.2.2.2.1) Y_99_0_1 (fun _ _ _ => by kernel_rfl) (fun _ _ _ => by
 unfold S_99_0_1
 repeat' first | apply gdN | apply condN | rfl) (ok0 _)
noncomputable def T_99_0 : PS := ⟨120, [(1, .hv (.int .i64)), (2, .kc (.ptr 0 [])), (6, .hv (.int .i64)), (7, .kc (.whole 1)), (8, .hv (.int .i64))], [.mem (.hv Zy99_1), .vec 71 Zy99_4], 0⟩
inductive Sp.E_99_0 where
 | e0 (p1 : Int) (p4 : Zt99_0)
 | e1 (p0 p1 p2 : Int) (p3 : Zt99_2) (p4 : Zt99_0)
 | e2 (p1 : Int) (p2 : Zt99_0)
 | e3 (p0 p1 : Int) (p2 : Zt99_0) (p3 : Int) (p4 : Zt99_2)
noncomputable def Sp.B_99_0 {R : Type} (r : Option E_99_0) (k0 : Int → Zt99_0 → Option R) (k1 : Int → Int → Int → Zt99_2 → Zt99_0 → Option R) (k2 : Int → Zt99_0 → Option R) (k3 : Int → Int → Zt99_0 → Int → Zt99_2 → Option R) : Option R := match r with
 | none => none
 | some (.e0 p1 p4) => k0 p1 p4
 | some (.e1 p0 p1 p2 p3 p4) => k1 p0 p1 p2 p3 p4
 | some (.e2 p1 p2) => k2 p1 p2
 | some (.e3 p0 p1 p2 p3 p4) => k3 p0 p1 p2 p3 p4
noncomputable def Y_99_0 {R : Type} (k : Ex → St → Option R) : E_99_0 → Option R
 | .e0 p1 p4 => k Ex.ret (sx 120 [(4, CV.whole 0), (5, CV.int i64 p1)] [Blk.vec 71 (Ty.pair (Ty.int i64) (Ty.pair (Ty.slice (Ty.int u32)) Ty.unit)) p4])
 | .e1 p0 p1 p2 p3 p4 => k (Ex.exit 0) (sx 120 [(1, CV.int i64 p0), (2, CV.ptr 0 []), (6, CV.int i64 p1), (7, CV.whole 1), (8, CV.int i64 p2)] [Blk.mem (CV.pure (Ty.pair (Ty.pair (Ty.slice (Ty.int u32)) (Ty.pair (Ty.slice (Ty.int i64)) (Ty.pair (Ty.int i64) Ty.unit))) (Ty.pair (Ty.int i64) (Ty.pair (Ty.int i64) Ty.unit))) p3), Blk.vec 71 (Ty.pair (Ty.int i64) (Ty.pair (Ty.slice (Ty.int u32)) Ty.unit)) p4])
 | .e2 p1 p2 => k Ex.ret (sx 120 [(4, CV.pure (Ty.slice (Ty.pair (Ty.int i64) (Ty.pair (Ty.slice (Ty.int u32)) Ty.unit))) p2), (5, CV.int i64 p1)] [])
 | .e3 p0 p1 p2 p3 p4 => k (Ex.exit 0) (sx 120 [(1, CV.int i64 p0), (2, CV.ptr 0 []), (6, CV.int i64 p1), (7, CV.pure (Ty.slice (Ty.pair (Ty.int i64) (Ty.pair (Ty.slice (Ty.int u32)) Ty.unit))) p2), (8, CV.int i64 p3)] [Blk.mem (CV.pure (Ty.pair (Ty.pair (Ty.slice (Ty.int u32)) (Ty.pair (Ty.slice (Ty.int i64)) (Ty.pair (Ty.int i64) Ty.unit))) (Ty.pair (Ty.int i64) (Ty.pair (Ty.int i64) Ty.unit))) p4)])
noncomputable def Sp.S_99_0 {R : Type} (K : Int → Int → Int → ((List Int × List Int × Int × Unit) × Int × Int × Unit) → (List (Int × List Int × Unit)) → Option R) (KB : Int → Int → (List (Int × List Int × Unit)) → Int → ((List Int × List Int × Int × Unit) × Int × Int × Unit) → Option R) (k : E_99_0 → Option R) (p0 p1 p2 : Int) (p3 : (List Int × List Int × Int × Unit) × Int × Int × Unit) (p4 : List (Int × List Int × Unit)) : Option R :=
 bif decide (p2 < p1) then gd (p_122 p3 p0 p2) (bif (v_122 p3 p0 p2).1 != 4294967295 then gd (p_122 p3 p0 p2) (gd (p_121 ((v_122 p3 p0 p2).1)) (bif !(v_121 ((v_122 p3 p0 p2).1)).2.1 then k (E_99_0.e0 p1 p4) else gd (p_134 (wrap i64 (Int.tdiv ((v_121 ((v_122 p3 p0 p2).1)).1) 256))) (bif !(v_134 (wrap i64 (Int.tdiv ((v_121 ((v_122 p3 p0 p2).1)).1) 256))).1 then k (E_99_0.e0 p1 p4) else bif decide (Int.tmod ((v_121 ((v_122 p3 p0 p2).1)).1) (256 :Int) > (24 :Int)) then k (E_99_0.e0 p1 p4) else bif decide (wrap i64 (wrap i64 (p2 + Int.tmod ((v_121 ((v_122 p3 p0 p2).1)).1) 256) + 2) > p1) then k (E_99_0.e0 p1 p4) else gd (p_103 p3 p0) (gd (sl3 (wrap i64 ((v_103 p3 p0).1 + p2)) (wrap i64 (wrap i64 (wrap i64 ((v_103 p3 p0).1 + p2) + Int.tmod ((v_121 ((v_122 p3 p0 p2).1)).1) 256) + 1)) (↑(length (p3.1.1)) : Int)) (gd (p_122 p3 p0 (wrap i64 (wrap i64 (p2 + Int.tmod ((v_121 ((v_122 p3 p0 p2).1)).1) 256) + 1))) (gd (p_121 ((v_122 p3 p0 (wrap i64 (wrap i64 (p2 + Int.tmod ((v_121 ((v_122 p3 p0 p2).1)).1) 256) + 1))).1)) (bif (v_121 ((v_122 p3 p0 (wrap i64 (wrap i64 (p2 + Int.tmod ((v_121 ((v_122 p3 p0 p2).1)).1) 256) + 1))).1)).2.1 then gd (p_135 (take (toNat (wrap i64 (wrap i64 (wrap i64 ((v_103 p3 p0).1 + p2) + Int.tmod ((v_121 ((v_122 p3 p0 p2).1)).1) 256) + 1)) - toNat (wrap i64 ((v_103 p3 p0).1 + p2))) (drop (toNat (wrap i64 ((v_103 p3 p0).1 + p2))) (p3.1.1)))) (bif (v_121 ((v_122 p3 p0 (wrap i64 (wrap i64 (p2 + Int.tmod ((v_121 ((v_122 p3 p0 p2).1)).1) 256) + 1))).1)).1 == (v_135 (take (toNat (wrap i64 (wrap i64 (wrap i64 ((v_103 p3 p0).1 + p2) + Int.tmod ((v_121 ((v_122 p3 p0 p2).1)).1) 256) + 1)) - toNat (wrap i64 ((v_103 p3 p0).1 + p2))) (drop (toNat (wrap i64 ((v_103 p3 p0).1 + p2))) (p3.1.1)))).1 then gd (sl3 1 (↑(length (take (toNat (wrap i64 (wrap i64 (wrap i64 ((v_103 p3 p0).1 + p2) + Int.tmod ((v_121 ((v_122 p3 p0 p2).1)).1) 256) + 1)) - toNat (wrap i64 ((v_103 p3 p0).1 + p2))) (drop (toNat (wrap i64 ((v_103 p3 p0).1 + p2))) (p3.1.1)))) : Int) (↑(length (take (toNat (wrap i64 (wrap i64 (wrap i64 ((v_103 p3 p0).1 + p2) + Int.tmod ((v_121 ((v_122 p3 p0 p2).1)).1) 256) + 1)) - toNat (wrap i64 ((v_103 p3 p0).1 + p2))) (drop (toNat (wrap i64 ((v_103 p3 p0).1 + p2))) (p3.1.1)))) : Int)) (gd (p_105 p4 (wrap i64 (Int.tdiv ((v_121 ((v_122 p3 p0 p2).1)).1) 256)) (drop 1 (take (toNat (wrap i64 (wrap i64 (wrap i64 ((v_103 p3 p0).1 + p2) + Int.tmod ((v_121 ((v_122 p3 p0 p2).1)).1) 256) + 1)) - toNat (wrap i64 ((v_103 p3 p0).1 + p2))) (drop (toNat (wrap i64 ((v_103 p3 p0).1 + p2))) (p3.1.1))))) (KB p0 p1 ((v_105 p4 (wrap i64 (Int.tdiv ((v_121 ((v_122 p3 p0 p2).1)).1) 256)) (drop 1 (take (toNat (wrap i64 (wrap i64 (wrap i64 ((v_103 p3 p0).1 + p2) + Int.tmod ((v_121 ((v_122 p3 p0 p2).1)).1) 256) + 1)) - toNat (wrap i64 ((v_103 p3 p0).1 + p2))) (drop (toNat (wrap i64 ((v_103 p3 p0).1 + p2))) (p3.1.1))))).1) (wrap i64 (wrap i64 (p2 + Int.tmod ((v_121 ((v_122 p3 p0 p2).1)).1) 256) + 2)) p3)) else K p0 p1 (wrap i64 (wrap i64 (p2 + Int.tmod ((v_121 ((v_122 p3 p0 p2).1)).1) 256) + 2)) p3 p4) else K p0 p1 (wrap i64 (wrap i64 (p2 + Int.tmod ((v_121 ((v_122 p3 p0 p2).1)).1) 256) + 2)) p3 p4))))))) else k (E_99_0.e1 p0 p1 p2 p3 p4)) else k (E_99_0.e1 p0 p1 p2 p3 p4)
noncomputable def C_99_0 : E_99_0_1 → E_99_0
 | .e0 p1 p2 => .e2 p1 p2
 | .e1 p0 p1 p2 p3 p4 => .e3 p0 p1 p2 p3 p4
theorem BC_99_0 (r : Option E_99_0_1) : B_99_0_1 r (fun p1 p2 => some (E_99_0.e2 p1 p2)) (fun p0 p1 p2 p3 p4 => some (E_99_0.e3 p0 p1 p2 p3 p4)) = r.bind fun e => some (C_99_0 e) := by
 cases r with
 | none => rfl
 | some e => cases e <;> rfl
noncomputable def Sp.L_99_0 : Nat → Int → Int → Int → ((List Int × List Int × Int × Unit) × Int × Int × Unit) → (List (Int × List Int × Unit)) → Option E_99_0
 | 0, _, _, _, _, _ => none
 | m + 1, p0, p1, p2, p3, p4 => S_99_0 (L_99_0 m) (fun q0 q1 q2 q3 q4 => B_99_0_1 (L_99_0_1 m q0 q1 q2 q3 q4) (fun p1 p2 => some (E_99_0.e2 p1 p2)) (fun p0 p1 p2 p3 p4 => some (E_99_0.e3 p0 p1 p2 p3 p4))) some p0 p1 p2 p3 p4
noncomputable def l_99_0 (m : Nat) (a : T_99_0.E) : Option E_99_0 := L_99_0 m a.1 a.2.1 a.2.2.1 a.2.2.2.1 a.2.2.2.2.1
noncomputable def O_99_0 {R : Type} : Orc R := orL T_99_0 (l_99_0 FU) Y_99_0 O_99_0_1
theorem OK_99_0 {R : Type} : okF (R := R) sm_99 0 (nf 99 0) O_99_0 := lp2 noO_ok (os := []) trivial T_99_0 T_99_0_1 l_99_0 l_99_0_1 (fun R K KB k a => S_99_0 (fun p0 p1 p2 p3 p4 => K (p0, p1, p2, p3, p4, ())) (fun q0 q1 q2 q3 q4 => KB (q0, q1, q2, q3, q4, ())) k a.1 a.2.1 a.2.2.1 a.2.2.2.1 a.2.2.2.2.1) Y_99_0 Y_99_0_1 C_99_0 (fun _ => rfl) (fun m a => by
 unfold l_99_0
 rw [L_99_0]
 simp only [BC_99_0]
 rfl) (fun k e => by cases e <;> rfl) (fun k => loop_99_0_1 k) (fun k K a => by kernel_rfl) (fun Y K KB a => by
 unfold S_99_0
 repeat' first | apply gdN | apply condN | rfl) OK_99_0_1
noncomputable def T_99_2 : PS := ⟨120, [(1, .hv (.int .i64)), (2, .kc (.ptr 0 [])), (6, .hv (.int .i64)), (7, .kc (.whole 1)), (8, .hv (.int .i64)), (16, .hv (.int .i64))], [.mem (.hv Zy99_1), .vec 71 Zy99_4], 0⟩
inductive Sp.E_99_2 where
 | e0 (p1 : Int) (p5 : Zt99_0)
 | e1 (p2 : Int) (p5 : Zt99_0)
noncomputable def Sp.B_99_2 {R : Type} (r : Option E_99_2) (k0 k1 : Int → Zt99_0 → Option R) : Option R := match r with
 | none => none
 | some (.e0 p1 p5) => k0 p1 p5
 | some (.e1 p2 p5) => k1 p2 p5
theorem Bn_99_2 {A R : Type} {r : Option E_99_2} {f : A → Option R} {k0 : Int → Zt99_0 → Option A} {k1 : Int → Zt99_0 → Option A} {l0 : Int → Zt99_0 → Option R} {l1 : Int → Zt99_0 → Option R} (h0 : ∀ p1 p5, (k0 p1 p5).bind f = l0 p1 p5) (h1 : ∀ p2 p5, (k1 p2 p5).bind f = l1 p2 p5) : (B_99_2 r k0 k1).bind f = B_99_2 r l0 l1 := by
 cases r with
 | none => rfl
 | some e => cases e <;> first | apply h0 | apply h1
noncomputable def Y_99_2 {R : Type} (k : Ex → St → Option R) : E_99_2 → Option R
 | .e0 p1 p5 => k Ex.ret (sx 120 [(4, CV.whole 0), (5, CV.int i64 p1)] [Blk.vec 71 (Ty.pair (Ty.int i64) (Ty.pair (Ty.slice (Ty.int u32)) Ty.unit)) p5])
 | .e1 p2 p5 => k (Ex.exit 2) (sx 120 [(7, CV.whole 0), (8, CV.int i64 p2)] [Blk.vec 71 (Ty.pair (Ty.int i64) (Ty.pair (Ty.slice (Ty.int u32)) Ty.unit)) p5])
noncomputable def Sp.S_99_2 {R : Type} (K : Int → Int → Int → Int → ((List Int × List Int × Int × Unit) × Int × Int × Unit) → (List (Int × List Int × Unit)) → Option R) (k : E_99_2 → Option R) (p0 p1 p2 p3 : Int) (p4 : (List Int × List Int × Int × Unit) × Int × Int × Unit) (p5 : List (Int × List Int × Unit)) : Option R :=
 bif decide (p3 < p1) then gd (p_122 p4 p0 p3) (bif (v_122 p4 p0 p3).1 != 4294967295 then k (E_99_2.e0 p1 p5) else K p0 p1 p2 (wrap i64 (p3 + 1)) p4 p5) else k (E_99_2.e1 p2 p5)
noncomputable def Sp.L_99_2 : Nat → Int → Int → Int → Int → ((List Int × List Int × Int × Unit) × Int × Int × Unit) → (List (Int × List Int × Unit)) → Option E_99_2
 | 0, _, _, _, _, _, _ => none
 | m + 1, p0, p1, p2, p3, p4, p5 => S_99_2 (L_99_2 m) some p0 p1 p2 p3 p4 p5
noncomputable def l_99_2 (m : Nat) (a : T_99_2.E) : Option E_99_2 := L_99_2 m a.1 a.2.1 a.2.2.1 a.2.2.2.1 a.2.2.2.2.1 a.2.2.2.2.2.1
noncomputable def O_99_2 {R : Type} : Orc R := orL T_99_2 (l_99_2 FU) Y_99_2
theorem OK_99_2 {R : Type} : okF (R := R) sm_99 0 (ni (nf 99 1) 0) O_99_2 := lp0 T_99_2 l_99_2 (fun R K k a => S_99_2 (fun p0 p1 p2 p3 p4 p5 => K (p0, p1, p2, p3, p4, p5, ())) k a.1 a.2.1 a.2.2.1 a.2.2.2.1 a.2.2.2.2.1 a.2.2.2.2.2.1) Y_99_2 (fun _ _ _ => by kernel_rfl) (fun _ _ _ => by
 unfold S_99_2
 repeat' first | apply gdN | apply condN | rfl) (ok0 _)
noncomputable def T_99_2_1 : PS := ⟨120, [(1, .hv (.int .i64)), (2, .kc (.ptr 0 [])), (6, .hv (.int .i64)), (7, .hv Zy99_3), (8, .hv (.int .i64)), (16, .hv (.int .i64))], [.mem (.hv Zy99_1)], 0⟩
inductive Sp.E_99_2_1 where
 | e0 (p1 : Int) (p2 : Zt99_0)
 | e1 (p2 : Zt99_0) (p3 : Int)
noncomputable def Sp.B_99_2_1 {R : Type} (r : Option E_99_2_1) (k0 : Int → Zt99_0 → Option R) (k1 : Zt99_0 → Int → Option R) : Option R := match r with
 | none => none
 | some (.e0 p1 p2) => k0 p1 p2
 | some (.e1 p2 p3) => k1 p2 p3
theorem Bn_99_2_1 {A R : Type} {r : Option E_99_2_1} {f : A → Option R} {k0 : Int → Zt99_0 → Option A} {k1 : Zt99_0 → Int → Option A} {l0 : Int → Zt99_0 → Option R} {l1 : Zt99_0 → Int → Option R} (h0 : ∀ p1 p2, (k0 p1 p2).bind f = l0 p1 p2) (h1 : ∀ p2 p3, (k1 p2 p3).bind f = l1 p2 p3) : (B_99_2_1 r k0 k1).bind f = B_99_2_1 r l0 l1 := by
 cases r with
 | none => rfl
 | some e => cases e <;> first | apply h0 | apply h1
noncomputable def Y_99_2_1 {R : Type} (k : Ex → St → Option R) : E_99_2_1 → Option R
 | .e0 p1 p2 => k Ex.ret (sx 120 [(4, CV.pure (Ty.slice (Ty.pair (Ty.int i64) (Ty.pair (Ty.slice (Ty.int u32)) Ty.unit))) p2), (5, CV.int i64 p1)] [])
 | .e1 p2 p3 => k (Ex.exit 2) (sx 120 [(7, CV.pure (Ty.slice (Ty.pair (Ty.int i64) (Ty.pair (Ty.slice (Ty.int u32)) Ty.unit))) p2), (8, CV.int i64 p3)] [])
noncomputable def Sp.S_99_2_1 {R : Type} (K : Int → Int → (List (Int × List Int × Unit)) → Int → Int → ((List Int × List Int × Int × Unit) × Int × Int × Unit) → Option R) (k : E_99_2_1 → Option R) (p0 p1 : Int) (p2 : List (Int × List Int × Unit)) (p3 p4 : Int) (p5 : (List Int × List Int × Int × Unit) × Int × Int × Unit) : Option R :=
 bif decide (p4 < p1) then gd (p_122 p5 p0 p4) (bif (v_122 p5 p0 p4).1 != 4294967295 then k (E_99_2_1.e0 p1 p2) else K p0 p1 p2 p3 (wrap i64 (p4 + 1)) p5) else k (E_99_2_1.e1 p2 p3)
noncomputable def Sp.L_99_2_1 : Nat → Int → Int → (List (Int × List Int × Unit)) → Int → Int → ((List Int × List Int × Int × Unit) × Int × Int × Unit) → Option E_99_2_1
 | 0, _, _, _, _, _, _ => none
 | m + 1, p0, p1, p2, p3, p4, p5 => S_99_2_1 (L_99_2_1 m) some p0 p1 p2 p3 p4 p5
noncomputable def l_99_2_1 (m : Nat) (a : T_99_2_1.E) : Option E_99_2_1 := L_99_2_1 m a.1 a.2.1 a.2.2.1 a.2.2.2.1 a.2.2.2.2.1 a.2.2.2.2.2.1
noncomputable def O_99_2_1 {R : Type} : Orc R := orL T_99_2_1 (l_99_2_1 FU) Y_99_2_1 O_99_2
theorem OK_99_2_1 {R : Type} : okF (R := R) sm_99 0 (ni (nf 99 1) 0) O_99_2_1 := lp0 T_99_2_1 l_99_2_1 (fun R K k a => S_99_2_1 (fun p0 p1 p2 p3 p4 p5 => K (p0, p1, p2, p3, p4, p5, ())) k a.1 a.2.1 a.2.2.1 a.2.2.2.1 a.2.2.2.2.1 a.2.2.2.2.2.1) Y_99_2_1 (fun _ _ _ => by kernel_rfl) (fun _ _ _ => by
 unfold S_99_2_1
 repeat' first | apply gdN | apply condN | rfl) OK_99_2
noncomputable def T_99_1 : PS := ⟨120, [(1, .hv (.int .i64)), (2, .kc (.ptr 0 [])), (6, .hv (.int .i64)), (7, .kc (.whole 1)), (8, .hv (.int .i64))], [.mem (.hv Zy99_1), .vec 71 Zy99_4], 0⟩
inductive Sp.E_99_1 where
 | e0 (y4 : Int) (y5 : Zt99_0)
noncomputable def Sp.B_99_1 {R : Type} (r : Option E_99_1) (k0 : Int → Zt99_0 → Option R) : Option R := match r with
 | none => none
 | some (.e0 y4 y5) => k0 y4 y5
noncomputable def Y_99_1 {R : Type} (k : Ex → St → Option R) : E_99_1 → Option R
 | .e0 y4 y5 => k Ex.ret (sx 120 [(4, CV.whole 0), (5, CV.int i64 y4)] [Blk.vec 71 (Ty.pair (Ty.int i64) (Ty.pair (Ty.slice (Ty.int u32)) Ty.unit)) y5])
noncomputable def Sp.S_99_1 {R : Type} (k : E_99_1 → Option R) (p0 p1 p2 : Int) (p3 : (List Int × List Int × Int × Unit) × Int × Int × Unit) (p4 : List (Int × List Int × Unit)) : Option R :=
 B_99_2 (L_99_2 4611686018427387904 p0 p1 p2 p2 p3 p4) (fun y4 y5 => k (E_99_1.e0 y4 y5)) fun y6 y7 => k (E_99_1.e0 y6 y7)
noncomputable def Sp.J_99_1 (p0 p1 p2 : Int) (p3 : (List Int × List Int × Int × Unit) × Int × Int × Unit) (p4 : List (Int × List Int × Unit)) : Option E_99_1 := S_99_1 some p0 p1 p2 p3 p4
noncomputable def O_99_1 {R : Type} : Orc R := orL T_99_1 (fun a => J_99_1 a.1 a.2.1 a.2.2.1 a.2.2.2.1 a.2.2.2.2.1) Y_99_1
theorem OK_99_1 {R : Type} : okF (R := R) sm_99 0 (nf 99 1) O_99_1 := jp noO_ok (os := [O_99_2_1]) ⟨OK_99_2_1, trivial⟩ T_99_1 (fun R k a => S_99_1 k a.1 a.2.1 a.2.2.1 a.2.2.2.1 a.2.2.2.2.1) Y_99_1 (fun k a => by kernel_rfl) (fun Y a => by
 unfold S_99_1
 repeat' first | apply gdN | apply condN | (apply Bn_99_2 <;> intros) | rfl) (ok0 _)
noncomputable def T_99_1_1 : PS := ⟨120, [(1, .hv (.int .i64)), (2, .kc (.ptr 0 [])), (6, .hv (.int .i64)), (7, .hv Zy99_3), (8, .hv (.int .i64))], [.mem (.hv Zy99_1)], 0⟩
inductive Sp.E_99_1_1 where
 | e0 (y4 : Int) (y5 : Zt99_0)
 | e1 (y6 : Zt99_0) (y7 : Int)
noncomputable def Sp.B_99_1_1 {R : Type} (r : Option E_99_1_1) (k0 : Int → Zt99_0 → Option R) (k1 : Zt99_0 → Int → Option R) : Option R := match r with
 | none => none
 | some (.e0 y4 y5) => k0 y4 y5
 | some (.e1 y6 y7) => k1 y6 y7
noncomputable def Y_99_1_1 {R : Type} (k : Ex → St → Option R) : E_99_1_1 → Option R
 | .e0 y4 y5 => k Ex.ret (sx 120 [(4, CV.pure (Ty.slice (Ty.pair (Ty.int i64) (Ty.pair (Ty.slice (Ty.int u32)) Ty.unit))) y5), (5, CV.int i64 y4)] [])
 | .e1 y6 y7 => k Ex.ret (sx 120 [(4, CV.pure (Ty.slice (Ty.pair (Ty.int i64) (Ty.pair (Ty.slice (Ty.int u32)) Ty.unit))) y6), (5, CV.int i64 y7)] [])
noncomputable def Sp.S_99_1_1 {R : Type} (k : E_99_1_1 → Option R) (p0 p1 : Int) (p2 : List (Int × List Int × Unit)) (p3 : Int) (p4 : (List Int × List Int × Int × Unit) × Int × Int × Unit) : Option R :=
 B_99_2_1 (L_99_2_1 4611686018427387904 p0 p1 p2 p3 p3 p4) (fun y4 y5 => k (E_99_1_1.e0 y4 y5)) fun y6 y7 => k (E_99_1_1.e1 y6 y7)
noncomputable def Sp.J_99_1_1 (p0 p1 : Int) (p2 : List (Int × List Int × Unit)) (p3 : Int) (p4 : (List Int × List Int × Int × Unit) × Int × Int × Unit) : Option E_99_1_1 := S_99_1_1 some p0 p1 p2 p3 p4
noncomputable def O_99_1_1 {R : Type} : Orc R := orL T_99_1_1 (fun a => J_99_1_1 a.1 a.2.1 a.2.2.1 a.2.2.2.1 a.2.2.2.2.1) Y_99_1_1 O_99_1
theorem OK_99_1_1 {R : Type} : okF (R := R) sm_99 0 (nf 99 1) O_99_1_1 := jp noO_ok (os := [O_99_2_1]) ⟨OK_99_2_1, trivial⟩ T_99_1_1 (fun R k a => S_99_1_1 k a.1 a.2.1 a.2.2.1 a.2.2.2.1 a.2.2.2.2.1) Y_99_1_1 (fun k a => by kernel_rfl) (fun Y a => by
 unfold S_99_1_1
 repeat' first | apply gdN | apply condN | (apply Bn_99_2_1 <;> intros) | rfl) OK_99_1
noncomputable def F_99 (a0 : (((List Int) × ((List Int) × (Int × Unit))) × (Int × (Int × Unit)))) (a1 : Int) : Option ((List (Int × ((List Int) × Unit))) × Int × Unit) :=
 gd (p_101 a0) (B_99_0 (L_99_0 4611686018427387904 a1 ((v_101 a0).1) 1 a0 []) (fun y20 y21 => some (y21, y20, PUnit.unit)) (fun y22 y23 y24 y25 y26 => B_99_1 (J_99_1 y22 y23 y24 y25 y26) fun y27 y28 => some (y28, y27, PUnit.unit)) (fun y29 y30 => some (y30, y29, PUnit.unit)) fun y31 y32 y33 y34 y35 => B_99_1_1 (J_99_1_1 y31 y32 y33 y34 y35) (fun y36 y37 => some (y37, y36, PUnit.unit)) fun y38 y39 => some (y38, y39, PUnit.unit))
noncomputable def Sp.p_99 (a0 : (((List Int) × ((List Int) × (Int × Unit))) × (Int × (Int × Unit)))) (a1 : Int) : Bool := (F_99 a0 a1).isSome
noncomputable def Sp.v_99 (a0 : (((List Int) × ((List Int) × (Int × Unit))) × (Int × (Int × Unit)))) (a1 : Int) : (List (Int × ((List Int) × Unit))) × Int × Unit := (F_99 a0 a1).getD (dfH R_99)
noncomputable def s_99 : Summ := shS A_99 R_99 (fun x => p_99 x.1 x.2.1) (fun x => v_99 x.1 x.2.1)
theorem pv_99 (a0 : (((List Int) × ((List Int) × (Int × Unit))) × (Int × (Int × Unit)))) (a1 : Int) {y : (List (Int × ((List Int) × Unit))) × Int × Unit} (h : F_99 a0 a1 = some y) : p_99 a0 a1 = true ∧ v_99 a0 a1 = y := pvG h
theorem run_99 (x : HDen A_99) (y : HDen R_99) (h : F_99 x.1 x.2.1 = some y) : rnF sm_99 1 99 A_99 R_99 x y := runG noO_ok (os := [O_99_0, O_99_1_1]) ⟨OK_99_0, OK_99_1_1, trivial⟩ (Eq.trans (by kernel_rfl) h)
end
noncomputable section
abbrev A_87 : List Ty := [(.pair (.pair (.slice (.int .u32)) (.pair (.slice (.int .i64)) (.pair (.int .i64) .unit))) (.pair (.int .i64) (.pair (.int .i64) .unit)))]
abbrev R_87 : List Ty := [(.slice (.pair (.int .i64) (.pair (.slice (.int .u32)) .unit)))]
noncomputable def sm_87 : Nat → Option Summ := smL [(50, s_50), (99, s_99)]
noncomputable def F_87 (a0 : (((List Int) × ((List Int) × (Int × Unit))) × (Int × (Int × Unit)))) : Option ((List (Int × ((List Int) × Unit))) × Unit) :=
 gd (p_50 a0) (gd (p_99 a0 ((v_50 a0).1)) (some ((v_99 a0 ((v_50 a0).1)).1, PUnit.unit)))
noncomputable def Sp.p_87 (a0 : (((List Int) × ((List Int) × (Int × Unit))) × (Int × (Int × Unit)))) : Bool := (F_87 a0).isSome
noncomputable def Sp.v_87 (a0 : (((List Int) × ((List Int) × (Int × Unit))) × (Int × (Int × Unit)))) : (List (Int × ((List Int) × Unit))) × Unit := (F_87 a0).getD (dfH R_87)
noncomputable def s_87 : Summ := shS A_87 R_87 (fun x => p_87 x.1) (fun x => v_87 x.1)
theorem pv_87 (a0 : (((List Int) × ((List Int) × (Int × Unit))) × (Int × (Int × Unit)))) {y : (List (Int × ((List Int) × Unit))) × Unit} (h : F_87 a0 = some y) : p_87 a0 = true ∧ v_87 a0 = y := pvG h
theorem run_87 (x : HDen A_87) (y : HDen R_87) (h : F_87 x.1 = some y) : rnF sm_87 1 87 A_87 R_87 x y := runG noO_ok (os := []) trivial (Eq.trans (by kernel_rfl) h)
end
noncomputable section
abbrev A_51 : List Ty := [(.pair (.pair (.slice (.int .u32)) (.pair (.slice (.int .i64)) (.pair (.int .i64) .unit))) (.pair (.int .i64) (.pair (.int .i64) .unit))), (.int .i64)]
abbrev R_51 : List Ty := [(.slice (.int .u32)), .bool]
noncomputable def sm_51 : Nat → Option Summ := smL [(87, s_87)]
noncomputable def T_51_0 : PS := ⟨28, [(1, .hv (.int .i64)), (6, .hv (.slice (.pair (.int .i64) (.pair (.slice (.int .u32)) .unit)))), (7, .hv (.int .i64))], [], 0⟩
inductive Sp.E_51_0 where
 | e0 (p1 : List (Int × List Int × Unit)) (p2 : Int)
 | e1
noncomputable def Sp.B_51_0 {R : Type} (r : Option E_51_0) (k0 : (List (Int × List Int × Unit)) → Int → Option R) (k1 : Option R) : Option R := match r with
 | none => none
 | some (.e0 p1 p2) => k0 p1 p2
 | some (.e1) => k1
noncomputable def Y_51_0 {R : Type} (k : Ex → St → Option R) : E_51_0 → Option R
 | .e0 p1 p2 => k Ex.ret (sx 28 [(4, CV.pure (Ty.slice (Ty.int u32)) (((getD p1 (toNat p2) Zd2).2.1) : (List Int))), (5, CV.bool true)] [])
 | .e1 => k (Ex.exit 0) (sx 28 [] [])
noncomputable def Sp.S_51_0 {R : Type} (K : Int → (List (Int × List Int × Unit)) → Int → Option R) (k : E_51_0 → Option R) (p0 : Int) (p1 : List (Int × List Int × Unit)) (p2 : Int) : Option R :=
 bif decide (p2 < (↑(length p1) : Int)) then gd (inB p2 (length p1)) (bif (getD p1 (toNat p2) Zd2).1 == p0 then gd (inB p2 (length p1)) (k (E_51_0.e0 p1 p2)) else K p0 p1 (wrap i64 (p2 + 1))) else k (E_51_0.e1)
noncomputable def Sp.L_51_0 : Nat → Int → (List (Int × List Int × Unit)) → Int → Option E_51_0
 | 0, _, _, _ => none
 | m + 1, p0, p1, p2 => S_51_0 (L_51_0 m) some p0 p1 p2
noncomputable def l_51_0 (m : Nat) (a : T_51_0.E) : Option E_51_0 := L_51_0 m a.1 a.2.1 a.2.2.1
noncomputable def O_51_0 {R : Type} : Orc R := orL T_51_0 (l_51_0 FU) Y_51_0
theorem OK_51_0 {R : Type} : okF (R := R) sm_51 0 (nf 51 0) O_51_0 := lp0 T_51_0 l_51_0 (fun R K k a => S_51_0 (fun p0 p1 p2 => K (p0, p1, p2, ())) k a.1 a.2.1 a.2.2.1) Y_51_0 (fun _ _ _ => by kernel_rfl) (fun _ _ _ => by
 unfold S_51_0
 repeat' first | apply gdN | apply condN | rfl) (ok0 _)
noncomputable def F_51 (a0 : (((List Int) × ((List Int) × (Int × Unit))) × (Int × (Int × Unit)))) (a1 : Int) : Option ((List Int) × Bool × Unit) :=
 gd (p_87 a0) (B_51_0 (L_51_0 4611686018427387904 a1 ((v_87 a0).1) 0) (fun y2 y3 => some ((getD y2 (toNat y3) Zd2).2.1, true, PUnit.unit)) (some ([], false, PUnit.unit)))
noncomputable def Sp.p_51 (a0 : (((List Int) × ((List Int) × (Int × Unit))) × (Int × (Int × Unit)))) (a1 : Int) : Bool := (F_51 a0 a1).isSome
noncomputable def Sp.v_51 (a0 : (((List Int) × ((List Int) × (Int × Unit))) × (Int × (Int × Unit)))) (a1 : Int) : (List Int) × Bool × Unit := (F_51 a0 a1).getD (dfH R_51)
noncomputable def s_51 : Summ := shS A_51 R_51 (fun x => p_51 x.1 x.2.1) (fun x => v_51 x.1 x.2.1)
theorem pv_51 (a0 : (((List Int) × ((List Int) × (Int × Unit))) × (Int × (Int × Unit)))) (a1 : Int) {y : (List Int) × Bool × Unit} (h : F_51 a0 a1 = some y) : p_51 a0 a1 = true ∧ v_51 a0 a1 = y := pvG h
theorem run_51 (x : HDen A_51) (y : HDen R_51) (h : F_51 x.1 x.2.1 = some y) : rnF sm_51 1 51 A_51 R_51 x y := runG noO_ok (os := [O_51_0]) ⟨OK_51_0, trivial⟩ (Eq.trans (by kernel_rfl) h)
end
noncomputable section
abbrev A_123 : List Ty := [(.int .i64), (.int .i64), (.int .i64)]
abbrev R_123 : List Ty := [.bool]
noncomputable def sm_123 : Nat → Option Summ := smL []
noncomputable def F_123 (a0 a1 a2 : Int) : Option (Bool × Unit) :=
 bif decide (a0 ≥ a1) then some (decide (a0 ≤ a2), PUnit.unit) else some (false, PUnit.unit)
noncomputable def Sp.p_123 (a0 a1 a2 : Int) : Bool := (F_123 a0 a1 a2).isSome
noncomputable def Sp.v_123 (a0 a1 a2 : Int) : Bool × Unit := (F_123 a0 a1 a2).getD (dfH R_123)
noncomputable def s_123 : Summ := shN A_123 R_123 (fun x => p_123 x.1 x.2.1 x.2.2.1) (fun x => v_123 x.1 x.2.1 x.2.2.1)
theorem pv_123 (a0 a1 a2 : Int) {y : Bool × Unit} (h : F_123 a0 a1 a2 = some y) : p_123 a0 a1 a2 = true ∧ v_123 a0 a1 a2 = y := pvG h
theorem run_123 (x : HDen A_123) (y : HDen R_123) (h : F_123 x.1 x.2.1 x.2.2.1 = some y) : rnF sm_123 1 123 A_123 R_123 x y := runG noO_ok (os := []) trivial (Eq.trans (by kernel_rfl) h)
end
noncomputable section
abbrev A_88 : List Ty := [(.pair (.int .i64) (.pair (.int .i64) (.pair (.int .i64) (.pair (.int .i64) (.pair (.int .i64) (.pair (.slice (.int .i64)) (.pair (.int .i64) .unit)))))))]
abbrev R_88 : List Ty := [.bool]
noncomputable def sm_88 : Nat → Option Summ := smL [(123, s_123)]
noncomputable def T_88_0 : PS := ⟨47, [(1, .kc (.ptr 0 [])), (3, .hv (.int .i64))], [.mem (.hv (.pair (.int .i64) (.pair (.int .i64) (.pair (.int .i64) (.pair (.int .i64) (.pair (.int .i64) (.pair (.slice (.int .i64)) (.pair (.int .i64) .unit))))))))], 0⟩
inductive Sp.E_88_0 where
 | e0
 | e1 (p1 : Int × Int × Int × Int × Int × List Int × Int × Unit)
noncomputable def Sp.B_88_0 {R : Type} (r : Option E_88_0) (k0 : Option R) (k1 : (Int × Int × Int × Int × Int × List Int × Int × Unit) → Option R) : Option R := match r with
 | none => none
 | some (.e0) => k0
 | some (.e1 p1) => k1 p1
noncomputable def Y_88_0 {R : Type} (k : Ex → St → Option R) : E_88_0 → Option R
 | .e0 => k Ex.ret (sx 47 [(2, CV.bool false)] [])
 | .e1 p1 => k (Ex.exit 0) (sx 47 [(1, CV.ptr 0 [])] [Blk.mem (CV.pure (Ty.pair (Ty.int i64) (Ty.pair (Ty.int i64) (Ty.pair (Ty.int i64) (Ty.pair (Ty.int i64) (Ty.pair (Ty.int i64) (Ty.pair (Ty.slice (Ty.int i64)) (Ty.pair (Ty.int i64) Ty.unit))))))) p1)])
noncomputable def Sp.S_88_0 {R : Type} (K : Int → (Int × Int × Int × Int × Int × List Int × Int × Unit) → Option R) (k : E_88_0 → Option R) (p0 : Int) (p1 : Int × Int × Int × Int × Int × List Int × Int × Unit) : Option R :=
 bif decide (p0 < (↑(length (p1.2.2.2.2.2.1)) : Int)) then gd (inB p0 (length (p1.2.2.2.2.2.1))) (gd (p_123 (getD (p1.2.2.2.2.2.1) (toNat p0) 0) (-1099511627776 : Int) 1099511627776) (bif !(v_123 (getD (p1.2.2.2.2.2.1) (toNat p0) 0) (-1099511627776 : Int) 1099511627776).1 then k (E_88_0.e0) else K (wrap i64 (p0 + 1)) p1)) else k (E_88_0.e1 p1)
noncomputable def Sp.L_88_0 : Nat → Int → (Int × Int × Int × Int × Int × List Int × Int × Unit) → Option E_88_0
 | 0, _, _ => none
 | m + 1, p0, p1 => S_88_0 (L_88_0 m) some p0 p1
noncomputable def l_88_0 (m : Nat) (a : T_88_0.E) : Option E_88_0 := L_88_0 m a.1 a.2.1
noncomputable def O_88_0 {R : Type} : Orc R := orL T_88_0 (l_88_0 FU) Y_88_0
theorem OK_88_0 {R : Type} : okF (R := R) sm_88 0 (nf 88 0) O_88_0 := lp0 T_88_0 l_88_0 (fun R K k a => S_88_0 (fun p0 p1 => K (p0, p1, ())) k a.1 a.2.1) Y_88_0 (fun _ _ _ => by kernel_rfl) (fun _ _ _ => by
 unfold S_88_0
 repeat' first | apply gdN | apply condN | rfl) (ok0 _)
noncomputable def F_88 (a0 : (Int × (Int × (Int × (Int × (Int × ((List Int) × (Int × Unit)))))))) : Option (Bool × Unit) :=
 B_88_0 (L_88_0 4611686018427387904 0 a0) (some (false, PUnit.unit)) fun y1 => bif decide ((↑(length (y1.2.2.2.2.2.1)) : Int) ≤ 8) then gd (p_123 (y1.1) 0 31) (bif (v_123 (y1.1) 0 31).1 then gd (p_123 (y1.2.2.1) 0 2) (bif (v_123 (y1.2.2.1) 0 2).1 then gd (p_123 (y1.2.2.2.1) 0 254) (bif (v_123 (y1.2.2.2.1) 0 254).1 then gd (p_123 (y1.2.2.2.2.1) 0 255) (bif (v_123 (y1.2.2.2.2.1) 0 255).1 then gd (p_123 (y1.2.2.2.2.2.2.1) 0 1073741824) (some ((v_123 (y1.2.2.2.2.2.2.1) 0 1073741824).1, PUnit.unit)) else some (false, PUnit.unit)) else some (false, PUnit.unit)) else some (false, PUnit.unit)) else some (false, PUnit.unit)) else some (false, PUnit.unit)
noncomputable def Sp.p_88 (a0 : (Int × (Int × (Int × (Int × (Int × ((List Int) × (Int × Unit)))))))) : Bool := (F_88 a0).isSome
noncomputable def Sp.v_88 (a0 : (Int × (Int × (Int × (Int × (Int × ((List Int) × (Int × Unit)))))))) : Bool × Unit := (F_88 a0).getD (dfH R_88)
noncomputable def s_88 : Summ := shN A_88 R_88 (fun x => p_88 x.1) (fun x => v_88 x.1)
theorem pv_88 (a0 : (Int × (Int × (Int × (Int × (Int × ((List Int) × (Int × Unit)))))))) {y : Bool × Unit} (h : F_88 a0 = some y) : p_88 a0 = true ∧ v_88 a0 = y := pvG h
theorem run_88 (x : HDen A_88) (y : HDen R_88) (h : F_88 x.1 = some y) : rnF sm_88 1 88 A_88 R_88 x y := runG noO_ok (os := [O_88_0]) ⟨OK_88_0, trivial⟩ (Eq.trans (by kernel_rfl) h)
end
noncomputable section
abbrev A_52 : List Ty := [(.slice (.int .u32))]
abbrev R_52 : List Ty := [(.pair (.int .i64) (.pair (.int .i64) (.pair (.int .i64) (.pair (.int .i64) (.pair (.int .i64) (.pair (.slice (.int .i64)) (.pair (.int .i64) .unit))))))), .bool]
noncomputable def sm_52 : Nat → Option Summ := smL [(88, s_88)]
noncomputable def T_52_0 : PS := ⟨85, [(0, .hv (.slice (.int .u32))), (2, .kc (.ptr 0 [])), (5, .kc (.ptr 2 [])), (6, .hv (.int .i64))], [.mem (.pr (.hv (.int .i64)) (.pr (.hv (.int .i64)) (.pr (.hv (.int .i64)) (.pr (.hv (.int .i64)) (.pr (.hv (.int .i64)) (.pr (.kc (.whole 1)) (.hv (.pair (.int .i64) .unit)))))))), .vec 3 (.int .i64), .mem (.pr (.hv (.int .i64)) (.pr (.hv (.int .i64)) (.pr (.hv (.int .i64)) (.pr (.hv (.int .i64)) (.pr (.hv (.int .i64)) (.pr (.kc (.whole 3)) (.hv (.pair (.int .i64) .unit)))))))), .vec 3 (.int .i64)], 0⟩
inductive Sp.E_52_0 where
 | e0 (p2 p3 p4 p5 p6 : Int) (p7 : Int × Unit) (p8 : List Int) (p9 p10 p11 p12 p13 : Int) (p14 : Int × Unit) (p15 : List Int)
noncomputable def Sp.B_52_0 {R : Type} (r : Option E_52_0) (k0 : Int → Int → Int → Int → Int → (Int × Unit) → List Int → Int → Int → Int → Int → Int → (Int × Unit) → List Int → Option R) : Option R := match r with
 | none => none
 | some (.e0 p2 p3 p4 p5 p6 p7 p8 p9 p10 p11 p12 p13 p14 p15) => k0 p2 p3 p4 p5 p6 p7 p8 p9 p10 p11 p12 p13 p14 p15
noncomputable def Y_52_0 {R : Type} (k : Ex → St → Option R) : E_52_0 → Option R
 | .e0 p2 p3 p4 p5 p6 p7 p8 p9 p10 p11 p12 p13 p14 p15 => k (Ex.exit 0) (sx 85 [(2, CV.ptr 0 []), (5, CV.ptr 2 [])] [Blk.mem (CV.pair (CV.int i64 p2) (CV.pair (CV.int i64 p3) (CV.pair (CV.int i64 p4) (CV.pair (CV.int i64 p5) (CV.pair (CV.int i64 p6) (CV.pair (CV.whole 1) (CV.pure (Ty.pair (Ty.int i64) Ty.unit) p7))))))), Blk.vec 3 (Ty.int i64) p8, Blk.mem (CV.pair (CV.int i64 p9) (CV.pair (CV.int i64 p10) (CV.pair (CV.int i64 p11) (CV.pair (CV.int i64 p12) (CV.pair (CV.int i64 p13) (CV.pair (CV.whole 3) (CV.pure (Ty.pair (Ty.int i64) Ty.unit) p14))))))), Blk.vec 3 (Ty.int i64) p15])
noncomputable def Sp.S_52_0 {R : Type} (K : List Int → Int → Int → Int → Int → Int → Int → (Int × Unit) → List Int → Int → Int → Int → Int → Int → (Int × Unit) → List Int → Option R) (k : E_52_0 → Option R) (p0 : List Int) (p1 p2 p3 p4 p5 p6 : Int) (p7 : Int × Unit) (p8 : List Int) (p9 p10 p11 p12 p13 : Int) (p14 : Int × Unit) (p15 : List Int) : Option R :=
 bif decide (p1 < (↑(length p0) : Int)) then gd (inB p1 (length p0)) (gd (inB (wrap i64 (p1 + 1)) (length p0)) (gd (room (length p15 + 1) 8) (K p0 (wrap i64 (p1 + 2)) p2 p3 p4 p5 p6 p7 p8 p9 p10 p11 p12 p13 p14 (p15 ++ [wrap i64 (wrap i64 (wrap i64 (wrap i64 (getD p0 (toNat p1) 0) * 4294967296) + wrap i64 (getD p0 (toNat (wrap i64 (p1 + 1))) 0)) - 1099511627776)])))) else k (E_52_0.e0 p2 p3 p4 p5 p6 p7 p8 p9 p10 p11 p12 p13 p14 p15)
noncomputable def Sp.L_52_0 : Nat → List Int → Int → Int → Int → Int → Int → Int → (Int × Unit) → List Int → Int → Int → Int → Int → Int → (Int × Unit) → List Int → Option E_52_0
 | 0, _, _, _, _, _, _, _, _, _, _, _, _, _, _, _, _ => none
 | m + 1, p0, p1, p2, p3, p4, p5, p6, p7, p8, p9, p10, p11, p12, p13, p14, p15 => S_52_0 (L_52_0 m) some p0 p1 p2 p3 p4 p5 p6 p7 p8 p9 p10 p11 p12 p13 p14 p15
noncomputable def l_52_0 (m : Nat) (a : T_52_0.E) : Option E_52_0 := L_52_0 m a.1 a.2.1 a.2.2.1 a.2.2.2.1 a.2.2.2.2.1 a.2.2.2.2.2.1 a.2.2.2.2.2.2.1 a.2.2.2.2.2.2.2.1 a.2.2.2.2.2.2.2.2.1 a.2.2.2.2.2.2.2.2.2.1 a.2.2.2.2.2.2.2.2.2.2.1 a.2.2.2.2.2.2.2.2.2.2.2.1 a.2.2.2.2.2.2.2.2.2.2.2.2.1 a.2.2.2.2.2.2.2.2.2.2.2.2.2.1 a.2.2.2.2.2.2.2.2.2.2.2.2.2.2.1 a.2.2.2.2.2.2.2.2.2.2.2.2.2.2.2.1
noncomputable def O_52_0 {R : Type} : Orc R := orL T_52_0 (l_52_0 FU) Y_52_0
theorem OK_52_0 {R : Type} : okF (R := R) sm_52 0 (nf 52 0) O_52_0 := lp0 T_52_0 l_52_0 (fun R K k a => S_52_0 (fun p0 p1 p2 p3 p4 p5 p6 p7 p8 p9 p10 p11 p12 p13 p14 p15 => K (p0, p1, p2, p3, p4, p5, p6, p7, p8, p9, p10, p11, p12, p13, p14, p15, ())) k a.1 a.2.1 a.2.2.1 a.2.2.2.1 a.2.2.2.2.1 a.2.2.2.2.2.1 a.2.2.2.2.2.2.1 a.2.2.2.2.2.2.2.1 a.2.2.2.2.2.2.2.2.1 a.2.2.2.2.2.2.2.2.2.1 a.2.2.2.2.2.2.2.2.2.2.1 a.2.2.2.2.2.2.2.2.2.2.2.1 a.2.2.2.2.2.2.2.2.2.2.2.2.1 a.2.2.2.2.2.2.2.2.2.2.2.2.2.1 a.2.2.2.2.2.2.2.2.2.2.2.2.2.2.1 a.2.2.2.2.2.2.2.2.2.2.2.2.2.2.2.1) Y_52_0 (fun _ _ _ => by kernel_rfl) (fun _ _ _ => by
 unfold S_52_0
 repeat' first | apply gdN | apply condN | rfl) (ok0 _)
noncomputable def F_52 (a0 : (List Int)) : Option ((Int × (Int × (Int × (Int × (Int × ((List Int) × (Int × Unit))))))) × Bool × Unit) :=
 bif decide ((↑(length a0) : Int) < 3) then some ((0, 0, 0, 0, 0, [], 0, PUnit.unit), false, PUnit.unit) else gd (inB 2 (length a0)) (bif decide (getD a0 2 (0 :Int) > (8 :Int)) then some ((0, 0, 0, 0, 0, [], 0, PUnit.unit), false, PUnit.unit) else gd (inB 2 (length a0)) (bif (↑(length a0) : Int) != wrap i64 (3 + wrap i64 (2 * wrap i64 (getD a0 2 0))) then some ((0, 0, 0, 0, 0, [], 0, PUnit.unit), false, PUnit.unit) else gd (inB 0 (length a0)) (gd (inB 1 (length a0)) (B_52_0 (L_52_0 4611686018427387904 a0 3 0 0 0 0 0 (0, PUnit.unit) [] (Int.tmod (wrap i64 (getD a0 0 0)) 256) 0 (Int.tmod (Int.fdiv (wrap i64 (getD a0 0 0)) 256) 256) (Int.tmod (Int.fdiv (wrap i64 (getD a0 0 0)) 65536) 256) (Int.fdiv (wrap i64 (getD a0 0 0)) 16777216) (wrap i64 (getD a0 1 0), PUnit.unit) []) fun y18 y19 y20 y21 y22 y23 y24 y25 y26 y27 y28 y29 y30 y31 => bif Sp.andI i64 y25 22 != y25 then some ((0, 0, 0, 0, 0, [], 0, PUnit.unit), false, PUnit.unit) else gd (p_88 (y25, y26, y27, y28, y29, y31, y30)) (bif !(v_88 (y25, y26, y27, y28, y29, y31, y30)).1 then some ((0, 0, 0, 0, 0, [], 0, PUnit.unit), false, PUnit.unit) else some ((y25, y26, y27, y28, y29, y31, y30), true, PUnit.unit))))))
noncomputable def Sp.p_52 (a0 : (List Int)) : Bool := (F_52 a0).isSome
noncomputable def Sp.v_52 (a0 : (List Int)) : (Int × (Int × (Int × (Int × (Int × ((List Int) × (Int × Unit))))))) × Bool × Unit := (F_52 a0).getD (dfH R_52)
noncomputable def s_52 : Summ := shS A_52 R_52 (fun x => p_52 x.1) (fun x => v_52 x.1)
theorem pv_52 (a0 : (List Int)) {y : (Int × (Int × (Int × (Int × (Int × ((List Int) × (Int × Unit))))))) × Bool × Unit} (h : F_52 a0 = some y) : p_52 a0 = true ∧ v_52 a0 = y := pvG h
theorem run_52 (x : HDen A_52) (y : HDen R_52) (h : F_52 x.1 = some y) : rnF sm_52 1 52 A_52 R_52 x y := runG noO_ok (os := [O_52_0]) ⟨OK_52_0, trivial⟩ (Eq.trans (by kernel_rfl) h)
end
noncomputable section
abbrev A_53 : List Ty := [(.pair (.int .i64) (.pair (.int .i64) (.pair (.int .i64) (.pair (.int .i64) (.pair (.int .i64) (.pair (.slice (.int .i64)) (.pair (.int .i64) .unit)))))))]
abbrev R_53 : List Ty := [.bool]
noncomputable def sm_53 : Nat → Option Summ := smL []
noncomputable def F_53 (a0 : (Int × (Int × (Int × (Int × (Int × ((List Int) × (Int × Unit)))))))) : Option (Bool × Unit) :=
 some (Sp.andI i64 (a0.1) (6 :Int) != (0 :Int), PUnit.unit)
noncomputable def Sp.p_53 (a0 : (Int × (Int × (Int × (Int × (Int × ((List Int) × (Int × Unit)))))))) : Bool := (F_53 a0).isSome
noncomputable def Sp.v_53 (a0 : (Int × (Int × (Int × (Int × (Int × ((List Int) × (Int × Unit)))))))) : Bool × Unit := (F_53 a0).getD (dfH R_53)
noncomputable def s_53 : Summ := shN A_53 R_53 (fun x => p_53 x.1) (fun x => v_53 x.1)
theorem pv_53 (a0 : (Int × (Int × (Int × (Int × (Int × ((List Int) × (Int × Unit)))))))) {y : Bool × Unit} (h : F_53 a0 = some y) : p_53 a0 = true ∧ v_53 a0 = y := pvG h
theorem run_53 (x : HDen A_53) (y : HDen R_53) (h : F_53 x.1 = some y) : rnF sm_53 1 53 A_53 R_53 x y := runG noO_ok (os := []) trivial (Eq.trans (by kernel_rfl) h)
end
noncomputable section
abbrev A_89 : List Ty := [(.slice (.int .i64))]
abbrev R_89 : List Ty := [.bool]
noncomputable def sm_89 : Nat → Option Summ := smL [(55, s_55)]
noncomputable def T_89_0 : PS := ⟨16, [(0, .hv (.slice (.int .i64))), (3, .hv (.int .i64))], [], 0⟩
inductive Sp.E_89_0 where
 | e0
 | e1
noncomputable def Sp.B_89_0 {R : Type} (r : Option E_89_0) (k0 k1 : Option R) : Option R := match r with
 | none => none
 | some (.e0) => k0
 | some (.e1) => k1
noncomputable def Y_89_0 {R : Type} (k : Ex → St → Option R) : E_89_0 → Option R
 | .e0 => k Ex.ret (sx 16 [(2, CV.bool false)] [])
 | .e1 => k (Ex.exit 0) (sx 16 [] [])
noncomputable def Sp.S_89_0 {R : Type} (K : List Int → Int → Option R) (k : E_89_0 → Option R) (p0 : List Int) (p1 : Int) : Option R :=
 bif decide (p1 < (↑(length p0) : Int)) then gd (inB p1 (length p0)) (gd (p_55 (getD p0 (toNat p1) 0) (-1099511627776 : Int) 1099511627776) (bif !(v_55 (getD p0 (toNat p1) 0) (-1099511627776 : Int) 1099511627776).1 then k (E_89_0.e0) else K p0 (wrap i64 (p1 + 1)))) else k (E_89_0.e1)
noncomputable def Sp.L_89_0 : Nat → List Int → Int → Option E_89_0
 | 0, _, _ => none
 | m + 1, p0, p1 => S_89_0 (L_89_0 m) some p0 p1
noncomputable def l_89_0 (m : Nat) (a : T_89_0.E) : Option E_89_0 := L_89_0 m a.1 a.2.1
noncomputable def O_89_0 {R : Type} : Orc R := orL T_89_0 (l_89_0 FU) Y_89_0
theorem OK_89_0 {R : Type} : okF (R := R) sm_89 0 (nf 89 0) O_89_0 := lp0 T_89_0 l_89_0 (fun R K k a => S_89_0 (fun p0 p1 => K (p0, p1, ())) k a.1 a.2.1) Y_89_0 (fun _ _ _ => by kernel_rfl) (fun _ _ _ => by
 unfold S_89_0
 repeat' first | apply gdN | apply condN | rfl) (ok0 _)
noncomputable def F_89 (a0 : (List Int)) : Option (Bool × Unit) :=
 B_89_0 (L_89_0 4611686018427387904 a0 0) (some (false, PUnit.unit)) (some (true, PUnit.unit))
noncomputable def Sp.p_89 (a0 : (List Int)) : Bool := (F_89 a0).isSome
noncomputable def Sp.v_89 (a0 : (List Int)) : Bool × Unit := (F_89 a0).getD (dfH R_89)
noncomputable def s_89 : Summ := shN A_89 R_89 (fun x => p_89 x.1) (fun x => v_89 x.1)
theorem pv_89 (a0 : (List Int)) {y : Bool × Unit} (h : F_89 a0 = some y) : p_89 a0 = true ∧ v_89 a0 = y := pvG h
theorem run_89 (x : HDen A_89) (y : HDen R_89) (h : F_89 x.1 = some y) : rnF sm_89 1 89 A_89 R_89 x y := runG noO_ok (os := [O_89_0]) ⟨OK_89_0, trivial⟩ (Eq.trans (by kernel_rfl) h)
end
noncomputable section
abbrev A_90 : List Ty := [(.pair (.int .i64) (.pair (.int .i64) (.pair (.int .i64) (.pair (.int .i64) (.pair (.int .i64) (.pair (.slice (.int .i64)) (.pair (.int .i64) .unit))))))), (.int .i64)]
abbrev R_90 : List Ty := [.bool]
noncomputable def sm_90 : Nat → Option Summ := smL []
noncomputable def F_90 (a0 : (Int × (Int × (Int × (Int × (Int × ((List Int) × (Int × Unit)))))))) (a1 : Int) : Option (Bool × Unit) :=
 some (Sp.andI i64 (a0.1) a1 != 0, PUnit.unit)
noncomputable def Sp.p_90 (a0 : (Int × (Int × (Int × (Int × (Int × ((List Int) × (Int × Unit)))))))) (a1 : Int) : Bool := (F_90 a0 a1).isSome
noncomputable def Sp.v_90 (a0 : (Int × (Int × (Int × (Int × (Int × ((List Int) × (Int × Unit)))))))) (a1 : Int) : Bool × Unit := (F_90 a0 a1).getD (dfH R_90)
noncomputable def s_90 : Summ := shN A_90 R_90 (fun x => p_90 x.1 x.2.1) (fun x => v_90 x.1 x.2.1)
theorem pv_90 (a0 : (Int × (Int × (Int × (Int × (Int × ((List Int) × (Int × Unit)))))))) (a1 : Int) {y : Bool × Unit} (h : F_90 a0 a1 = some y) : p_90 a0 a1 = true ∧ v_90 a0 a1 = y := pvG h
theorem run_90 (x : HDen A_90) (y : HDen R_90) (h : F_90 x.1 x.2.1 = some y) : rnF sm_90 1 90 A_90 R_90 x y := runG noO_ok (os := []) trivial (Eq.trans (by kernel_rfl) h)
end
noncomputable section
abbrev Zt54_0 : Type := Int × Int × Int × Int × Int × List Int × Int × Unit
abbrev Zt54_1 : Type := Int × Int × Int × Int × Int × Int × Bool × Int × Unit
abbrev Zy54_2 : Ty := (.pair (.int .i64) (.pair (.int .i64) (.pair (.int .i64) (.pair (.int .i64) (.pair (.int .i64) (.pair (.int .i64) (.pair .bool (.pair (.int .i64) .unit))))))))
abbrev Zy54_3 : Ty := (.pair (.int .i64) (.pair (.int .i64) (.pair (.int .i64) (.pair (.int .i64) (.pair (.int .i64) (.pair (.slice (.int .i64)) (.pair (.int .i64) .unit)))))))
abbrev A_54 : List Ty := [(.pair (.int .i64) (.pair (.int .i64) (.pair (.int .i64) (.pair (.int .i64) (.pair (.int .i64) (.pair (.int .i64) (.pair .bool (.pair (.int .i64) .unit)))))))), (.pair (.int .i64) (.pair (.int .i64) (.pair (.int .i64) (.pair (.int .i64) (.pair (.int .i64) (.pair (.slice (.int .i64)) (.pair (.int .i64) .unit))))))), (.int .i64)]
abbrev R_54 : List Ty := [.bool]
noncomputable def sm_54 : Nat → Option Summ := smL [(55, s_55), (89, s_89), (90, s_90)]
noncomputable def T_54_3 : PS := ⟨166, [(3, .kc (.ptr 0 [])), (4, .kc (.ptr 1 [])), (7, .hv .bool)], [.mem (.hv Zy54_2), .mem (.hv Zy54_3)], 0⟩
inductive Sp.E_54_3 where
 | e0 (p1 : Zt54_1) (p2 : Zt54_0)
 | e1
 | e2 (p2 : Zt54_0)
noncomputable def Sp.B_54_3 {R : Type} (r : Option E_54_3) (k0 : Zt54_1 → Zt54_0 → Option R) (k1 : Option R) (k2 : Zt54_0 → Option R) : Option R := match r with
 | none => none
 | some (.e0 p1 p2) => k0 p1 p2
 | some (.e1) => k1
 | some (.e2 p2) => k2 p2
theorem Bn_54_3 {A R : Type} {r : Option E_54_3} {f : A → Option R} {k0 : Zt54_1 → Zt54_0 → Option A} {k1 : Option A} {k2 : Zt54_0 → Option A} {l0 : Zt54_1 → Zt54_0 → Option R} {l1 : Option R} {l2 : Zt54_0 → Option R} (h0 : ∀ p1 p2, (k0 p1 p2).bind f = l0 p1 p2) (h1 : (k1).bind f = l1) (h2 : ∀ p2, (k2 p2).bind f = l2 p2) : (B_54_3 r k0 k1 k2).bind f = B_54_3 r l0 l1 l2 := by
 cases r with
 | none => rfl
 | some e => cases e <;> first | apply h0 | apply h1 | apply h2
noncomputable def Y_54_3 {R : Type} (k : Ex → St → Option R) : E_54_3 → Option R
 | .e0 p1 p2 => k Ex.ret (sx 166 [(6, CV.bool ((↑(length (p2.2.2.2.2.2.1)) : Int) == p1.2.2.2.2.2.2.2.1))] [])
 | .e1 => k Ex.ret (sx 166 [(6, CV.bool false)] [])
 | .e2 p2 => k Ex.ret (sx 166 [(6, CV.bool ((↑(length (p2.2.2.2.2.2.1)) : Int) == 0))] [])
noncomputable def Sp.S_54_3 {R : Type} (k : E_54_3 → Option R) (p0 : Bool) (p1 : Int × Int × Int × Int × Int × Int × Bool × Int × Unit) (p2 : Int × Int × Int × Int × Int × List Int × Int × Unit) : Option R :=
 bif p0 then bif decide (p2.2.2.2.2.1 ≥ 1) then bif decide (p2.2.2.1 ≥ 1) then bif decide (p2.2.2.2.2.2.2.1 ≥ 1) then k (E_54_3.e0 p1 p2) else k (E_54_3.e1) else k (E_54_3.e1) else k (E_54_3.e1) else bif p2.2.2.1 == 0 then bif p2.2.2.2.1 == 0 then bif p2.2.2.2.2.1 == 0 then bif p2.2.2.2.2.2.2.1 == 0 then k (E_54_3.e2 p2) else k (E_54_3.e1) else k (E_54_3.e1) else k (E_54_3.e1) else k (E_54_3.e1)
noncomputable def Sp.J_54_3 (p0 : Bool) (p1 : Int × Int × Int × Int × Int × Int × Bool × Int × Unit) (p2 : Int × Int × Int × Int × Int × List Int × Int × Unit) : Option E_54_3 := S_54_3 some p0 p1 p2
noncomputable def O_54_3 {R : Type} : Orc R := orL T_54_3 (fun a => J_54_3 a.1 a.2.1 a.2.2.1) Y_54_3
theorem OK_54_3 {R : Type} : okF (R := R) sm_54 0 (ni (ni (ni (nf 54 0) 0) 0) 0) O_54_3 := jp noO_ok (os := []) trivial T_54_3 (fun R k a => S_54_3 k a.1 a.2.1 a.2.2.1) Y_54_3 (fun k a => by kernel_rfl) (fun Y a => by
 unfold S_54_3
 repeat' first | apply gdN | apply condN | rfl) (ok0 _)
noncomputable def T_54_2 : PS := ⟨166, [(3, .kc (.ptr 0 [])), (4, .kc (.ptr 1 [])), (7, .hv .bool)], [.mem (.hv Zy54_2), .mem (.hv Zy54_3)], 0⟩
inductive Sp.E_54_2 where
 | e0
 | e1 (y6 : Zt54_1) (y7 : Zt54_0)
 | e2 (y8 : Zt54_0)
noncomputable def Sp.B_54_2 {R : Type} (r : Option E_54_2) (k0 : Option R) (k1 : Zt54_1 → Zt54_0 → Option R) (k2 : Zt54_0 → Option R) : Option R := match r with
 | none => none
 | some (.e0) => k0
 | some (.e1 y6 y7) => k1 y6 y7
 | some (.e2 y8) => k2 y8
theorem Bn_54_2 {A R : Type} {r : Option E_54_2} {f : A → Option R} {k0 : Option A} {k1 : Zt54_1 → Zt54_0 → Option A} {k2 : Zt54_0 → Option A} {l0 : Option R} {l1 : Zt54_1 → Zt54_0 → Option R} {l2 : Zt54_0 → Option R} (h0 : (k0).bind f = l0) (h1 : ∀ y6 y7, (k1 y6 y7).bind f = l1 y6 y7) (h2 : ∀ y8, (k2 y8).bind f = l2 y8) : (B_54_2 r k0 k1 k2).bind f = B_54_2 r l0 l1 l2 := by
 cases r with
 | none => rfl
 | some e => cases e <;> first | apply h0 | apply h1 | apply h2
noncomputable def Y_54_2 {R : Type} (k : Ex → St → Option R) : E_54_2 → Option R
 | .e0 => k Ex.ret (sx 166 [(6, CV.bool false)] [])
 | .e1 y6 y7 => k Ex.ret (sx 166 [(6, CV.bool ((↑(length (y7.2.2.2.2.2.1)) : Int) == y6.2.2.2.2.2.2.2.1))] [])
 | .e2 y8 => k Ex.ret (sx 166 [(6, CV.bool ((↑(length (y8.2.2.2.2.2.1)) : Int) == 0))] [])
noncomputable def Sp.S_54_2 {R : Type} (k : E_54_2 → Option R) (p0 : Bool) (p1 : Int × Int × Int × Int × Int × Int × Bool × Int × Unit) (p2 : Int × Int × Int × Int × Int × List Int × Int × Unit) : Option R :=
 gd (p_90 p2 2) (bif (v_90 p2 2).1 then bif p2.2.2.2.1 != 0 then k (E_54_2.e0) else B_54_3 (J_54_3 p0 p1 p2) (fun y6 y7 => k (E_54_2.e1 y6 y7)) (k (E_54_2.e0)) fun y8 => k (E_54_2.e2 y8) else B_54_3 (J_54_3 p0 p1 p2) (fun y9 y10 => k (E_54_2.e1 y9 y10)) (k (E_54_2.e0)) fun y11 => k (E_54_2.e2 y11))
noncomputable def Sp.J_54_2 (p0 : Bool) (p1 : Int × Int × Int × Int × Int × Int × Bool × Int × Unit) (p2 : Int × Int × Int × Int × Int × List Int × Int × Unit) : Option E_54_2 := S_54_2 some p0 p1 p2
noncomputable def O_54_2 {R : Type} : Orc R := orL T_54_2 (fun a => J_54_2 a.1 a.2.1 a.2.2.1) Y_54_2
theorem OK_54_2 {R : Type} : okF (R := R) sm_54 0 (ni (ni (nf 54 0) 0) 0) O_54_2 := jp noO_ok (os := [O_54_3]) ⟨OK_54_3, trivial⟩ T_54_2 (fun R k a => S_54_2 k a.1 a.2.1 a.2.2.1) Y_54_2 (fun k a => by kernel_rfl) (fun Y a => by
 unfold S_54_2
 repeat' first | apply gdN | apply condN | (apply Bn_54_3 <;> intros) | rfl) (ok0 _)
noncomputable def T_54_1 : PS := ⟨166, [(3, .kc (.ptr 0 [])), (4, .kc (.ptr 1 [])), (7, .hv .bool)], [.mem (.hv Zy54_2), .mem (.hv Zy54_3)], 0⟩
inductive Sp.E_54_1 where
 | e0
 | e1 (y6 : Zt54_1) (y7 : Zt54_0)
 | e2 (y8 : Zt54_0)
noncomputable def Sp.B_54_1 {R : Type} (r : Option E_54_1) (k0 : Option R) (k1 : Zt54_1 → Zt54_0 → Option R) (k2 : Zt54_0 → Option R) : Option R := match r with
 | none => none
 | some (.e0) => k0
 | some (.e1 y6 y7) => k1 y6 y7
 | some (.e2 y8) => k2 y8
theorem Bn_54_1 {A R : Type} {r : Option E_54_1} {f : A → Option R} {k0 : Option A} {k1 : Zt54_1 → Zt54_0 → Option A} {k2 : Zt54_0 → Option A} {l0 : Option R} {l1 : Zt54_1 → Zt54_0 → Option R} {l2 : Zt54_0 → Option R} (h0 : (k0).bind f = l0) (h1 : ∀ y6 y7, (k1 y6 y7).bind f = l1 y6 y7) (h2 : ∀ y8, (k2 y8).bind f = l2 y8) : (B_54_1 r k0 k1 k2).bind f = B_54_1 r l0 l1 l2 := by
 cases r with
 | none => rfl
 | some e => cases e <;> first | apply h0 | apply h1 | apply h2
noncomputable def Y_54_1 {R : Type} (k : Ex → St → Option R) : E_54_1 → Option R
 | .e0 => k Ex.ret (sx 166 [(6, CV.bool false)] [])
 | .e1 y6 y7 => k Ex.ret (sx 166 [(6, CV.bool ((↑(length (y7.2.2.2.2.2.1)) : Int) == y6.2.2.2.2.2.2.2.1))] [])
 | .e2 y8 => k Ex.ret (sx 166 [(6, CV.bool ((↑(length (y8.2.2.2.2.2.1)) : Int) == 0))] [])
noncomputable def Sp.S_54_1 {R : Type} (k : E_54_1 → Option R) (p0 : Bool) (p1 : Int × Int × Int × Int × Int × Int × Bool × Int × Unit) (p2 : Int × Int × Int × Int × Int × List Int × Int × Unit) : Option R :=
 gd (p_90 p2 4) (bif !(v_90 p2 4).1 == (p2.2.2.1 == 2) then k (E_54_1.e0) else gd (p_90 p2 16) (bif (v_90 p2 16).1 then gd (p_90 p2 4) (bif (v_90 p2 4).1 then bif !p1.2.2.2.2.2.2.1 then k (E_54_1.e0) else B_54_2 (J_54_2 p0 p1 p2) (k (E_54_1.e0)) (fun y6 y7 => k (E_54_1.e1 y6 y7)) fun y8 => k (E_54_1.e2 y8) else k (E_54_1.e0)) else B_54_2 (J_54_2 p0 p1 p2) (k (E_54_1.e0)) (fun y9 y10 => k (E_54_1.e1 y9 y10)) fun y11 => k (E_54_1.e2 y11)))
noncomputable def Sp.J_54_1 (p0 : Bool) (p1 : Int × Int × Int × Int × Int × Int × Bool × Int × Unit) (p2 : Int × Int × Int × Int × Int × List Int × Int × Unit) : Option E_54_1 := S_54_1 some p0 p1 p2
noncomputable def O_54_1 {R : Type} : Orc R := orL T_54_1 (fun a => J_54_1 a.1 a.2.1 a.2.2.1) Y_54_1
theorem OK_54_1 {R : Type} : okF (R := R) sm_54 0 (ni (nf 54 0) 0) O_54_1 := jp noO_ok (os := [O_54_2]) ⟨OK_54_2, trivial⟩ T_54_1 (fun R k a => S_54_1 k a.1 a.2.1 a.2.2.1) Y_54_1 (fun k a => by kernel_rfl) (fun Y a => by
 unfold S_54_1
 repeat' first | apply gdN | apply condN | (apply Bn_54_2 <;> intros) | rfl) (ok0 _)
noncomputable def T_54_0 : PS := ⟨166, [(2, .hv (.int .i64)), (3, .kc (.ptr 0 [])), (4, .kc (.ptr 1 [])), (7, .hv .bool)], [.mem (.hv Zy54_2), .mem (.hv Zy54_3)], 0⟩
inductive Sp.E_54_0 where
 | e0
 | e1 (y6 : Zt54_1) (y7 : Zt54_0)
 | e2 (y8 : Zt54_0)
noncomputable def Sp.B_54_0 {R : Type} (r : Option E_54_0) (k0 : Option R) (k1 : Zt54_1 → Zt54_0 → Option R) (k2 : Zt54_0 → Option R) : Option R := match r with
 | none => none
 | some (.e0) => k0
 | some (.e1 y6 y7) => k1 y6 y7
 | some (.e2 y8) => k2 y8
noncomputable def Y_54_0 {R : Type} (k : Ex → St → Option R) : E_54_0 → Option R
 | .e0 => k Ex.ret (sx 166 [(6, CV.bool false)] [])
 | .e1 y6 y7 => k Ex.ret (sx 166 [(6, CV.bool ((↑(length (y7.2.2.2.2.2.1)) : Int) == y6.2.2.2.2.2.2.2.1))] [])
 | .e2 y8 => k Ex.ret (sx 166 [(6, CV.bool ((↑(length (y8.2.2.2.2.2.1)) : Int) == 0))] [])
noncomputable def Sp.S_54_0 {R : Type} (k : E_54_0 → Option R) (p0 : Int) (p1 : Bool) (p2 : Int × Int × Int × Int × Int × Int × Bool × Int × Unit) (p3 : Int × Int × Int × Int × Int × List Int × Int × Unit) : Option R :=
 gd (p_90 p3 1) (bif (v_90 p3 1).1 then gd (p_90 p3 2) (bif (v_90 p3 2).1 then gd (p_90 p3 8) (bif (v_90 p3 8).1 then bif !p3.2.2.2.2.2.2.1 == p0 then k (E_54_0.e0) else B_54_1 (J_54_1 p1 p2 p3) (k (E_54_0.e0)) (fun y6 y7 => k (E_54_0.e1 y6 y7)) fun y8 => k (E_54_0.e2 y8) else k (E_54_0.e0)) else k (E_54_0.e0)) else B_54_1 (J_54_1 p1 p2 p3) (k (E_54_0.e0)) (fun y9 y10 => k (E_54_0.e1 y9 y10)) fun y11 => k (E_54_0.e2 y11))
noncomputable def Sp.J_54_0 (p0 : Int) (p1 : Bool) (p2 : Int × Int × Int × Int × Int × Int × Bool × Int × Unit) (p3 : Int × Int × Int × Int × Int × List Int × Int × Unit) : Option E_54_0 := S_54_0 some p0 p1 p2 p3
noncomputable def O_54_0 {R : Type} : Orc R := orL T_54_0 (fun a => J_54_0 a.1 a.2.1 a.2.2.1 a.2.2.2.1) Y_54_0
theorem OK_54_0 {R : Type} : okF (R := R) sm_54 0 (nf 54 0) O_54_0 := jp noO_ok (os := [O_54_1]) ⟨OK_54_1, trivial⟩ T_54_0 (fun R k a => S_54_0 k a.1 a.2.1 a.2.2.1 a.2.2.2.1) Y_54_0 (fun k a => by kernel_rfl) (fun Y a => by
 unfold S_54_0
 repeat' first | apply gdN | apply condN | (apply Bn_54_1 <;> intros) | rfl) (ok0 _)
noncomputable def F_54 (a0 : (Int × (Int × (Int × (Int × (Int × (Int × (Bool × (Int × Unit))))))))) (a1 : (Int × (Int × (Int × (Int × (Int × ((List Int) × (Int × Unit)))))))) (a2 : Int) : Option (Bool × Unit) :=
 gd (p_55 (a1.1) 0 31) (bif !(v_55 (a1.1) 0 31).1 then some (false, PUnit.unit) else gd (p_55 (a1.2.1) (wrap i64 (0 - a0.2.2.1)) (a0.2.1)) (bif !(v_55 (a1.2.1) (wrap i64 (0 - a0.2.2.1)) (a0.2.1)).1 then some (false, PUnit.unit) else gd (p_55 (a1.2.2.1) 0 2) (bif !(v_55 (a1.2.2.1) 0 2).1 then some (false, PUnit.unit) else gd (p_55 (a1.2.2.2.1) 0 (wrap i64 (a0.2.2.2.2.1 - 1))) (bif !(v_55 (a1.2.2.2.1) 0 (wrap i64 (a0.2.2.2.2.1 - 1))).1 then some (false, PUnit.unit) else gd (p_55 (a1.2.2.2.2.1) 0 255) (bif !(v_55 (a1.2.2.2.2.1) 0 255).1 then some (false, PUnit.unit) else gd (p_55 (a1.2.2.2.2.2.2.1) 0 a2) (bif !(v_55 (a1.2.2.2.2.2.2.1) 0 a2).1 then some (false, PUnit.unit) else bif (↑(length (a1.2.2.2.2.2.1)) : Int) != 0 then bif (↑(length (a1.2.2.2.2.2.1)) : Int) != a0.2.2.2.2.2.2.2.1 then some (false, PUnit.unit) else gd (p_89 (a1.2.2.2.2.2.1)) (bif !(v_89 (a1.2.2.2.2.2.1)).1 then some (false, PUnit.unit) else gd (p_90 a1 2) (bif (v_90 a1 2).1 then B_54_0 (J_54_0 a2 true a0 a1) (some (false, PUnit.unit)) (fun y12 y13 => some ((↑(length (y13.2.2.2.2.2.1)) : Int) == y12.2.2.2.2.2.2.2.1, PUnit.unit)) fun y14 => some ((↑(length (y14.2.2.2.2.2.1)) : Int) == 0, PUnit.unit) else gd (p_90 a1 4) (B_54_0 (J_54_0 a2 ((v_90 a1 4).1) a0 a1) (some (false, PUnit.unit)) (fun y15 y16 => some ((↑(length (y16.2.2.2.2.2.1)) : Int) == y15.2.2.2.2.2.2.2.1, PUnit.unit)) fun y17 => some ((↑(length (y17.2.2.2.2.2.1)) : Int) == 0, PUnit.unit)))) else gd (p_89 (a1.2.2.2.2.2.1)) (bif !(v_89 (a1.2.2.2.2.2.1)).1 then some (false, PUnit.unit) else gd (p_90 a1 2) (bif (v_90 a1 2).1 then B_54_0 (J_54_0 a2 true a0 a1) (some (false, PUnit.unit)) (fun y18 y19 => some ((↑(length (y19.2.2.2.2.2.1)) : Int) == y18.2.2.2.2.2.2.2.1, PUnit.unit)) fun y20 => some ((↑(length (y20.2.2.2.2.2.1)) : Int) == 0, PUnit.unit) else gd (p_90 a1 4) (B_54_0 (J_54_0 a2 ((v_90 a1 4).1) a0 a1) (some (false, PUnit.unit)) (fun y21 y22 => some ((↑(length (y22.2.2.2.2.2.1)) : Int) == y21.2.2.2.2.2.2.2.1, PUnit.unit)) fun y23 => some ((↑(length (y23.2.2.2.2.2.1)) : Int) == 0, PUnit.unit))))))))))
noncomputable def Sp.p_54 (a0 : (Int × (Int × (Int × (Int × (Int × (Int × (Bool × (Int × Unit))))))))) (a1 : (Int × (Int × (Int × (Int × (Int × ((List Int) × (Int × Unit)))))))) (a2 : Int) : Bool := (F_54 a0 a1 a2).isSome
noncomputable def Sp.v_54 (a0 : (Int × (Int × (Int × (Int × (Int × (Int × (Bool × (Int × Unit))))))))) (a1 : (Int × (Int × (Int × (Int × (Int × ((List Int) × (Int × Unit)))))))) (a2 : Int) : Bool × Unit := (F_54 a0 a1 a2).getD (dfH R_54)
noncomputable def s_54 : Summ := shN A_54 R_54 (fun x => p_54 x.1 x.2.1 x.2.2.1) (fun x => v_54 x.1 x.2.1 x.2.2.1)
theorem pv_54 (a0 : (Int × (Int × (Int × (Int × (Int × (Int × (Bool × (Int × Unit))))))))) (a1 : (Int × (Int × (Int × (Int × (Int × ((List Int) × (Int × Unit)))))))) (a2 : Int) {y : Bool × Unit} (h : F_54 a0 a1 a2 = some y) : p_54 a0 a1 a2 = true ∧ v_54 a0 a1 a2 = y := pvG h
theorem run_54 (x : HDen A_54) (y : HDen R_54) (h : F_54 x.1 x.2.1 x.2.2.1 = some y) : rnF sm_54 1 54 A_54 R_54 x y := runG noO_ok (os := [O_54_0]) ⟨OK_54_0, trivial⟩ (Eq.trans (by kernel_rfl) h)
end
noncomputable section
abbrev Zt15_0 : Type := List (Int × Int × Int × Int × Int × Int × Bool × Int × Unit)
abbrev Zt15_1 : Type := List (Int × Int × Int × Int × Int × List Int × Int × Unit)
abbrev Zy15_2 : Ty := (.slice (.pair (.int .i64) (.pair (.int .i64) (.pair (.int .i64) (.pair (.int .i64) (.pair (.int .i64) (.pair (.int .i64) (.pair .bool (.pair (.int .i64) .unit)))))))))
abbrev Zy15_3 : Ty := (.pair (.int .i64) (.pair (.int .i64) (.pair (.int .i64) (.pair (.int .i64) (.pair (.int .i64) (.pair (.slice (.int .i64)) (.pair (.int .i64) .unit)))))))
abbrev Zy15_4 : Ty := (.pair (.int .i64) (.pair (.int .i64) (.pair (.int .i64) (.pair (.int .i64) (.pair (.int .i64) (.pair (.int .i64) (.pair .bool (.pair (.int .i64) .unit))))))))
abbrev Zy15_5 : Ty := (.pair (.pair (.slice (.int .u32)) (.pair (.slice (.int .i64)) (.pair (.int .i64) .unit))) (.pair (.int .i64) (.pair (.int .i64) .unit)))
abbrev Zt15_6 : Type := Int × Bool × Unit
abbrev Zy15_7 : Ty := (.pair (.int .i64) (.pair .bool .unit))
abbrev A_15 : List Ty := [(.pair (.pair (.slice (.int .u32)) (.pair (.slice (.int .i64)) (.pair (.int .i64) .unit))) (.pair (.int .i64) (.pair (.int .i64) .unit))), (.slice (.pair (.int .i64) (.pair (.int .i64) (.pair (.int .i64) (.pair (.int .i64) (.pair (.int .i64) (.pair (.int .i64) (.pair .bool (.pair (.int .i64) .unit)))))))))]
abbrev R_15 : List Ty := [(.pair (.slice (.pair (.int .i64) (.pair (.int .i64) (.pair (.int .i64) (.pair (.int .i64) (.pair (.int .i64) (.pair (.int .i64) (.pair .bool (.pair (.int .i64) .unit))))))))) (.pair (.slice (.pair (.int .i64) (.pair (.int .i64) (.pair (.int .i64) (.pair (.int .i64) (.pair (.int .i64) (.pair (.slice (.int .i64)) (.pair (.int .i64) .unit)))))))) (.pair (.int .i64) (.pair .bool .unit))))]
noncomputable def sm_15 : Nat → Option Summ := smL [(51, s_51), (52, s_52), (53, s_53), (54, s_54)]
noncomputable def T_15_1 : PS := ⟨97, [(1, .hv Zy15_2), (2, .kc (.ptr 0 [])), (4, .kc (.ptr 1 [])), (5, .kc (.ptr 4 [])), (8, .hv (.int .i64))], [.mem (.hv Zy15_5), .mem (.pr (.kc (.whole 2)) (.pr (.kc (.whole 3)) (.hv Zy15_7))), .vec 63 Zy15_4, .vec 47 Zy15_3, .mem (.pr (.hv Zy15_2) (.pr (.kc (.whole 5)) (.hv Zy15_7))), .vec 47 Zy15_3], 0⟩
inductive Sp.E_15_1 where
 | e0 (p3 : Zt15_6) (p4 : Zt15_0) (p5 : Zt15_1) (p6 : Zt15_0) (p7 : Zt15_6) (p8 : Zt15_1)
noncomputable def Sp.B_15_1 {R : Type} (r : Option E_15_1) (k0 : Zt15_6 → Zt15_0 → Zt15_1 → Zt15_0 → Zt15_6 → Zt15_1 → Option R) : Option R := match r with
 | none => none
 | some (.e0 p3 p4 p5 p6 p7 p8) => k0 p3 p4 p5 p6 p7 p8
theorem Bn_15_1 {A R : Type} {r : Option E_15_1} {f : A → Option R} {k0 : Zt15_6 → Zt15_0 → Zt15_1 → Zt15_0 → Zt15_6 → Zt15_1 → Option A} {l0 : Zt15_6 → Zt15_0 → Zt15_1 → Zt15_0 → Zt15_6 → Zt15_1 → Option R} (h0 : ∀ p3 p4 p5 p6 p7 p8, (k0 p3 p4 p5 p6 p7 p8).bind f = l0 p3 p4 p5 p6 p7 p8) : (B_15_1 r k0).bind f = B_15_1 r l0 := by
 cases r with
 | none => rfl
 | some e => cases e <;> first | apply h0
noncomputable def Y_15_1 {R : Type} (k : Ex → St → Option R) : E_15_1 → Option R
 | .e0 p3 p4 p5 p6 p7 p8 => k (Ex.exit 0) (sx 97 [(4, CV.ptr 0 []), (5, CV.ptr 3 [])] [Blk.mem (CV.pair (CV.whole 1) (CV.pair (CV.whole 2) (CV.pure (Ty.pair (Ty.int i64) (Ty.pair Ty.bool Ty.unit)) p3))), Blk.vec 63 (Ty.pair (Ty.int i64) (Ty.pair (Ty.int i64) (Ty.pair (Ty.int i64) (Ty.pair (Ty.int i64) (Ty.pair (Ty.int i64) (Ty.pair (Ty.int i64) (Ty.pair Ty.bool (Ty.pair (Ty.int i64) Ty.unit)))))))) p4, Blk.vec 47 (Ty.pair (Ty.int i64) (Ty.pair (Ty.int i64) (Ty.pair (Ty.int i64) (Ty.pair (Ty.int i64) (Ty.pair (Ty.int i64) (Ty.pair (Ty.slice (Ty.int i64)) (Ty.pair (Ty.int i64) Ty.unit))))))) p5, Blk.mem (CV.pair (CV.pure (Ty.slice (Ty.pair (Ty.int i64) (Ty.pair (Ty.int i64) (Ty.pair (Ty.int i64) (Ty.pair (Ty.int i64) (Ty.pair (Ty.int i64) (Ty.pair (Ty.int i64) (Ty.pair Ty.bool (Ty.pair (Ty.int i64) Ty.unit))))))))) p6) (CV.pair (CV.whole 4) (CV.pure (Ty.pair (Ty.int i64) (Ty.pair Ty.bool Ty.unit)) p7))), Blk.vec 47 (Ty.pair (Ty.int i64) (Ty.pair (Ty.int i64) (Ty.pair (Ty.int i64) (Ty.pair (Ty.int i64) (Ty.pair (Ty.int i64) (Ty.pair (Ty.slice (Ty.int i64)) (Ty.pair (Ty.int i64) Ty.unit))))))) p8])
noncomputable def Sp.S_15_1 {R : Type} (K : (List (Int × Int × Int × Int × Int × Int × Bool × Int × Unit)) → Int → ((List Int × List Int × Int × Unit) × Int × Int × Unit) → (Int × Bool × Unit) → (List (Int × Int × Int × Int × Int × Int × Bool × Int × Unit)) → (List (Int × Int × Int × Int × Int × List Int × Int × Unit)) → (List (Int × Int × Int × Int × Int × Int × Bool × Int × Unit)) → (Int × Bool × Unit) → (List (Int × Int × Int × Int × Int × List Int × Int × Unit)) → Option R) (k : E_15_1 → Option R) (p0 : List (Int × Int × Int × Int × Int × Int × Bool × Int × Unit)) (p1 : Int) (p2 : (List Int × List Int × Int × Unit) × Int × Int × Unit) (p3 : Int × Bool × Unit) (p4 : List (Int × Int × Int × Int × Int × Int × Bool × Int × Unit)) (p5 : List (Int × Int × Int × Int × Int × List Int × Int × Unit)) (p6 : List (Int × Int × Int × Int × Int × Int × Bool × Int × Unit)) (p7 : Int × Bool × Unit) (p8 : List (Int × Int × Int × Int × Int × List Int × Int × Unit)) : Option R :=
 bif decide (p1 < (↑(length p0) : Int)) then gd (p_51 p2 p1) (bif (v_51 p2 p1).2.1 then bif decide ((↑(length ((v_51 p2 p1).1)) : Int) > 0) then gd (inB 0 (length ((v_51 p2 p1).1))) (gd (inB p1 (length p0)) (bif wrap i64 (getD ((v_51 p2 p1).1) 0 0) == (getD p0 (toNat p1) Zd1).1 then gd (sl3 1 (↑(length ((v_51 p2 p1).1)) : Int) (↑(length ((v_51 p2 p1).1)) : Int)) (gd (p_52 (drop 1 ((v_51 p2 p1).1))) (bif (v_52 (drop 1 ((v_51 p2 p1).1))).2.1 then gd (p_53 ((v_52 (drop 1 ((v_51 p2 p1).1))).1)) (bif (v_53 ((v_52 (drop 1 ((v_51 p2 p1).1))).1)).1 then gd (inB p1 (length p0)) (gd (p_54 (getD p0 (toNat p1) Zd1) ((v_52 (drop 1 ((v_51 p2 p1).1))).1) (p7.1)) (bif (v_54 (getD p0 (toNat p1) Zd1) ((v_52 (drop 1 ((v_51 p2 p1).1))).1) (p7.1)).1 then gd (room (length p8 + 1) 72) (K p0 (wrap i64 (p1 + 1)) p2 p3 p4 p5 p6 p7 (p8 ++ [(v_52 (drop 1 ((v_51 p2 p1).1))).1])) else gd (room (length p8 + 1) 72) (K p0 (wrap i64 (p1 + 1)) p2 p3 p4 p5 p6 p7 (p8 ++ [(0, 0, 0, 0, 0, [], 0, PUnit.unit)])))) else gd (room (length p8 + 1) 72) (K p0 (wrap i64 (p1 + 1)) p2 p3 p4 p5 p6 p7 (p8 ++ [(0, 0, 0, 0, 0, [], 0, PUnit.unit)]))) else gd (room (length p8 + 1) 72) (K p0 (wrap i64 (p1 + 1)) p2 p3 p4 p5 p6 p7 (p8 ++ [(0, 0, 0, 0, 0, [], 0, PUnit.unit)])))) else gd (room (length p8 + 1) 72) (K p0 (wrap i64 (p1 + 1)) p2 p3 p4 p5 p6 p7 (p8 ++ [(0, 0, 0, 0, 0, [], 0, PUnit.unit)])))) else gd (room (length p8 + 1) 72) (K p0 (wrap i64 (p1 + 1)) p2 p3 p4 p5 p6 p7 (p8 ++ [(0, 0, 0, 0, 0, [], 0, PUnit.unit)])) else gd (room (length p8 + 1) 72) (K p0 (wrap i64 (p1 + 1)) p2 p3 p4 p5 p6 p7 (p8 ++ [(0, 0, 0, 0, 0, [], 0, PUnit.unit)]))) else k (E_15_1.e0 p3 p4 p5 p6 p7 p8)
noncomputable def Sp.L_15_1 : Nat → (List (Int × Int × Int × Int × Int × Int × Bool × Int × Unit)) → Int → ((List Int × List Int × Int × Unit) × Int × Int × Unit) → (Int × Bool × Unit) → (List (Int × Int × Int × Int × Int × Int × Bool × Int × Unit)) → (List (Int × Int × Int × Int × Int × List Int × Int × Unit)) → (List (Int × Int × Int × Int × Int × Int × Bool × Int × Unit)) → (Int × Bool × Unit) → (List (Int × Int × Int × Int × Int × List Int × Int × Unit)) → Option E_15_1
 | 0, _, _, _, _, _, _, _, _, _ => none
 | m + 1, p0, p1, p2, p3, p4, p5, p6, p7, p8 => S_15_1 (L_15_1 m) some p0 p1 p2 p3 p4 p5 p6 p7 p8
noncomputable def l_15_1 (m : Nat) (a : T_15_1.E) : Option E_15_1 := L_15_1 m a.1 a.2.1 a.2.2.1 a.2.2.2.1 a.2.2.2.2.1 a.2.2.2.2.2.1 a.2.2.2.2.2.2.1 a.2.2.2.2.2.2.2.1 a.2.2.2.2.2.2.2.2.1
noncomputable def O_15_1 {R : Type} : Orc R := orL T_15_1 (l_15_1 FU) Y_15_1
theorem OK_15_1 {R : Type} : okF (R := R) sm_15 0 (ni (nf 15 0) 0) O_15_1 := lp0 T_15_1 l_15_1 (fun R K k a => S_15_1 (fun p0 p1 p2 p3 p4 p5 p6 p7 p8 => K (p0, p1, p2, p3, p4, p5, p6, p7, p8, ())) k a.1 a.2.1 a.2.2.1 a.2.2.2.1 a.2.2.2.2.1 a.2.2.2.2.2.1 a.2.2.2.2.2.2.1 a.2.2.2.2.2.2.2.1 a.2.2.2.2.2.2.2.2.1) Y_15_1 (fun _ _ _ => by kernel_rfl) (fun _ _ _ => by
 unfold S_15_1
 repeat' first | apply gdN | apply condN | rfl) (ok0 _)
noncomputable def T_15_0 : PS := ⟨97, [(1, .hv Zy15_2), (2, .kc (.ptr 0 [])), (4, .kc (.ptr 1 [])), (5, .kc (.ptr 4 []))], [.mem (.hv Zy15_5), .mem (.pr (.kc (.whole 2)) (.pr (.kc (.whole 3)) (.hv Zy15_7))), .vec 63 Zy15_4, .vec 47 Zy15_3, .mem (.pr (.hv Zy15_2) (.pr (.kc (.whole 5)) (.hv Zy15_7))), .vec 47 Zy15_3], 0⟩
inductive Sp.E_15_0 where
 | e0 (y9 : Zt15_0) (y10 : Zt15_6) (y11 : Zt15_1)
noncomputable def Sp.B_15_0 {R : Type} (r : Option E_15_0) (k0 : Zt15_0 → Zt15_6 → Zt15_1 → Option R) : Option R := match r with
 | none => none
 | some (.e0 y9 y10 y11) => k0 y9 y10 y11
noncomputable def Y_15_0 {R : Type} (k : Ex → St → Option R) : E_15_0 → Option R
 | .e0 y9 y10 y11 => k Ex.ret (sx 97 [(4, CV.ptr 0 [])] [Blk.mem (CV.pair (CV.pure (Ty.slice (Ty.pair (Ty.int i64) (Ty.pair (Ty.int i64) (Ty.pair (Ty.int i64) (Ty.pair (Ty.int i64) (Ty.pair (Ty.int i64) (Ty.pair (Ty.int i64) (Ty.pair Ty.bool (Ty.pair (Ty.int i64) Ty.unit))))))))) y9) (CV.pair (CV.whole 1) (CV.pure (Ty.pair (Ty.int i64) (Ty.pair Ty.bool Ty.unit)) y10))), Blk.vec 47 (Ty.pair (Ty.int i64) (Ty.pair (Ty.int i64) (Ty.pair (Ty.int i64) (Ty.pair (Ty.int i64) (Ty.pair (Ty.int i64) (Ty.pair (Ty.slice (Ty.int i64)) (Ty.pair (Ty.int i64) Ty.unit))))))) y11])
noncomputable def Sp.S_15_0 {R : Type} (k : E_15_0 → Option R) (p0 : List (Int × Int × Int × Int × Int × Int × Bool × Int × Unit)) (p1 : (List Int × List Int × Int × Unit) × Int × Int × Unit) (p2 : Int × Bool × Unit) (p3 : List (Int × Int × Int × Int × Int × Int × Bool × Int × Unit)) (p4 : List (Int × Int × Int × Int × Int × List Int × Int × Unit)) (p5 : List (Int × Int × Int × Int × Int × Int × Bool × Int × Unit)) (p6 : Int × Bool × Unit) (p7 : List (Int × Int × Int × Int × Int × List Int × Int × Unit)) : Option R :=
 B_15_1 (L_15_1 4611686018427387904 p0 0 p1 p2 p3 p4 p5 p6 p7) fun y6 y7 y8 y9 y10 y11 => k (E_15_0.e0 y9 y10 y11)
noncomputable def Sp.J_15_0 (p0 : List (Int × Int × Int × Int × Int × Int × Bool × Int × Unit)) (p1 : (List Int × List Int × Int × Unit) × Int × Int × Unit) (p2 : Int × Bool × Unit) (p3 : List (Int × Int × Int × Int × Int × Int × Bool × Int × Unit)) (p4 : List (Int × Int × Int × Int × Int × List Int × Int × Unit)) (p5 : List (Int × Int × Int × Int × Int × Int × Bool × Int × Unit)) (p6 : Int × Bool × Unit) (p7 : List (Int × Int × Int × Int × Int × List Int × Int × Unit)) : Option E_15_0 := S_15_0 some p0 p1 p2 p3 p4 p5 p6 p7
noncomputable def O_15_0 {R : Type} : Orc R := orL T_15_0 (fun a => J_15_0 a.1 a.2.1 a.2.2.1 a.2.2.2.1 a.2.2.2.2.1 a.2.2.2.2.2.1 a.2.2.2.2.2.2.1 a.2.2.2.2.2.2.2.1) Y_15_0
theorem OK_15_0 {R : Type} : okF (R := R) sm_15 0 (nf 15 0) O_15_0 := jp noO_ok (os := [O_15_1]) ⟨OK_15_1, trivial⟩ T_15_0 (fun R k a => S_15_0 k a.1 a.2.1 a.2.2.1 a.2.2.2.1 a.2.2.2.2.1 a.2.2.2.2.2.1 a.2.2.2.2.2.2.1 a.2.2.2.2.2.2.2.1) Y_15_0 (fun k a => by kernel_rfl) (fun Y a => by
 unfold S_15_0
 repeat' first | apply gdN | apply condN | (apply Bn_15_1 <;> intros) | rfl) (ok0 _)
noncomputable def F_15 (a0 : (((List Int) × ((List Int) × (Int × Unit))) × (Int × (Int × Unit)))) (a1 : (List (Int × (Int × (Int × (Int × (Int × (Int × (Bool × (Int × Unit)))))))))) : Option (((List (Int × (Int × (Int × (Int × (Int × (Int × (Bool × (Int × Unit))))))))) × ((List (Int × (Int × (Int × (Int × (Int × ((List Int) × (Int × Unit)))))))) × (Int × (Bool × Unit)))) × Unit) :=
 gd (p_51 a0 254) (bif (v_51 a0 254).2.1 then bif (↑(length ((v_51 a0 254).1)) : Int) == 1 then gd (inB 0 (length ((v_51 a0 254).1))) (bif decide (getD ((v_51 a0 254).1) 0 (0 :Int) ≤ (1073741824 :Int)) then gd (inB 0 (length ((v_51 a0 254).1))) (B_15_0 (J_15_0 a1 a0 (0, false, PUnit.unit) [] [] a1 (wrap i64 (getD ((v_51 a0 254).1) 0 0), false, PUnit.unit) []) fun y12 y13 y14 => some ((y12, y14, y13), PUnit.unit)) else B_15_0 (J_15_0 a1 a0 (0, false, PUnit.unit) [] [] a1 (0, false, PUnit.unit) []) fun y15 y16 y17 => some ((y15, y17, y16), PUnit.unit)) else B_15_0 (J_15_0 a1 a0 (0, false, PUnit.unit) [] [] a1 (0, false, PUnit.unit) []) fun y18 y19 y20 => some ((y18, y20, y19), PUnit.unit) else B_15_0 (J_15_0 a1 a0 (0, false, PUnit.unit) [] [] a1 (0, false, PUnit.unit) []) fun y21 y22 y23 => some ((y21, y23, y22), PUnit.unit))
noncomputable def Sp.p_15 (a0 : (((List Int) × ((List Int) × (Int × Unit))) × (Int × (Int × Unit)))) (a1 : (List (Int × (Int × (Int × (Int × (Int × (Int × (Bool × (Int × Unit)))))))))) : Bool := (F_15 a0 a1).isSome
noncomputable def Sp.v_15 (a0 : (((List Int) × ((List Int) × (Int × Unit))) × (Int × (Int × Unit)))) (a1 : (List (Int × (Int × (Int × (Int × (Int × (Int × (Bool × (Int × Unit)))))))))) : ((List (Int × (Int × (Int × (Int × (Int × (Int × (Bool × (Int × Unit))))))))) × ((List (Int × (Int × (Int × (Int × (Int × ((List Int) × (Int × Unit)))))))) × (Int × (Bool × Unit)))) × Unit := (F_15 a0 a1).getD (dfH R_15)
noncomputable def s_15 : Summ := shS A_15 R_15 (fun x => p_15 x.1 x.2.1) (fun x => v_15 x.1 x.2.1)
theorem pv_15 (a0 : (((List Int) × ((List Int) × (Int × Unit))) × (Int × (Int × Unit)))) (a1 : (List (Int × (Int × (Int × (Int × (Int × (Int × (Bool × (Int × Unit)))))))))) {y : ((List (Int × (Int × (Int × (Int × (Int × (Int × (Bool × (Int × Unit))))))))) × ((List (Int × (Int × (Int × (Int × (Int × ((List Int) × (Int × Unit)))))))) × (Int × (Bool × Unit)))) × Unit} (h : F_15 a0 a1 = some y) : p_15 a0 a1 = true ∧ v_15 a0 a1 = y := pvG h
theorem run_15 (x : HDen A_15) (y : HDen R_15) (h : F_15 x.1 x.2.1 = some y) : rnF sm_15 1 15 A_15 R_15 x y := runG noO_ok (os := [O_15_0]) ⟨OK_15_0, trivial⟩ (Eq.trans (by kernel_rfl) h)
end
noncomputable section
abbrev Zy16_0 : Ty := (.pair (.slice (.pair (.int .i64) (.pair (.int .i64) (.pair (.int .i64) (.pair (.int .i64) (.pair (.int .i64) (.pair (.int .i64) (.pair .bool (.pair (.int .i64) .unit))))))))) (.pair (.slice (.pair (.int .i64) (.pair (.int .i64) (.pair (.int .i64) (.pair (.int .i64) (.pair (.int .i64) (.pair (.slice (.int .i64)) (.pair (.int .i64) .unit)))))))) (.pair (.int .i64) (.pair .bool .unit))))
abbrev A_16 : List Ty := [(.pair (.slice (.pair (.int .i64) (.pair (.int .i64) (.pair (.int .i64) (.pair (.int .i64) (.pair (.int .i64) (.pair (.int .i64) (.pair .bool (.pair (.int .i64) .unit))))))))) (.pair (.slice (.pair (.int .i64) (.pair (.int .i64) (.pair (.int .i64) (.pair (.int .i64) (.pair (.int .i64) (.pair (.slice (.int .i64)) (.pair (.int .i64) .unit)))))))) (.pair (.int .i64) (.pair .bool .unit))))]
abbrev R_16 : List Ty := [.bool]
noncomputable def sm_16 : Nat → Option Summ := smL [(12, s_12), (54, s_54), (55, s_55)]
noncomputable def T_16_1 : PS := ⟨53, [(1, .kc (.ptr 0 [])), (3, .hv (.int .i64))], [.mem (.hv Zy16_0)], 0⟩
inductive Sp.E_16_1 where
 | e0
 | e1
noncomputable def Sp.B_16_1 {R : Type} (r : Option E_16_1) (k0 k1 : Option R) : Option R := match r with
 | none => none
 | some (.e0) => k0
 | some (.e1) => k1
theorem Bn_16_1 {A R : Type} {r : Option E_16_1} {f : A → Option R} {k0 : Option A} {k1 : Option A} {l0 : Option R} {l1 : Option R} (h0 : (k0).bind f = l0) (h1 : (k1).bind f = l1) : (B_16_1 r k0 k1).bind f = B_16_1 r l0 l1 := by
 cases r with
 | none => rfl
 | some e => cases e <;> first | apply h0 | apply h1
noncomputable def Y_16_1 {R : Type} (k : Ex → St → Option R) : E_16_1 → Option R
 | .e0 => k Ex.ret (sx 53 [(2, CV.bool false)] [])
 | .e1 => k (Ex.exit 0) (sx 53 [] [])
noncomputable def Sp.S_16_1 {R : Type} (K : Int → (List (Int × Int × Int × Int × Int × Int × Bool × Int × Unit) × List (Int × Int × Int × Int × Int × List Int × Int × Unit) × Int × Bool × Unit) → Option R) (k : E_16_1 → Option R) (p0 : Int) (p1 : List (Int × Int × Int × Int × Int × Int × Bool × Int × Unit) × List (Int × Int × Int × Int × Int × List Int × Int × Unit) × Int × Bool × Unit) : Option R :=
 bif decide (p0 < (↑(length (p1.2.1)) : Int)) then gd (inB p0 (length (p1.1))) (gd (inB p0 (length (p1.2.1))) (gd (p_54 (getD (p1.1) (toNat p0) Zd1) (getD (p1.2.1) (toNat p0) Zd0) (p1.2.2.1)) (bif !(v_54 (getD (p1.1) (toNat p0) Zd1) (getD (p1.2.1) (toNat p0) Zd0) (p1.2.2.1)).1 then k (E_16_1.e0) else K (wrap i64 (p0 + 1)) p1))) else k (E_16_1.e1)
noncomputable def Sp.L_16_1 : Nat → Int → (List (Int × Int × Int × Int × Int × Int × Bool × Int × Unit) × List (Int × Int × Int × Int × Int × List Int × Int × Unit) × Int × Bool × Unit) → Option E_16_1
 | 0, _, _ => none
 | m + 1, p0, p1 => S_16_1 (L_16_1 m) some p0 p1
noncomputable def l_16_1 (m : Nat) (a : T_16_1.E) : Option E_16_1 := L_16_1 m a.1 a.2.1
noncomputable def O_16_1 {R : Type} : Orc R := orL T_16_1 (l_16_1 FU) Y_16_1
theorem OK_16_1 {R : Type} : okF (R := R) sm_16 0 (ni (nf 16 0) 0) O_16_1 := lp0 T_16_1 l_16_1 (fun R K k a => S_16_1 (fun p0 p1 => K (p0, p1, ())) k a.1 a.2.1) Y_16_1 (fun _ _ _ => by kernel_rfl) (fun _ _ _ => by
 unfold S_16_1
 repeat' first | apply gdN | apply condN | rfl) (ok0 _)
noncomputable def T_16_0 : PS := ⟨53, [(1, .kc (.ptr 0 []))], [.mem (.hv Zy16_0)], 0⟩
inductive Sp.E_16_0 where
 | e0
 | e1
noncomputable def Sp.B_16_0 {R : Type} (r : Option E_16_0) (k0 k1 : Option R) : Option R := match r with
 | none => none
 | some (.e0) => k0
 | some (.e1) => k1
noncomputable def Y_16_0 {R : Type} (k : Ex → St → Option R) : E_16_0 → Option R
 | .e0 => k Ex.ret (sx 53 [(2, CV.bool false)] [])
 | .e1 => k Ex.ret (sx 53 [(2, CV.bool true)] [])
noncomputable def Sp.S_16_0 {R : Type} (k : E_16_0 → Option R) (p0 : List (Int × Int × Int × Int × Int × Int × Bool × Int × Unit) × List (Int × Int × Int × Int × Int × List Int × Int × Unit) × Int × Bool × Unit) : Option R :=
 B_16_1 (L_16_1 4611686018427387904 0 p0) (k (E_16_0.e0)) (k (E_16_0.e1))
noncomputable def Sp.J_16_0 (p0 : List (Int × Int × Int × Int × Int × Int × Bool × Int × Unit) × List (Int × Int × Int × Int × Int × List Int × Int × Unit) × Int × Bool × Unit) : Option E_16_0 := S_16_0 some p0
noncomputable def O_16_0 {R : Type} : Orc R := orL T_16_0 (fun a => J_16_0 a.1) Y_16_0
theorem OK_16_0 {R : Type} : okF (R := R) sm_16 0 (nf 16 0) O_16_0 := jp noO_ok (os := [O_16_1]) ⟨OK_16_1, trivial⟩ T_16_0 (fun R k a => S_16_0 k a.1) Y_16_0 (fun k a => by kernel_rfl) (fun Y a => by
 unfold S_16_0
 repeat' first | apply gdN | apply condN | (apply Bn_16_1 <;> intros) | rfl) (ok0 _)
noncomputable def F_16 (a0 : ((List (Int × (Int × (Int × (Int × (Int × (Int × (Bool × (Int × Unit))))))))) × ((List (Int × (Int × (Int × (Int × (Int × ((List Int) × (Int × Unit)))))))) × (Int × (Bool × Unit))))) : Option (Bool × Unit) :=
 gd (p_12 (a0.1)) (bif (v_12 (a0.1)).1 != 0 then some (false, PUnit.unit) else bif (↑(length (a0.2.1)) : Int) != (↑(length (a0.1)) : Int) then some (false, PUnit.unit) else gd (p_55 (a0.2.2.1) 0 1073741824) (bif !(v_55 (a0.2.2.1) 0 1073741824).1 then some (false, PUnit.unit) else bif a0.2.2.2.1 then bif decide (a0.2.2.1 < 1) then some (false, PUnit.unit) else B_16_0 (J_16_0 a0) (some (false, PUnit.unit)) (some (true, PUnit.unit)) else B_16_0 (J_16_0 a0) (some (false, PUnit.unit)) (some (true, PUnit.unit))))
noncomputable def Sp.p_16 (a0 : ((List (Int × (Int × (Int × (Int × (Int × (Int × (Bool × (Int × Unit))))))))) × ((List (Int × (Int × (Int × (Int × (Int × ((List Int) × (Int × Unit)))))))) × (Int × (Bool × Unit))))) : Bool := (F_16 a0).isSome
noncomputable def Sp.v_16 (a0 : ((List (Int × (Int × (Int × (Int × (Int × (Int × (Bool × (Int × Unit))))))))) × ((List (Int × (Int × (Int × (Int × (Int × ((List Int) × (Int × Unit)))))))) × (Int × (Bool × Unit))))) : Bool × Unit := (F_16 a0).getD (dfH R_16)
noncomputable def s_16 : Summ := shN A_16 R_16 (fun x => p_16 x.1) (fun x => v_16 x.1)
theorem pv_16 (a0 : ((List (Int × (Int × (Int × (Int × (Int × (Int × (Bool × (Int × Unit))))))))) × ((List (Int × (Int × (Int × (Int × (Int × ((List Int) × (Int × Unit)))))))) × (Int × (Bool × Unit))))) {y : Bool × Unit} (h : F_16 a0 = some y) : p_16 a0 = true ∧ v_16 a0 = y := pvG h
theorem run_16 (x : HDen A_16) (y : HDen R_16) (h : F_16 x.1 = some y) : rnF sm_16 1 16 A_16 R_16 x y := runG noO_ok (os := [O_16_0]) ⟨OK_16_0, trivial⟩ (Eq.trans (by kernel_rfl) h)
end
noncomputable section
abbrev A_17 : List Ty := [(.slice (.pair (.int .i64) (.pair (.int .i64) (.pair (.int .i64) (.pair (.int .i64) (.pair (.int .i64) (.pair (.int .i64) (.pair .bool (.pair (.int .i64) .unit))))))))), (.slice (.pair (.int .i64) (.pair (.int .i64) (.pair (.int .i64) (.pair (.int .i64) (.pair (.int .i64) (.pair (.int .i64) (.pair .bool (.pair (.int .i64) .unit)))))))))]
abbrev R_17 : List Ty := [.bool]
noncomputable def sm_17 : Nat → Option Summ := smL []
noncomputable def T_17_0 : PS := ⟨26, [(0, .hv (.slice (.pair (.int .i64) (.pair (.int .i64) (.pair (.int .i64) (.pair (.int .i64) (.pair (.int .i64) (.pair (.int .i64) (.pair .bool (.pair (.int .i64) .unit)))))))))), (1, .hv (.slice (.pair (.int .i64) (.pair (.int .i64) (.pair (.int .i64) (.pair (.int .i64) (.pair (.int .i64) (.pair (.int .i64) (.pair .bool (.pair (.int .i64) .unit)))))))))), (5, .hv (.int .i64))], [], 0⟩
inductive Sp.E_17_0 where
 | e0
 | e1
noncomputable def Sp.B_17_0 {R : Type} (r : Option E_17_0) (k0 k1 : Option R) : Option R := match r with
 | none => none
 | some (.e0) => k0
 | some (.e1) => k1
noncomputable def Y_17_0 {R : Type} (k : Ex → St → Option R) : E_17_0 → Option R
 | .e0 => k Ex.ret (sx 26 [(4, CV.bool false)] [])
 | .e1 => k (Ex.exit 0) (sx 26 [] [])
noncomputable def Sp.S_17_0 {R : Type} (K : (List (Int × Int × Int × Int × Int × Int × Bool × Int × Unit)) → (List (Int × Int × Int × Int × Int × Int × Bool × Int × Unit)) → Int → Option R) (k : E_17_0 → Option R) (p0 p1 : List (Int × Int × Int × Int × Int × Int × Bool × Int × Unit)) (p2 : Int) : Option R :=
 bif decide (p2 < (↑(length p0) : Int)) then gd (inB p2 (length p0)) (gd (inB p2 (length p1)) (bif !Ty.beq (Ty.pair (Ty.int i64) (Ty.pair (Ty.int i64) (Ty.pair (Ty.int i64) (Ty.pair (Ty.int i64) (Ty.pair (Ty.int i64) (Ty.pair (Ty.int i64) (Ty.pair Ty.bool (Ty.pair (Ty.int i64) Ty.unit)))))))) (getD p0 (toNat p2) Zd1) (getD p1 (toNat p2) Zd1) then k (E_17_0.e0) else K p0 p1 (wrap i64 (p2 + 1)))) else k (E_17_0.e1)
noncomputable def Sp.L_17_0 : Nat → (List (Int × Int × Int × Int × Int × Int × Bool × Int × Unit)) → (List (Int × Int × Int × Int × Int × Int × Bool × Int × Unit)) → Int → Option E_17_0
 | 0, _, _, _ => none
 | m + 1, p0, p1, p2 => S_17_0 (L_17_0 m) some p0 p1 p2
noncomputable def l_17_0 (m : Nat) (a : T_17_0.E) : Option E_17_0 := L_17_0 m a.1 a.2.1 a.2.2.1
noncomputable def O_17_0 {R : Type} : Orc R := orL T_17_0 (l_17_0 FU) Y_17_0
theorem OK_17_0 {R : Type} : okF (R := R) sm_17 0 (nf 17 0) O_17_0 := lp0 T_17_0 l_17_0 (fun R K k a => S_17_0 (fun p0 p1 p2 => K (p0, p1, p2, ())) k a.1 a.2.1 a.2.2.1) Y_17_0 (fun _ _ _ => by kernel_rfl) (fun _ _ _ => by
 unfold S_17_0
 repeat' first | apply gdN | apply condN | rfl) (ok0 _)
noncomputable def F_17 (a0 : (List (Int × (Int × (Int × (Int × (Int × (Int × (Bool × (Int × Unit)))))))))) (a1 : (List (Int × (Int × (Int × (Int × (Int × (Int × (Bool × (Int × Unit)))))))))) : Option (Bool × Unit) :=
 bif (↑(length a0) : Int) != (↑(length a1) : Int) then some (false, PUnit.unit) else B_17_0 (L_17_0 4611686018427387904 a0 a1 0) (some (false, PUnit.unit)) (some (true, PUnit.unit))
noncomputable def Sp.p_17 (a0 : (List (Int × (Int × (Int × (Int × (Int × (Int × (Bool × (Int × Unit)))))))))) (a1 : (List (Int × (Int × (Int × (Int × (Int × (Int × (Bool × (Int × Unit)))))))))) : Bool := (F_17 a0 a1).isSome
noncomputable def Sp.v_17 (a0 : (List (Int × (Int × (Int × (Int × (Int × (Int × (Bool × (Int × Unit)))))))))) (a1 : (List (Int × (Int × (Int × (Int × (Int × (Int × (Bool × (Int × Unit)))))))))) : Bool × Unit := (F_17 a0 a1).getD (dfH R_17)
noncomputable def s_17 : Summ := shN A_17 R_17 (fun x => p_17 x.1 x.2.1) (fun x => v_17 x.1 x.2.1)
theorem pv_17 (a0 : (List (Int × (Int × (Int × (Int × (Int × (Int × (Bool × (Int × Unit)))))))))) (a1 : (List (Int × (Int × (Int × (Int × (Int × (Int × (Bool × (Int × Unit)))))))))) {y : Bool × Unit} (h : F_17 a0 a1 = some y) : p_17 a0 a1 = true ∧ v_17 a0 a1 = y := pvG h
theorem run_17 (x : HDen A_17) (y : HDen R_17) (h : F_17 x.1 x.2.1 = some y) : rnF sm_17 1 17 A_17 R_17 x y := runG noO_ok (os := [O_17_0]) ⟨OK_17_0, trivial⟩ (Eq.trans (by kernel_rfl) h)
end
noncomputable section
abbrev A_19 : List Ty := [(.pair (.int .i64) (.pair (.int .i64) (.pair (.int .i64) (.pair (.int .i64) (.pair (.int .i64) (.pair (.slice (.int .i64)) (.pair (.int .i64) .unit)))))))]
abbrev R_19 : List Ty := [(.pair (.int .i64) (.pair (.int .i64) (.pair (.int .i64) (.pair (.int .i64) (.pair (.int .i64) (.pair (.slice (.int .i64)) (.pair (.int .i64) .unit)))))))]
noncomputable def sm_19 : Nat → Option Summ := smL [(53, s_53)]
noncomputable def F_19 (a0 : (Int × (Int × (Int × (Int × (Int × ((List Int) × (Int × Unit)))))))) : Option ((Int × (Int × (Int × (Int × (Int × ((List Int) × (Int × Unit))))))) × Unit) :=
 gd (p_53 a0) (bif !(v_53 a0).1 then some ((0, 0, 0, 0, 0, [], 0, PUnit.unit), PUnit.unit) else some ((Sp.andI i64 (a0.1) 22, 0, a0.2.2), PUnit.unit))
noncomputable def Sp.p_19 (a0 : (Int × (Int × (Int × (Int × (Int × ((List Int) × (Int × Unit)))))))) : Bool := (F_19 a0).isSome
noncomputable def Sp.v_19 (a0 : (Int × (Int × (Int × (Int × (Int × ((List Int) × (Int × Unit)))))))) : (Int × (Int × (Int × (Int × (Int × ((List Int) × (Int × Unit))))))) × Unit := (F_19 a0).getD (dfH R_19)
noncomputable def s_19 : Summ := shS A_19 R_19 (fun x => p_19 x.1) (fun x => v_19 x.1)
theorem pv_19 (a0 : (Int × (Int × (Int × (Int × (Int × ((List Int) × (Int × Unit)))))))) {y : (Int × (Int × (Int × (Int × (Int × ((List Int) × (Int × Unit))))))) × Unit} (h : F_19 a0 = some y) : p_19 a0 = true ∧ v_19 a0 = y := pvG h
theorem run_19 (x : HDen A_19) (y : HDen R_19) (h : F_19 x.1 = some y) : rnF sm_19 1 19 A_19 R_19 x y := runG noO_ok (os := []) trivial (Eq.trans (by kernel_rfl) h)
end
noncomputable section
abbrev Zy3_0 : Ty := (.pair (.slice (.pair (.int .i64) (.pair (.int .i64) (.pair (.int .i64) (.pair (.int .i64) (.pair (.int .i64) (.pair (.int .i64) (.pair .bool (.pair (.int .i64) .unit))))))))) (.pair (.slice (.pair (.int .i64) (.pair (.int .i64) (.pair (.int .i64) (.pair (.int .i64) (.pair (.int .i64) (.pair (.slice (.int .i64)) (.pair (.int .i64) .unit)))))))) (.pair (.int .i64) (.pair .bool .unit))))
abbrev A_3 : List Ty := [(.pair (.pair (.slice (.int .u32)) (.pair (.slice (.int .i64)) (.pair (.int .i64) .unit))) (.pair (.int .i64) (.pair (.int .i64) .unit))), (.pair (.slice (.pair (.int .i64) (.pair (.int .i64) (.pair (.int .i64) (.pair (.int .i64) (.pair (.int .i64) (.pair (.int .i64) (.pair .bool (.pair (.int .i64) .unit))))))))) (.pair (.slice (.pair (.int .i64) (.pair (.int .i64) (.pair (.int .i64) (.pair (.int .i64) (.pair (.int .i64) (.pair (.slice (.int .i64)) (.pair (.int .i64) .unit)))))))) (.pair (.int .i64) (.pair .bool .unit)))), (.pair (.slice (.pair (.int .i64) (.pair (.int .i64) (.pair (.int .i64) (.pair (.int .i64) (.pair (.int .i64) (.pair (.int .i64) (.pair .bool (.pair (.int .i64) .unit))))))))) (.pair (.slice (.pair (.int .i64) (.pair (.int .i64) (.pair (.int .i64) (.pair (.int .i64) (.pair (.int .i64) (.pair (.slice (.int .i64)) (.pair (.int .i64) .unit)))))))) (.pair (.int .i64) (.pair .bool .unit))))]
abbrev R_3 : List Ty := [.bool]
noncomputable def sm_3 : Nat → Option Summ := smL [(7, s_7), (8, s_8), (9, s_9), (10, s_10), (11, s_11), (12, s_12), (13, s_13), (14, s_14), (15, s_15), (16, s_16), (17, s_17), (18, s_18), (19, s_19), (20, s_20)]
noncomputable def T_3_1 : PS := ⟨146, [(4, .kc (.ptr 0 [])), (5, .kc (.ptr 1 [])), (9, .hv (.slice (.int .i64))), (10, .hv (.int .i64)), (12, .kc (.whole 2)), (116, .hv (.int .i64)), (117, .hv (.int .i64))], [.mem (.hv Zy3_0), .mem (.hv Zy3_0), .vec 3 (.int .i64)], 0⟩
inductive Sp.E_3_1 where
 | e0 (p0 : List Int) (p1 : Int) (p6 : List Int)
noncomputable def Sp.B_3_1 {R : Type} (r : Option E_3_1) (k0 : List Int → Int → List Int → Option R) : Option R := match r with
 | none => none
 | some (.e0 p0 p1 p6) => k0 p0 p1 p6
theorem Bn_3_1 {A R : Type} {r : Option E_3_1} {f : A → Option R} {k0 : List Int → Int → List Int → Option A} {l0 : List Int → Int → List Int → Option R} (h0 : ∀ p0 p1 p6, (k0 p0 p1 p6).bind f = l0 p0 p1 p6) : (B_3_1 r k0).bind f = B_3_1 r l0 := by
 cases r with
 | none => rfl
 | some e => cases e <;> first | apply h0
noncomputable def Y_3_1 {R : Type} (k : Ex → St → Option R) : E_3_1 → Option R
 | .e0 p0 p1 p6 => k (Ex.exit 1) (sx 146 [(9, CV.pure (Ty.slice (Ty.int i64)) p0), (10, CV.int i64 p1), (12, CV.whole 0)] [Blk.vec 3 (Ty.int i64) p6])
noncomputable def Sp.S_3_1 {R : Type} (K : List Int → Int → Int → Int → (List (Int × Int × Int × Int × Int × Int × Bool × Int × Unit) × List (Int × Int × Int × Int × Int × List Int × Int × Unit) × Int × Bool × Unit) → (List (Int × Int × Int × Int × Int × Int × Bool × Int × Unit) × List (Int × Int × Int × Int × Int × List Int × Int × Unit) × Int × Bool × Unit) → List Int → Option R) (k : E_3_1 → Option R) (p0 : List Int) (p1 p2 p3 : Int) (p4 p5 : List (Int × Int × Int × Int × Int × Int × Bool × Int × Unit) × List (Int × Int × Int × Int × Int × List Int × Int × Unit) × Int × Bool × Unit) (p6 : List Int) : Option R :=
 bif decide (p3 < p2) then gd (inB p3 (length (p4.2.1))) (gd (p_19 (getD (p4.2.1) (toNat p3) Zd0)) (gd (inB p3 (length (p5.2.1))) (gd (p_19 (getD (p5.2.1) (toNat p3) Zd0)) (gd (p_18 ((v_19 (getD (p4.2.1) (toNat p3) Zd0)).1) ((v_19 (getD (p5.2.1) (toNat p3) Zd0)).1)) (bif !(v_18 ((v_19 (getD (p4.2.1) (toNat p3) Zd0)).1) ((v_19 (getD (p5.2.1) (toNat p3) Zd0)).1)).1 then gd (room (length p6 + 1) 8) (K p0 p1 p2 (wrap i64 (p3 + 1)) p4 p5 (p6 ++ [p3])) else K p0 p1 p2 (wrap i64 (p3 + 1)) p4 p5 p6))))) else k (E_3_1.e0 p0 p1 p6)
noncomputable def Sp.L_3_1 : Nat → List Int → Int → Int → Int → (List (Int × Int × Int × Int × Int × Int × Bool × Int × Unit) × List (Int × Int × Int × Int × Int × List Int × Int × Unit) × Int × Bool × Unit) → (List (Int × Int × Int × Int × Int × Int × Bool × Int × Unit) × List (Int × Int × Int × Int × Int × List Int × Int × Unit) × Int × Bool × Unit) → List Int → Option E_3_1
 | 0, _, _, _, _, _, _, _ => none
 | m + 1, p0, p1, p2, p3, p4, p5, p6 => S_3_1 (L_3_1 m) some p0 p1 p2 p3 p4 p5 p6
noncomputable def l_3_1 (m : Nat) (a : T_3_1.E) : Option E_3_1 := L_3_1 m a.1 a.2.1 a.2.2.1 a.2.2.2.1 a.2.2.2.2.1 a.2.2.2.2.2.1 a.2.2.2.2.2.2.1
noncomputable def O_3_1 {R : Type} : Orc R := orL T_3_1 (l_3_1 FU) Y_3_1
theorem OK_3_1 {R : Type} : okF (R := R) sm_3 0 (ni (nf 3 0) 0) O_3_1 := lp0 T_3_1 l_3_1 (fun R K k a => S_3_1 (fun p0 p1 p2 p3 p4 p5 p6 => K (p0, p1, p2, p3, p4, p5, p6, ())) k a.1 a.2.1 a.2.2.1 a.2.2.2.1 a.2.2.2.2.1 a.2.2.2.2.2.1 a.2.2.2.2.2.2.1) Y_3_1 (fun _ _ _ => by kernel_rfl) (fun _ _ _ => by
 unfold S_3_1
 repeat' first | apply gdN | apply condN | rfl) (ok0 _)
noncomputable def T_3_0 : PS := ⟨146, [(4, .kc (.ptr 0 [])), (5, .kc (.ptr 1 [])), (9, .hv (.slice (.int .i64))), (10, .hv (.int .i64))], [.mem (.hv Zy3_0), .mem (.hv Zy3_0)], 0⟩
inductive Sp.E_3_0 where
 | e0 (p1 : Int)
 | e1
 | e2 (y4 : Int)
noncomputable def Sp.B_3_0 {R : Type} (r : Option E_3_0) (k0 : Int → Option R) (k1 : Option R) (k2 : Int → Option R) : Option R := match r with
 | none => none
 | some (.e0 p1) => k0 p1
 | some (.e1) => k1
 | some (.e2 y4) => k2 y4
noncomputable def Y_3_0 {R : Type} (k : Ex → St → Option R) : E_3_0 → Option R
 | .e0 p1 => k Ex.ret (sx 146 [(6, CV.bool (p1 == 1))] [])
 | .e1 => k Ex.ret (sx 146 [(6, CV.bool false)] [])
 | .e2 y4 => k Ex.ret (sx 146 [(6, CV.bool (y4 == 0))] [])
noncomputable def Sp.S_3_0 {R : Type} (k : E_3_0 → Option R) (p0 : List Int) (p1 : Int) (p2 p3 : List (Int × Int × Int × Int × Int × Int × Bool × Int × Unit) × List (Int × Int × Int × Int × Int × List Int × Int × Unit) × Int × Bool × Unit) : Option R :=
 gd (p_16 p2) (bif !(v_16 p2).1 then bif (↑(length p0) : Int) == 0 then k (E_3_0.e0 p1) else k (E_3_0.e1) else gd (p_16 p3) (bif !(v_16 p3).1 then bif (↑(length p0) : Int) == 0 then k (E_3_0.e0 p1) else k (E_3_0.e1) else gd (p_17 (p2.1) (p3.1)) (bif !(v_17 (p2.1) (p3.1)).1 then bif (↑(length p0) : Int) == 0 then k (E_3_0.e0 p1) else k (E_3_0.e1) else B_3_1 (L_3_1 4611686018427387904 p0 p1 (↑(length (p2.2.1)) : Int) 0 p2 p3 []) fun y3 y4 y5 => gd (p_20 y3 y5) (bif (v_20 y3 y5).1 then k (E_3_0.e2 y4) else k (E_3_0.e1)))))
noncomputable def Sp.J_3_0 (p0 : List Int) (p1 : Int) (p2 p3 : List (Int × Int × Int × Int × Int × Int × Bool × Int × Unit) × List (Int × Int × Int × Int × Int × List Int × Int × Unit) × Int × Bool × Unit) : Option E_3_0 := S_3_0 some p0 p1 p2 p3
noncomputable def O_3_0 {R : Type} : Orc R := orL T_3_0 (fun a => J_3_0 a.1 a.2.1 a.2.2.1 a.2.2.2.1) Y_3_0
theorem OK_3_0 {R : Type} : okF (R := R) sm_3 0 (nf 3 0) O_3_0 := jp noO_ok (os := [O_3_1]) ⟨OK_3_1, trivial⟩ T_3_0 (fun R k a => S_3_0 k a.1 a.2.1 a.2.2.1 a.2.2.2.1) Y_3_0 (fun k a => by kernel_rfl) (fun Y a => by
 unfold S_3_0
 repeat' first | apply gdN | apply condN | (apply Bn_3_1 <;> intros) | rfl) (ok0 _)
noncomputable def F_3 (a0 : (((List Int) × ((List Int) × (Int × Unit))) × (Int × (Int × Unit)))) (a1 : ((List (Int × (Int × (Int × (Int × (Int × (Int × (Bool × (Int × Unit))))))))) × ((List (Int × (Int × (Int × (Int × (Int × ((List Int) × (Int × Unit)))))))) × (Int × (Bool × Unit))))) (a2 : ((List (Int × (Int × (Int × (Int × (Int × (Int × (Bool × (Int × Unit))))))))) × ((List (Int × (Int × (Int × (Int × (Int × ((List Int) × (Int × Unit)))))))) × (Int × (Bool × Unit))))) : Option (Bool) :=
 gd p_7 (bif !v_7.1 then gd p_7 (some (v_7.1)) else gd (p_8 a0 a1) (bif !(v_8 a0 a1).1 then gd p_7 (some (v_7.1)) else gd (p_9 a2) (bif !(v_9 a2).1 then gd p_7 (some (v_7.1)) else gd (p_10 a0 (a1.1)) (gd (p_11 a1 a2) (gd (p_12 (a1.1)) (gd (p_13 a0) (bif !(v_13 a0).1 then bif (↑(length ((v_10 a0 (a1.1)).1.2.1)) : Int) != 0 then some false else bif (↑(length ((v_10 a0 (a1.1)).1.1)) : Int) != 0 then some false else bif (v_10 a0 (a1.1)).2.1 != 1 then some false else B_3_0 (J_3_0 ((v_11 a1 a2).1) ((v_11 a1 a2).2.1) a1 a2) (fun y6 => some (y6 == 1)) (some false) fun y7 => some (y7 == 0) else bif (v_12 (a1.1)).1 != 0 then bif (↑(length ((v_10 a0 (a1.1)).1.2.1)) : Int) != 0 then some false else bif (↑(length ((v_10 a0 (a1.1)).1.1)) : Int) != 0 then some false else bif (v_10 a0 (a1.1)).2.1 != (v_12 (a1.1)).1 then some false else B_3_0 (J_3_0 ((v_11 a1 a2).1) ((v_11 a1 a2).2.1) a1 a2) (fun y8 => some (y8 == 1)) (some false) fun y9 => some (y9 == 0) else gd (p_15 a0 (a1.1)) (gd (p_14 ((v_10 a0 (a1.1)).1) ((v_15 a0 (a1.1)).1)) (bif !(v_14 ((v_10 a0 (a1.1)).1) ((v_15 a0 (a1.1)).1)).1 then some false else bif (v_10 a0 (a1.1)).2.1 != 0 then some false else B_3_0 (J_3_0 ((v_11 a1 a2).1) ((v_11 a1 a2).2.1) a1 a2) (fun y10 => some (y10 == 1)) (some false) fun y11 => some (y11 == 0))))))))))
theorem run_3 (a0 : (((List Int) × ((List Int) × (Int × Unit))) × (Int × (Int × Unit)))) (a1 : ((List (Int × (Int × (Int × (Int × (Int × (Int × (Bool × (Int × Unit))))))))) × ((List (Int × (Int × (Int × (Int × (Int × ((List Int) × (Int × Unit)))))))) × (Int × (Bool × Unit))))) (a2 : ((List (Int × (Int × (Int × (Int × (Int × (Int × (Bool × (Int × Unit))))))))) × ((List (Int × (Int × (Int × (Int × (Int × ((List Int) × (Int × Unit)))))))) × (Int × (Bool × Unit))))) {b : Bool} (h : F_3 a0 a1 a2 = some b) : evFn sm_3 fns FU 1 3 (ofH A_3 (a0, a1, a2, ())) [] bk = some b := runG noO_ok (os := [O_3_0]) ⟨OK_3_0, trivial⟩ (Eq.trans (by kernel_rfl) h)
end
end Go.Ev
namespace Go.Proofs
open Go.Shelf
noncomputable def Tryz.clone57_ren : Go.Shelf.Ren := ⟨fun | 41 => 57 | n => n, fun | 22 => 22 | 23 => 51 | 4 => 4 | n => n, fun | n => n⟩
theorem Tryz.clone57 : Go.Proofs.SlLaysE0.n41 Tryz.prog Tryz.clone57_ren := {
 mixed := by kernel_rfl
 f41 := ⟨Tryz.f57.name, by decide, Tryz.func57.trans (congrArg some (by kernel_rfl))⟩
 t4 := Tryz.underlying4
 a4 := Tryz.isAgg4
 z4 := Tryz.sizeOf4
 v4 := Tryz.zeroValue4
 t22 := Tryz.underlying22
 a22 := Tryz.isAgg22
 z22 := Tryz.sizeOf22
 v22 := Tryz.zeroValue22 }
noncomputable def Tryz.clone83_ren : Go.Shelf.Ren := ⟨fun | 41 => 83 | n => n, fun | 22 => 28 | 23 => 63 | 4 => 4 | n => n, fun | n => n⟩
theorem Tryz.clone83 : Go.Proofs.SlLaysE0.n41 Tryz.prog Tryz.clone83_ren := {
 mixed := by kernel_rfl
 f41 := ⟨Tryz.f83.name, by decide, Tryz.func83.trans (congrArg some (by kernel_rfl))⟩
 t4 := Tryz.underlying4
 a4 := Tryz.isAgg4
 z4 := Tryz.sizeOf4
 v4 := Tryz.zeroValue4
 t22 := Tryz.underlying28
 a22 := Tryz.isAgg28
 z22 := Tryz.sizeOf28
 v22 := Tryz.zeroValue28 }
end Go.Proofs
namespace Go.Ev
open Go Go.Proofs Go.RowKit
set_option maxRecDepth 100000
set_option maxHeartbeats 4000000
theorem info57 : ∃ i, Tryz.prog.info? 51 = some i ∧ i.zero = some (.int .u32 0) ∧ i.size = 1 ∧ i.bytes = 4 := ⟨_, rfl, by kernel_rfl, by kernel_rfl, by kernel_rfl⟩
theorem sok_57 : SummOK Tryz.prog 57 (vecS (.int .u32) 51 4) := by
 obtain ⟨i, hi, h0, h1, h2⟩ := info57
 exact clone_vec (by kernel_rfl) (by decide)
   (fun b off n c news w hl hn hb hc h3 => AnyE.slices_Clone Tryz.clone57 i _ 1 4 hi h0 h1 h2 (by kernel_rfl) (by decide) Tryz.sizeOf51 b off n c news w hl hn hb hc h3)
   (fun n c w => AnyE.slices_Clone_nil Tryz.clone57 n c w)
   (fun a c w => clone_zero Tryz.clone57 i _ 1 4 hi h0 h1 h2 (by kernel_rfl) (by decide) Tryz.sizeOf51 a c w)
theorem info83 : ∃ i, Tryz.prog.info? 63 = some i ∧ i.zero = some (.agg #[.int .i64 0, .int .i64 0, .int .i64 0, .int .i64 0, .int .i64 0, .int .i64 0, .bool false, .int .i64 0]) ∧ i.size = 8 ∧ i.bytes = 64 := ⟨_, rfl, by kernel_rfl, by kernel_rfl, by kernel_rfl⟩
theorem sok_83 : SummOK Tryz.prog 83 (vecS (.pair (.int .i64) (.pair (.int .i64) (.pair (.int .i64) (.pair (.int .i64) (.pair (.int .i64) (.pair (.int .i64) (.pair .bool (.pair (.int .i64) .unit)))))))) 63 64) := by
 obtain ⟨i, hi, h0, h1, h2⟩ := info83
 exact clone_vec (by kernel_rfl) (by decide)
   (fun b off n c news w hl hn hb hc h3 => AnyE.slices_Clone Tryz.clone83 i _ 8 64 hi h0 h1 h2 (by kernel_rfl) (by decide) Tryz.sizeOf63 b off n c news w hl hn hb hc h3)
   (fun n c w => AnyE.slices_Clone_nil Tryz.clone83 n c w)
   (fun a c w => clone_zero Tryz.clone83 i _ 8 64 hi h0 h1 h2 (by kernel_rfl) (by decide) Tryz.sizeOf63 a c w)
noncomputable def ins133_ren : Go.Shelf.Ren := ⟨fun | 22 => 133 | 29 => 151 | 30 => 152 | n => n, fun | 9 => 71 | 24 => 66 | n => n, fun | n => n⟩
theorem ins133_lay : InsL Tryz.prog ins133_ren (.agg #[.int .i64 0, .slice none 0 0]) 32 := {
 mixed := by kernel_rfl
 f22 := ⟨Tryz.f133.name, by decide, Tryz.func133.trans (congrArg some (by kernel_rfl))⟩
 f29 := ⟨_, Tryz.func151, by decide, by kernel_rfl, by kernel_rfl, by kernel_rfl⟩
 t0 := Tryz.underlying0
 a0 := Tryz.isAgg0
 z0 := Tryz.sizeOf0
 v0 := Tryz.zeroValue0
 t3 := Tryz.underlying3
 a3 := Tryz.isAgg3
 z3 := Tryz.sizeOf3
 v3 := Tryz.zeroValue3
 t4 := Tryz.underlying4
 a4 := Tryz.isAgg4
 z4 := Tryz.sizeOf4
 v4 := Tryz.zeroValue4
 t24 := Tryz.underlying66
 a24 := Tryz.isAgg66
 z24 := Tryz.sizeOf66
 v24 := Tryz.zeroValue66
 z9 := Tryz.sizeOf71
 i9 := by kernel_rfl
 c9 := by kernel_rfl }
theorem sok_133 : SummOK Tryz.prog 133 (insS (.pair (.int .i64) (.pair (.slice (.int .u32)) .unit)) 71 32) := ins_sum ins133_lay rfl rfl (by kernel_rfl) (by decide) (by decide)
theorem sok_72 : SummOK Tryz.prog 72 s_72 := sokN hm0 run_72 trivial
theorem sok_75 : SummOK Tryz.prog 75 s_75 := sokN hm0 run_75 trivial
theorem sok_34 : SummOK Tryz.prog 34 s_34 := sokS hm0 run_34 ⟨sok_72, sok_75, trivial⟩
theorem sok_35 : SummOK Tryz.prog 35 s_35 := sokN hm0 run_35 trivial
theorem sok_7 : SummOK Tryz.prog 7 s_7 := sokN hm0 run_7 ⟨sok_34, sok_35, trivial⟩
theorem sok_9 : SummOK Tryz.prog 9 s_9 := sokN hm0 run_9 trivial
theorem sok_8 : SummOK Tryz.prog 8 s_8 := sokN hm0 run_8 ⟨sok_9, trivial⟩
theorem sok_96 : SummOK Tryz.prog 96 s_96 := sokN hm0 run_96 trivial
theorem sok_129 : SummOK Tryz.prog 129 s_129 := sokN hm0 run_129 trivial
theorem sok_110 : SummOK Tryz.prog 110 s_110 := sokS hm0 run_110 ⟨sok_96, sok_129, trivial⟩
theorem sok_124 : SummOK Tryz.prog 124 s_124 := sokN hm0 run_124 trivial
theorem sok_141 : SummOK Tryz.prog 141 s_141 := sokN hm0 run_141 ⟨sok_124, trivial⟩
theorem sok_109 : SummOK Tryz.prog 109 s_109 := sokN hm0 run_109 ⟨sok_110, sok_141, trivial⟩
theorem sok_69 : SummOK Tryz.prog 69 s_69 := sokN hm0 run_69 ⟨sok_109, trivial⟩
theorem sok_78 : SummOK Tryz.prog 78 s_78 := sokN hm0 run_78 trivial
theorem sok_79 : SummOK Tryz.prog 79 s_79 := sokN hm0 run_79 trivial
theorem sok_38 : SummOK Tryz.prog 38 s_38 := sokN hm0 run_38 ⟨sok_69, sok_78, sok_79, trivial⟩
theorem sok_84 : SummOK Tryz.prog 84 s_84 := sokN hm0 run_84 trivial
theorem sok_117 : SummOK Tryz.prog 117 s_117 := sokN hm0 run_117 ⟨sok_84, trivial⟩
theorem sok_39 : SummOK Tryz.prog 39 s_39 := sokO hm0 run_39 ⟨sok_82, sok_83, sok_117, trivial⟩
theorem sok_125 : SummOK Tryz.prog 125 s_125 := sokN hm0 run_125 trivial
theorem sok_70 : SummOK Tryz.prog 70 s_70 := sokO hm0 run_70 ⟨sok_57, sok_110, sok_125, sok_133, sok_141, trivial⟩
theorem sok_28 : SummOK Tryz.prog 28 s_28 := sokS hm0 run_28 ⟨sok_38, sok_69, sok_70, trivial⟩
theorem sok_41 : SummOK Tryz.prog 41 s_41 := sokS hm0 run_41 ⟨sok_28, trivial⟩
theorem sok_40 : SummOK Tryz.prog 40 s_40 := sokN hm0 run_40 ⟨sok_41, trivial⟩
theorem sok_42 : SummOK Tryz.prog 42 s_42 := sokS hm0 run_42 ⟨sok_34, trivial⟩
theorem sok_43 : SummOK Tryz.prog 43 s_43 := sokN hm0 run_43 trivial
theorem sok_145 : SummOK Tryz.prog 145 s_145 := sokN hm0 run_145 ⟨sok_84, trivial⟩
theorem sok_118 : SummOK Tryz.prog 118 s_118 := sokN hm0 run_118 ⟨sok_145, trivial⟩
theorem sok_119 : SummOK Tryz.prog 119 s_119 := sokN hm0 run_119 trivial
theorem sok_120 : SummOK Tryz.prog 120 s_120 := sokN hm0 run_120 trivial
theorem sok_85 : SummOK Tryz.prog 85 s_85 := sokN hm0 run_85 ⟨sok_84, sok_118, sok_119, sok_120, trivial⟩
theorem sok_44 : SummOK Tryz.prog 44 s_44 := sokN hm0 run_44 ⟨sok_82, sok_84, sok_85, sok_117, trivial⟩
theorem sok_10 : SummOK Tryz.prog 10 s_10 := sokS hm0 run_10 ⟨sok_38, sok_39, sok_40, sok_41, sok_42, sok_43, sok_44, trivial⟩
theorem sok_45 : SummOK Tryz.prog 45 s_45 := sokN hm0 run_45 trivial
theorem sok_20 : SummOK Tryz.prog 20 s_20 := sokN hm0 run_20 trivial
theorem sok_46 : SummOK Tryz.prog 46 s_46 := sokN hm0 run_46 ⟨sok_20, trivial⟩
theorem sok_47 : SummOK Tryz.prog 47 s_47 := sokS hm0 run_47 ⟨sok_43, trivial⟩
theorem sok_11 : SummOK Tryz.prog 11 s_11 := sokS hm0 run_11 ⟨sok_44, sok_45, sok_46, sok_47, trivial⟩
theorem sok_55 : SummOK Tryz.prog 55 s_55 := sokN hm0 run_55 trivial
theorem sok_48 : SummOK Tryz.prog 48 s_48 := sokN hm0 run_48 ⟨sok_55, trivial⟩
theorem sok_12 : SummOK Tryz.prog 12 s_12 := sokN hm0 run_12 ⟨sok_48, trivial⟩
theorem sok_68 : SummOK Tryz.prog 68 s_68 := sokN hm0 run_68 trivial
theorem sok_27 : SummOK Tryz.prog 27 s_27 := sokN hm0 run_27 ⟨sok_68, trivial⟩
theorem sok_49 : SummOK Tryz.prog 49 s_49 := sokN hm0 run_49 trivial
theorem sok_136 : SummOK Tryz.prog 136 s_136 := sokN hm0 run_136 trivial
theorem sok_121 : SummOK Tryz.prog 121 s_121 := sokN hm0 run_121 ⟨sok_136, trivial⟩
theorem sok_101 : SummOK Tryz.prog 101 s_101 := sokN hm0 run_101 trivial
theorem sok_103 : SummOK Tryz.prog 103 s_103 := sokN hm0 run_103 ⟨sok_101, trivial⟩
theorem sok_122 : SummOK Tryz.prog 122 s_122 := sokN hm0 run_122 ⟨sok_103, trivial⟩
theorem sok_86 : SummOK Tryz.prog 86 s_86 := sokN hm0 run_86 ⟨sok_121, sok_122, trivial⟩
theorem sok_50 : SummOK Tryz.prog 50 s_50 := sokN hm0 run_50 ⟨sok_86, trivial⟩
theorem sok_13 : SummOK Tryz.prog 13 s_13 := sokN hm0 run_13 ⟨sok_27, sok_49, sok_50, trivial⟩
theorem sok_56 : SummOK Tryz.prog 56 s_56 := sokN hm0 run_56 trivial
theorem sok_18 : SummOK Tryz.prog 18 s_18 := sokN hm0 run_18 ⟨sok_56, trivial⟩
theorem sok_14 : SummOK Tryz.prog 14 s_14 := sokN hm0 run_14 ⟨sok_18, trivial⟩
theorem sok_105 : SummOK Tryz.prog 105 s_105 := sokS hm0 run_105 trivial
theorem sok_134 : SummOK Tryz.prog 134 s_134 := sokN hm0 run_134 trivial
theorem sok_135 : SummOK Tryz.prog 135 s_135 := sokN hm0 run_135 trivial
theorem sok_99 : SummOK Tryz.prog 99 s_99 := sokS hm0 run_99 ⟨sok_101, sok_103, sok_105, sok_121, sok_122, sok_134, sok_135, trivial⟩
theorem sok_87 : SummOK Tryz.prog 87 s_87 := sokS hm0 run_87 ⟨sok_50, sok_99, trivial⟩
theorem sok_51 : SummOK Tryz.prog 51 s_51 := sokS hm0 run_51 ⟨sok_87, trivial⟩
theorem sok_123 : SummOK Tryz.prog 123 s_123 := sokN hm0 run_123 trivial
theorem sok_88 : SummOK Tryz.prog 88 s_88 := sokN hm0 run_88 ⟨sok_123, trivial⟩
theorem sok_52 : SummOK Tryz.prog 52 s_52 := sokS hm0 run_52 ⟨sok_88, trivial⟩
theorem sok_53 : SummOK Tryz.prog 53 s_53 := sokN hm0 run_53 trivial
theorem sok_89 : SummOK Tryz.prog 89 s_89 := sokN hm0 run_89 ⟨sok_55, trivial⟩
theorem sok_90 : SummOK Tryz.prog 90 s_90 := sokN hm0 run_90 trivial
theorem sok_54 : SummOK Tryz.prog 54 s_54 := sokN hm0 run_54 ⟨sok_55, sok_89, sok_90, trivial⟩
theorem sok_15 : SummOK Tryz.prog 15 s_15 := sokS hm0 run_15 ⟨sok_51, sok_52, sok_53, sok_54, trivial⟩
theorem sok_16 : SummOK Tryz.prog 16 s_16 := sokN hm0 run_16 ⟨sok_12, sok_54, sok_55, trivial⟩
theorem sok_17 : SummOK Tryz.prog 17 s_17 := sokN hm0 run_17 trivial
theorem sok_19 : SummOK Tryz.prog 19 s_19 := sokS hm0 run_19 ⟨sok_53, trivial⟩
theorem call_3 {R : Type} (n base : Nat) : CallOK Tryz.prog base (rokOf Tryz.prog smB fns) (evFn (R := R) sm_3 fns FU n) := callG hm0 (l := [(7, s_7), (8, s_8), (9, s_9), (10, s_10), (11, s_11), (12, s_12), (13, s_13), (14, s_14), (15, s_15), (16, s_16), (17, s_17), (18, s_18), (19, s_19), (20, s_20)]) ⟨sok_7, sok_8, sok_9, sok_10, sok_11, sok_12, sok_13, sok_14, sok_15, sok_16, sok_17, sok_18, sok_19, sok_20, trivial⟩ n base
end Go.Ev
