/- Helpers: functions of the program as Lean functions, and what they compute. No condition. -/
import Derived.Test.YtfbegeikpjdpiaaG6P0
import Derived.Test.YtfbegeikpjdpiaaProg
import Derived.Test.YtfbegeikpjdpiaaE6P2
set_option maxRecDepth 10000
set_option linter.unusedVariables false
set_option linter.unusedSimpArgs false
open Go.IntKind (wrap i64 i32 i16 i8 u64 u32 u16 u8)
open List (getD length take drop replicate)
open Int (toNat)
open Go.Ev.Sp
namespace Go.Ev
open Go
set_option maxRecDepth 100000
set_option maxHeartbeats 4000000
set_option linter.unusedVariables false
noncomputable section
abbrev A_68 : List Ty := [(.slice (.int .u32)), (.slice (.int .u32))]
abbrev R_68 : List Ty := [.bool]
noncomputable def sm_68 : Nat → Option Summ := smL []
noncomputable def T_68_0 : PS := ⟨26, [(0, .hv (.slice (.int .u32))), (1, .hv (.slice (.int .u32))), (5, .hv (.int .i64))], [], 0⟩
inductive Sp.E_68_0 where
 | e0
 | e1
noncomputable def Sp.B_68_0 {R : Type} (r : Option E_68_0) (k0 k1 : Option R) : Option R := match r with
 | none => none
 | some (.e0) => k0
 | some (.e1) => k1
noncomputable def Y_68_0 {R : Type} (k : Ex → St → Option R) : E_68_0 → Option R
 | .e0 => k Ex.ret (sx 26 [(4, CV.bool false)] [])
 | .e1 => k (Ex.exit 0) (sx 26 [] [])
noncomputable def Sp.S_68_0 {R : Type} (K : List Int → List Int → Int → Option R) (k : E_68_0 → Option R) (p0 p1 : List Int) (p2 : Int) : Option R :=
 bif decide (p2 < (↑(length p0) : Int)) then gd (inB p2 (length p0)) (gd (inB p2 (length p1)) (bif getD p0 (toNat p2) 0 != getD p1 (toNat p2) 0 then k (E_68_0.e0) else K p0 p1 (wrap i64 (p2 + 1)))) else k (E_68_0.e1)
noncomputable def Sp.L_68_0 : Nat → List Int → List Int → Int → Option E_68_0
 | 0, _, _, _ => none
 | m + 1, p0, p1, p2 => S_68_0 (L_68_0 m) some p0 p1 p2
noncomputable def l_68_0 (m : Nat) (a : T_68_0.E) : Option E_68_0 := L_68_0 m a.1 a.2.1 a.2.2.1
noncomputable def O_68_0 {R : Type} : Orc R := orL T_68_0 (l_68_0 FU) Y_68_0
theorem OK_68_0 {R : Type} : okF (R := R) sm_68 0 (nf 68 0) O_68_0 := lp0 T_68_0 l_68_0 (fun R K k a => S_68_0 (fun p0 p1 p2 => K (p0, p1, p2, ())) k a.1 a.2.1 a.2.2.1) Y_68_0 (fun _ _ _ => by kernel_rfl) (fun _ _ _ => by
 unfold S_68_0
 repeat' first | apply gdN | apply condN | rfl) (ok0 _)
noncomputable def F_68 (a0 a1 : (List Int)) : Option (Bool × Unit) :=
 bif (↑(length a0) : Int) != (↑(length a1) : Int) then some (false, PUnit.unit) else B_68_0 (L_68_0 4611686018427387904 a0 a1 0) (some (false, PUnit.unit)) (some (true, PUnit.unit))
noncomputable def Sp.p_68 (a0 a1 : (List Int)) : Bool := (F_68 a0 a1).isSome
noncomputable def Sp.v_68 (a0 a1 : (List Int)) : Bool × Unit := (F_68 a0 a1).getD (dfH R_68)
noncomputable def s_68 : Summ := shN A_68 R_68 (fun x => p_68 x.1 x.2.1) (fun x => v_68 x.1 x.2.1)
theorem pv_68 (a0 a1 : (List Int)) {y : Bool × Unit} (h : F_68 a0 a1 = some y) : p_68 a0 a1 = true ∧ v_68 a0 a1 = y := pvG h
theorem run_68 (x : HDen A_68) (y : HDen R_68) (h : F_68 x.1 x.2.1 = some y) : rnF sm_68 1 68 A_68 R_68 x y := runG noO_ok (os := [O_68_0]) ⟨OK_68_0, trivial⟩ (Eq.trans (by kernel_rfl) h)
end
noncomputable section
abbrev A_33 : List Ty := [(.pair (.pair (.slice (.int .u32)) (.pair (.slice (.int .i64)) (.pair (.int .i64) .unit))) (.pair (.int .i64) (.pair (.int .i64) .unit))), (.pair (.pair (.slice (.int .u32)) (.pair (.slice (.int .i64)) (.pair (.int .i64) .unit))) (.pair (.int .i64) (.pair (.int .i64) .unit)))]
abbrev R_33 : List Ty := [.bool]
noncomputable def sm_33 : Nat → Option Summ := smL [(68, s_68)]
noncomputable def T_33_0 : PS := ⟨66, [(2, .kc (.ptr 0 [])), (3, .kc (.ptr 1 [])), (5, .hv (.int .i64))], [.mem (.hv (.pair (.pair (.slice (.int .u32)) (.pair (.slice (.int .i64)) (.pair (.int .i64) .unit))) (.pair (.int .i64) (.pair (.int .i64) .unit)))), .mem (.hv (.pair (.pair (.slice (.int .u32)) (.pair (.slice (.int .i64)) (.pair (.int .i64) .unit))) (.pair (.int .i64) (.pair (.int .i64) .unit))))], 0⟩
inductive Sp.E_33_0 where
 | e0
 | e1 (p1 p2 : (List Int × List Int × Int × Unit) × Int × Int × Unit)
noncomputable def Sp.B_33_0 {R : Type} (r : Option E_33_0) (k0 : Option R) (k1 : ((List Int × List Int × Int × Unit) × Int × Int × Unit) → ((List Int × List Int × Int × Unit) × Int × Int × Unit) → Option R) : Option R := match r with
 | none => none
 | some (.e0) => k0
 | some (.e1 p1 p2) => k1 p1 p2
noncomputable def Y_33_0 {R : Type} (k : Ex → St → Option R) : E_33_0 → Option R
 | .e0 => k Ex.ret (sx 66 [(4, CV.bool false)] [])
 | .e1 p1 p2 => k (Ex.exit 0) (sx 66 [(2, CV.ptr 0 []), (3, CV.ptr 1 [])] [Blk.mem (CV.pure (Ty.pair (Ty.pair (Ty.slice (Ty.int u32)) (Ty.pair (Ty.slice (Ty.int i64)) (Ty.pair (Ty.int i64) Ty.unit))) (Ty.pair (Ty.int i64) (Ty.pair (Ty.int i64) Ty.unit))) p1), Blk.mem (CV.pure (Ty.pair (Ty.pair (Ty.slice (Ty.int u32)) (Ty.pair (Ty.slice (Ty.int i64)) (Ty.pair (Ty.int i64) Ty.unit))) (Ty.pair (Ty.int i64) (Ty.pair (Ty.int i64) Ty.unit))) p2)])
noncomputable def Sp.S_33_0 {R : Type} (K : Int → ((List Int × List Int × Int × Unit) × Int × Int × Unit) → ((List Int × List Int × Int × Unit) × Int × Int × Unit) → Option R) (k : E_33_0 → Option R) (p0 : Int) (p1 p2 : (List Int × List Int × Int × Unit) × Int × Int × Unit) : Option R :=
 bif decide (p0 < (↑(length (p1.1.2.1)) : Int)) then gd (inB p0 (length (p1.1.2.1))) (gd (inB p0 (length (p2.1.2.1))) (bif getD (p1.1.2.1) (toNat p0) 0 != getD (p2.1.2.1) (toNat p0) 0 then k (E_33_0.e0) else K (wrap i64 (p0 + 1)) p1 p2)) else k (E_33_0.e1 p1 p2)
noncomputable def Sp.L_33_0 : Nat → Int → ((List Int × List Int × Int × Unit) × Int × Int × Unit) → ((List Int × List Int × Int × Unit) × Int × Int × Unit) → Option E_33_0
 | 0, _, _, _ => none
 | m + 1, p0, p1, p2 => S_33_0 (L_33_0 m) some p0 p1 p2
noncomputable def l_33_0 (m : Nat) (a : T_33_0.E) : Option E_33_0 := L_33_0 m a.1 a.2.1 a.2.2.1
noncomputable def O_33_0 {R : Type} : Orc R := orL T_33_0 (l_33_0 FU) Y_33_0
theorem OK_33_0 {R : Type} : okF (R := R) sm_33 0 (nf 33 0) O_33_0 := lp0 T_33_0 l_33_0 (fun R K k a => S_33_0 (fun p0 p1 p2 => K (p0, p1, p2, ())) k a.1 a.2.1 a.2.2.1) Y_33_0 (fun _ _ _ => by kernel_rfl) (fun _ _ _ => by
 unfold S_33_0
 repeat' first | apply gdN | apply condN | rfl) (ok0 _)
noncomputable def F_33 (a0 : (((List Int) × ((List Int) × (Int × Unit))) × (Int × (Int × Unit)))) (a1 : (((List Int) × ((List Int) × (Int × Unit))) × (Int × (Int × Unit)))) : Option (Bool × Unit) :=
 bif a0.2.1 != a1.2.1 then some (false, PUnit.unit) else bif a0.2.2.1 != a1.2.2.1 then some (false, PUnit.unit) else bif a0.1.2.2.1 != a1.1.2.2.1 then some (false, PUnit.unit) else bif (↑(length (a0.1.2.1)) : Int) != (↑(length (a1.1.2.1)) : Int) then some (false, PUnit.unit) else B_33_0 (L_33_0 4611686018427387904 0 a0 a1) (some (false, PUnit.unit)) fun y2 y3 => gd (p_68 (y2.1.1) (y3.1.1)) (some ((v_68 (y2.1.1) (y3.1.1)).1, PUnit.unit))
noncomputable def Sp.p_33 (a0 : (((List Int) × ((List Int) × (Int × Unit))) × (Int × (Int × Unit)))) (a1 : (((List Int) × ((List Int) × (Int × Unit))) × (Int × (Int × Unit)))) : Bool := (F_33 a0 a1).isSome
noncomputable def Sp.v_33 (a0 : (((List Int) × ((List Int) × (Int × Unit))) × (Int × (Int × Unit)))) (a1 : (((List Int) × ((List Int) × (Int × Unit))) × (Int × (Int × Unit)))) : Bool × Unit := (F_33 a0 a1).getD (dfH R_33)
noncomputable def s_33 : Summ := shN A_33 R_33 (fun x => p_33 x.1 x.2.1) (fun x => v_33 x.1 x.2.1)
theorem pv_33 (a0 : (((List Int) × ((List Int) × (Int × Unit))) × (Int × (Int × Unit)))) (a1 : (((List Int) × ((List Int) × (Int × Unit))) × (Int × (Int × Unit)))) {y : Bool × Unit} (h : F_33 a0 a1 = some y) : p_33 a0 a1 = true ∧ v_33 a0 a1 = y := pvG h
theorem run_33 (x : HDen A_33) (y : HDen R_33) (h : F_33 x.1 x.2.1 = some y) : rnF sm_33 1 33 A_33 R_33 x y := runG noO_ok (os := [O_33_0]) ⟨OK_33_0, trivial⟩ (Eq.trans (by kernel_rfl) h)
end
noncomputable section
abbrev A_14 : List Ty := [(.pair (.pair (.slice (.int .u32)) (.pair (.slice (.int .i64)) (.pair (.int .i64) .unit))) (.pair (.int .i64) (.pair (.int .i64) .unit)))]
abbrev R_14 : List Ty := [.bool]
noncomputable def sm_14 : Nat → Option Summ := smL [(33, s_33)]
noncomputable def F_14 (a0 : (((List Int) × ((List Int) × (Int × Unit))) × (Int × (Int × Unit)))) : Option (Bool × Unit) :=
 gd (p_33 a0 (([], [], 0, PUnit.unit), 0, 0, PUnit.unit)) (some ((v_33 a0 (([], [], 0, PUnit.unit), 0, 0, PUnit.unit)).1, PUnit.unit))
noncomputable def Sp.p_14 (a0 : (((List Int) × ((List Int) × (Int × Unit))) × (Int × (Int × Unit)))) : Bool := (F_14 a0).isSome
noncomputable def Sp.v_14 (a0 : (((List Int) × ((List Int) × (Int × Unit))) × (Int × (Int × Unit)))) : Bool × Unit := (F_14 a0).getD (dfH R_14)
noncomputable def s_14 : Summ := shN A_14 R_14 (fun x => p_14 x.1) (fun x => v_14 x.1)
theorem pv_14 (a0 : (((List Int) × ((List Int) × (Int × Unit))) × (Int × (Int × Unit)))) {y : Bool × Unit} (h : F_14 a0 = some y) : p_14 a0 = true ∧ v_14 a0 = y := pvG h
theorem run_14 (x : HDen A_14) (y : HDen R_14) (h : F_14 x.1 = some y) : rnF sm_14 1 14 A_14 R_14 x y := runG noO_ok (os := []) trivial (Eq.trans (by kernel_rfl) h)
end
noncomputable section
abbrev A_23 : List Ty := [(.pair (.pair (.slice (.int .u32)) (.pair (.slice (.int .i64)) (.pair (.int .i64) .unit))) (.pair (.int .i64) (.pair (.int .i64) .unit))), (.pair (.int .i64) (.pair (.int .u32) .unit))]
abbrev R_23 : List Ty := [(.pair (.pair (.slice (.int .u32)) (.pair (.slice (.int .i64)) (.pair (.int .i64) .unit))) (.pair (.int .i64) (.pair (.int .i64) .unit))), (.pair (.int .i64) (.pair (.int .u32) .unit)), (.int .i64)]
noncomputable def sm_23 : Nat → Option Summ := smL [(18, s_18), (44, s_44), (47, s_47), (60, s_60)]
noncomputable def F_23 (a0 : (((List Int) × ((List Int) × (Int × Unit))) × (Int × (Int × Unit)))) (a1 : (Int × (Int × Unit))) : Option ((((List Int) × ((List Int) × (Int × Unit))) × (Int × (Int × Unit))) × (Int × (Int × Unit)) × Int × Unit) :=
 gd (p_18 a0) (bif (v_18 a0).2.1 != 0 then some ((([], [], 0, PUnit.unit), 0, 0, PUnit.unit), (0, 0, PUnit.unit), 1, PUnit.unit) else gd (p_44 a1) (bif !(v_44 a1).1 then some ((([], [], 0, PUnit.unit), 0, 0, PUnit.unit), (0, 0, PUnit.unit), 1, PUnit.unit) else gd (p_60 a0 ((v_18 a0).1)) (bif (v_60 a0 ((v_18 a0).1)).2.1 != 0 then some ((([], [], 0, PUnit.unit), 0, 0, PUnit.unit), (0, 0, PUnit.unit), (v_60 a0 ((v_18 a0).1)).2.1, PUnit.unit) else gd (p_47 a0 ((v_60 a0 ((v_18 a0).1)).1) a1) (some ((v_47 a0 ((v_60 a0 ((v_18 a0).1)).1) a1).1, (v_47 a0 ((v_60 a0 ((v_18 a0).1)).1) a1).2.1, (v_47 a0 ((v_60 a0 ((v_18 a0).1)).1) a1).2.2.1, PUnit.unit)))))
noncomputable def Sp.p_23 (a0 : (((List Int) × ((List Int) × (Int × Unit))) × (Int × (Int × Unit)))) (a1 : (Int × (Int × Unit))) : Bool := (F_23 a0 a1).isSome
noncomputable def Sp.v_23 (a0 : (((List Int) × ((List Int) × (Int × Unit))) × (Int × (Int × Unit)))) (a1 : (Int × (Int × Unit))) : (((List Int) × ((List Int) × (Int × Unit))) × (Int × (Int × Unit))) × (Int × (Int × Unit)) × Int × Unit := (F_23 a0 a1).getD (dfH R_23)
noncomputable def s_23 : Summ := shS A_23 R_23 (fun x => p_23 x.1 x.2.1) (fun x => v_23 x.1 x.2.1)
theorem pv_23 (a0 : (((List Int) × ((List Int) × (Int × Unit))) × (Int × (Int × Unit)))) (a1 : (Int × (Int × Unit))) {y : (((List Int) × ((List Int) × (Int × Unit))) × (Int × (Int × Unit))) × (Int × (Int × Unit)) × Int × Unit} (h : F_23 a0 a1 = some y) : p_23 a0 a1 = true ∧ v_23 a0 a1 = y := pvG h
theorem run_23 (x : HDen A_23) (y : HDen R_23) (h : F_23 x.1 x.2.1 = some y) : rnF sm_23 1 23 A_23 R_23 x y := runG noO_ok (os := []) trivial (Eq.trans (by kernel_rfl) h)
end
noncomputable section
abbrev A_29 : List Ty := [(.slice (.pair (.int .i64) (.pair (.slice (.int .u32)) .unit))), (.slice (.pair (.int .i64) (.pair (.slice (.int .u32)) .unit)))]
abbrev R_29 : List Ty := [.bool]
noncomputable def sm_29 : Nat → Option Summ := smL [(68, s_68)]
noncomputable def T_29_0 : PS := ⟨42, [(0, .hv (.slice (.pair (.int .i64) (.pair (.slice (.int .u32)) .unit)))), (1, .hv (.slice (.pair (.int .i64) (.pair (.slice (.int .u32)) .unit)))), (5, .hv (.int .i64))], [], 0⟩
inductive Sp.E_29_0 where
 | e0
 | e1
noncomputable def Sp.B_29_0 {R : Type} (r : Option E_29_0) (k0 k1 : Option R) : Option R := match r with
 | none => none
 | some (.e0) => k0
 | some (.e1) => k1
noncomputable def Y_29_0 {R : Type} (k : Ex → St → Option R) : E_29_0 → Option R
 | .e0 => k Ex.ret (sx 42 [(4, CV.bool false)] [])
 | .e1 => k (Ex.exit 0) (sx 42 [] [])
noncomputable def Sp.S_29_0 {R : Type} (K : (List (Int × List Int × Unit)) → (List (Int × List Int × Unit)) → Int → Option R) (k : E_29_0 → Option R) (p0 p1 : List (Int × List Int × Unit)) (p2 : Int) : Option R :=
 bif decide (p2 < (↑(length p0) : Int)) then gd (inB p2 (length p0)) (gd (inB p2 (length p1)) (bif (getD p0 (toNat p2) Zd1).1 != (getD p1 (toNat p2) Zd1).1 then k (E_29_0.e0) else gd (inB p2 (length p0)) (gd (inB p2 (length p1)) (gd (p_68 ((getD p0 (toNat p2) Zd1).2.1) ((getD p1 (toNat p2) Zd1).2.1)) (bif !(v_68 ((getD p0 (toNat p2) Zd1).2.1) ((getD p1 (toNat p2) Zd1).2.1)).1 then k (E_29_0.e0) else K p0 p1 (wrap i64 (p2 + 1))))))) else k (E_29_0.e1)
noncomputable def Sp.L_29_0 : Nat → (List (Int × List Int × Unit)) → (List (Int × List Int × Unit)) → Int → Option E_29_0
 | 0, _, _, _ => none
 | m + 1, p0, p1, p2 => S_29_0 (L_29_0 m) some p0 p1 p2
noncomputable def l_29_0 (m : Nat) (a : T_29_0.E) : Option E_29_0 := L_29_0 m a.1 a.2.1 a.2.2.1
noncomputable def O_29_0 {R : Type} : Orc R := orL T_29_0 (l_29_0 FU) Y_29_0
theorem OK_29_0 {R : Type} : okF (R := R) sm_29 0 (nf 29 0) O_29_0 := lp0 T_29_0 l_29_0 (fun R K k a => S_29_0 (fun p0 p1 p2 => K (p0, p1, p2, ())) k a.1 a.2.1 a.2.2.1) Y_29_0 (fun _ _ _ => by kernel_rfl) (fun _ _ _ => by
 unfold S_29_0
 repeat' first | apply gdN | apply condN | rfl) (ok0 _)
noncomputable def F_29 (a0 : (List (Int × ((List Int) × Unit)))) (a1 : (List (Int × ((List Int) × Unit)))) : Option (Bool × Unit) :=
 bif (↑(length a0) : Int) != (↑(length a1) : Int) then some (false, PUnit.unit) else B_29_0 (L_29_0 4611686018427387904 a0 a1 0) (some (false, PUnit.unit)) (some (true, PUnit.unit))
noncomputable def Sp.p_29 (a0 : (List (Int × ((List Int) × Unit)))) (a1 : (List (Int × ((List Int) × Unit)))) : Bool := (F_29 a0 a1).isSome
noncomputable def Sp.v_29 (a0 : (List (Int × ((List Int) × Unit)))) (a1 : (List (Int × ((List Int) × Unit)))) : Bool × Unit := (F_29 a0 a1).getD (dfH R_29)
noncomputable def s_29 : Summ := shN A_29 R_29 (fun x => p_29 x.1 x.2.1) (fun x => v_29 x.1 x.2.1)
theorem pv_29 (a0 : (List (Int × ((List Int) × Unit)))) (a1 : (List (Int × ((List Int) × Unit)))) {y : Bool × Unit} (h : F_29 a0 a1 = some y) : p_29 a0 a1 = true ∧ v_29 a0 a1 = y := pvG h
theorem run_29 (x : HDen A_29) (y : HDen R_29) (h : F_29 x.1 x.2.1 = some y) : rnF sm_29 1 29 A_29 R_29 x y := runG noO_ok (os := [O_29_0]) ⟨OK_29_0, trivial⟩ (Eq.trans (by kernel_rfl) h)
end
noncomputable section
abbrev A_6 : List Ty := [(.pair (.pair (.slice (.int .u32)) (.pair (.slice (.int .i64)) (.pair (.int .i64) .unit))) (.pair (.int .i64) (.pair (.int .i64) .unit)))]
abbrev R_6 : List Ty := [.bool]
noncomputable def sm_6 : Nat → Option Summ := smL [(9, s_9), (10, s_10), (14, s_14), (18, s_18), (23, s_23), (26, s_26), (27, s_27), (28, s_28), (29, s_29)]
noncomputable def T_6_0 : PS := ⟨94, [(1, .kc (.ptr 0 [])), (3, .hv (.slice (.pair (.int .i64) (.pair (.slice (.int .u32)) .unit)))), (8, .hv (.slice (.pair (.int .i64) (.pair (.slice (.int .u32)) .unit)))), (9, .hv (.int .i64)), (10, .hv (.int .i64)), (11, .hv (.int .i64)), (12, .hv (.int .i64)), (61, .hv (.slice (.pair (.int .i64) (.pair (.slice (.int .u32)) .unit)))), (62, .hv (.int .i64)), (63, .hv (.int .i64))], [.mem (.hv (.pair (.pair (.slice (.int .u32)) (.pair (.slice (.int .i64)) (.pair (.int .i64) .unit))) (.pair (.int .i64) (.pair (.int .i64) .unit))))], 0⟩
inductive Sp.E_6_0 where
 | e0 (p0 p1 : List (Int × List Int × Unit)) (p2 p3 p4 p5 : Int) (p9 : (List Int × List Int × Int × Unit) × Int × Int × Unit)
noncomputable def Sp.B_6_0 {R : Type} (r : Option E_6_0) (k0 : (List (Int × List Int × Unit)) → (List (Int × List Int × Unit)) → Int → Int → Int → Int → ((List Int × List Int × Int × Unit) × Int × Int × Unit) → Option R) : Option R := match r with
 | none => none
 | some (.e0 p0 p1 p2 p3 p4 p5 p9) => k0 p0 p1 p2 p3 p4 p5 p9
noncomputable def Y_6_0 {R : Type} (k : Ex → St → Option R) : E_6_0 → Option R
 | .e0 p0 p1 p2 p3 p4 p5 p9 => k (Ex.exit 0) (sx 94 [(1, CV.ptr 0 []), (3, CV.pure (Ty.slice (Ty.pair (Ty.int i64) (Ty.pair (Ty.slice (Ty.int u32)) Ty.unit))) p0), (8, CV.pure (Ty.slice (Ty.pair (Ty.int i64) (Ty.pair (Ty.slice (Ty.int u32)) Ty.unit))) p1), (9, CV.int i64 p2), (10, CV.int i64 p3), (11, CV.int i64 p4), (12, CV.int i64 p5)] [Blk.mem (CV.pure (Ty.pair (Ty.pair (Ty.slice (Ty.int u32)) (Ty.pair (Ty.slice (Ty.int i64)) (Ty.pair (Ty.int i64) Ty.unit))) (Ty.pair (Ty.int i64) (Ty.pair (Ty.int i64) Ty.unit))) p9)])
noncomputable def Sp.S_6_0 {R : Type} (K : (List (Int × List Int × Unit)) → (List (Int × List Int × Unit)) → Int → Int → Int → Int → (List (Int × List Int × Unit)) → Int → Int → ((List Int × List Int × Int × Unit) × Int × Int × Unit) → Option R) (k : E_6_0 → Option R) (p0 p1 : List (Int × List Int × Unit)) (p2 p3 p4 p5 : Int) (p6 : List (Int × List Int × Unit)) (p7 p8 : Int) (p9 : (List Int × List Int × Int × Unit) × Int × Int × Unit) : Option R :=
 bif decide (p8 < p7) then gd (inB p8 (length p6)) (K p0 p1 p2 p3 p4 (wrap i64 (p5 + wrap i64 ((↑(length ((getD p6 (toNat p8) Zd1).2.1)) : Int) + 2))) p6 p7 (wrap i64 (p8 + 1)) p9) else k (E_6_0.e0 p0 p1 p2 p3 p4 p5 p9)
noncomputable def Sp.L_6_0 : Nat → (List (Int × List Int × Unit)) → (List (Int × List Int × Unit)) → Int → Int → Int → Int → (List (Int × List Int × Unit)) → Int → Int → ((List Int × List Int × Int × Unit) × Int × Int × Unit) → Option E_6_0
 | 0, _, _, _, _, _, _, _, _, _, _ => none
 | m + 1, p0, p1, p2, p3, p4, p5, p6, p7, p8, p9 => S_6_0 (L_6_0 m) some p0 p1 p2 p3 p4 p5 p6 p7 p8 p9
noncomputable def l_6_0 (m : Nat) (a : T_6_0.E) : Option E_6_0 := L_6_0 m a.1 a.2.1 a.2.2.1 a.2.2.2.1 a.2.2.2.2.1 a.2.2.2.2.2.1 a.2.2.2.2.2.2.1 a.2.2.2.2.2.2.2.1 a.2.2.2.2.2.2.2.2.1 a.2.2.2.2.2.2.2.2.2.1
noncomputable def O_6_0 {R : Type} : Orc R := orL T_6_0 (l_6_0 FU) Y_6_0
theorem OK_6_0 {R : Type} : okF (R := R) sm_6 0 (nf 6 0) O_6_0 := lp0 T_6_0 l_6_0 (fun R K k a => S_6_0 (fun p0 p1 p2 p3 p4 p5 p6 p7 p8 p9 => K (p0, p1, p2, p3, p4, p5, p6, p7, p8, p9, ())) k a.1 a.2.1 a.2.2.1 a.2.2.2.1 a.2.2.2.2.1 a.2.2.2.2.2.1 a.2.2.2.2.2.2.1 a.2.2.2.2.2.2.2.1 a.2.2.2.2.2.2.2.2.1 a.2.2.2.2.2.2.2.2.2.1) Y_6_0 (fun _ _ _ => by kernel_rfl) (fun _ _ _ => by
 unfold S_6_0
 repeat' first | apply gdN | apply condN | rfl) (ok0 _)
noncomputable def F_6 (a0 : (((List Int) × ((List Int) × (Int × Unit))) × (Int × (Int × Unit)))) : Option (Bool) :=
 gd p_9 (bif !v_9.1 then some false else gd (p_10 (a0.1)) (bif (v_10 (a0.1)).1 then some true else gd (p_26 a0) (bif !(v_26 a0).1 then some true else gd (p_18 a0) (gd p_27 (gd (p_23 a0 (v_27.1)) (bif (v_18 a0).2.1 != 0 then some false else bif (v_23 a0 (v_27.1)).2.2.1 != 0 then gd (p_14 ((v_23 a0 (v_27.1)).1)) (bif (v_14 ((v_23 a0 (v_27.1)).1)).1 then bif (v_23 a0 (v_27.1)).2.2.1 == 5 then some true else some ((v_23 a0 (v_27.1)).2.2.1 == 19) else some false) else gd (p_18 ((v_23 a0 (v_27.1)).1)) (gd (p_28 ((v_23 a0 (v_27.1)).1)) (B_6_0 (L_6_0 4611686018427387904 ((v_18 a0).1) ((v_18 ((v_23 a0 (v_27.1)).1)).1) ((v_18 ((v_23 a0 (v_27.1)).1)).2.1) ((v_28 ((v_23 a0 (v_27.1)).1)).1) ((v_28 ((v_23 a0 (v_27.1)).1)).2.1) 1 ((v_18 a0).1) (↑(length ((v_18 a0).1)) : Int) 0 a0) fun y7 y8 y9 y10 y11 y12 y13 => bif y9 == 0 then bif y11 == 0 then gd (p_29 y7 y8) (bif (v_29 y7 y8).1 then some (y10 == wrap i64 (wrap i64 (32 * y13.2.2.1) - y12)) else some false) else some false else some false))))))))
theorem run_6 (a0 : (((List Int) × ((List Int) × (Int × Unit))) × (Int × (Int × Unit)))) {b : Bool} (h : F_6 a0 = some b) : evFn sm_6 fns FU 1 6 (ofH A_6 (a0, ())) [] bk = some b := runG noO_ok (os := [O_6_0]) ⟨OK_6_0, trivial⟩ (Eq.trans (by kernel_rfl) h)
end
end Go.Ev
namespace Go.Proofs
open Go.Shelf
noncomputable def Try.clone31_ren : Go.Shelf.Ren := ⟨fun | 41 => 31 | n => n, fun | 22 => 22 | 23 => 26 | 4 => 4 | n => n, fun | n => n⟩
theorem Try.clone31 : Go.Proofs.SlLaysE0.n41 Try.prog Try.clone31_ren := {
 mixed := by kernel_rfl
 f41 := ⟨Try.f31.name, by decide, Try.func31.trans (congrArg some (by kernel_rfl))⟩
 t4 := Try.underlying4
 a4 := Try.isAgg4
 z4 := Try.sizeOf4
 v4 := Try.zeroValue4
 t22 := Try.underlying22
 a22 := Try.isAgg22
 z22 := Try.sizeOf22
 v22 := Try.zeroValue22 }
noncomputable def Try.clone90_ren : Go.Shelf.Ren := ⟨fun | 41 => 90 | n => n, fun | 22 => 23 | 23 => 3 | 4 => 4 | n => n, fun | n => n⟩
theorem Try.clone90 : Go.Proofs.SlLaysE0.n41 Try.prog Try.clone90_ren := {
 mixed := by kernel_rfl
 f41 := ⟨Try.f90.name, by decide, Try.func90.trans (congrArg some (by kernel_rfl))⟩
 t4 := Try.underlying4
 a4 := Try.isAgg4
 z4 := Try.sizeOf4
 v4 := Try.zeroValue4
 t22 := Try.underlying23
 a22 := Try.isAgg23
 z22 := Try.sizeOf23
 v22 := Try.zeroValue23 }
end Go.Proofs
namespace Go.Ev
open Go Go.Proofs Go.RowKit
set_option maxRecDepth 100000
set_option maxHeartbeats 4000000
theorem info31 : ∃ i, Try.prog.info? 26 = some i ∧ i.zero = some (.int .u32 0) ∧ i.size = 1 ∧ i.bytes = 4 := ⟨_, rfl, by kernel_rfl, by kernel_rfl, by kernel_rfl⟩
theorem sok_31 : SummOK Try.prog 31 (vecS (.int .u32) 26 4) := by
 obtain ⟨i, hi, h0, h1, h2⟩ := info31
 exact clone_vec (by kernel_rfl) (by decide)
   (fun b off n c news w hl hn hb hc h3 => AnyE.slices_Clone Try.clone31 i _ 1 4 hi h0 h1 h2 (by kernel_rfl) (by decide) Try.sizeOf26 b off n c news w hl hn hb hc h3)
   (fun n c w => AnyE.slices_Clone_nil Try.clone31 n c w)
   (fun a c w => clone_zero Try.clone31 i _ 1 4 hi h0 h1 h2 (by kernel_rfl) (by decide) Try.sizeOf26 a c w)
theorem info90 : ∃ i, Try.prog.info? 3 = some i ∧ i.zero = some (.int .i64 0) ∧ i.size = 1 ∧ i.bytes = 8 := ⟨_, rfl, by kernel_rfl, by kernel_rfl, by kernel_rfl⟩
theorem sok_90 : SummOK Try.prog 90 (vecS (.int .i64) 3 8) := by
 obtain ⟨i, hi, h0, h1, h2⟩ := info90
 exact clone_vec (by kernel_rfl) (by decide)
   (fun b off n c news w hl hn hb hc h3 => AnyE.slices_Clone Try.clone90 i _ 1 8 hi h0 h1 h2 (by kernel_rfl) (by decide) Try.sizeOf3 b off n c news w hl hn hb hc h3)
   (fun n c w => AnyE.slices_Clone_nil Try.clone90 n c w)
   (fun a c w => clone_zero Try.clone90 i _ 1 8 hi h0 h1 h2 (by kernel_rfl) (by decide) Try.sizeOf3 a c w)
noncomputable def ins86_ren : Go.Shelf.Ren := ⟨fun | 22 => 86 | 29 => 103 | 30 => 104 | n => n, fun | 9 => 59 | 24 => 43 | n => n, fun | n => n⟩
theorem ins86_lay : InsL Try.prog ins86_ren (.agg #[.int .i64 0, .slice none 0 0]) 32 := {
 mixed := by kernel_rfl
 f22 := ⟨Try.f86.name, by decide, Try.func86.trans (congrArg some (by kernel_rfl))⟩
 f29 := ⟨_, Try.func103, by decide, by kernel_rfl, by kernel_rfl, by kernel_rfl⟩
 t0 := Try.underlying0
 a0 := Try.isAgg0
 z0 := Try.sizeOf0
 v0 := Try.zeroValue0
 t3 := Try.underlying3
 a3 := Try.isAgg3
 z3 := Try.sizeOf3
 v3 := Try.zeroValue3
 t4 := Try.underlying4
 a4 := Try.isAgg4
 z4 := Try.sizeOf4
 v4 := Try.zeroValue4
 t24 := Try.underlying43
 a24 := Try.isAgg43
 z24 := Try.sizeOf43
 v24 := Try.zeroValue43
 z9 := Try.sizeOf59
 i9 := by kernel_rfl
 c9 := by kernel_rfl }
theorem sok_86 : SummOK Try.prog 86 (insS (.pair (.int .i64) (.pair (.slice (.int .u32)) .unit)) 59 32) := ins_sum ins86_lay rfl rfl (by kernel_rfl) (by decide) (by decide)
theorem sok_43 : SummOK Try.prog 43 s_43 := sokN hm0 run_43 trivial
theorem sok_45 : SummOK Try.prog 45 s_45 := sokN hm0 run_45 trivial
theorem sok_49 : SummOK Try.prog 49 s_49 := sokN hm0 run_49 trivial
theorem sok_83 : SummOK Try.prog 83 s_83 := sokN hm0 run_83 trivial
theorem sok_78 : SummOK Try.prog 78 s_78 := sokS hm0 run_78 ⟨sok_49, sok_83, trivial⟩
theorem sok_50 : SummOK Try.prog 50 s_50 := sokN hm0 run_50 trivial
theorem sok_100 : SummOK Try.prog 100 s_100 := sokN hm0 run_100 ⟨sok_50, trivial⟩
theorem sok_77 : SummOK Try.prog 77 s_77 := sokN hm0 run_77 ⟨sok_78, sok_100, trivial⟩
theorem sok_57 : SummOK Try.prog 57 s_57 := sokN hm0 run_57 ⟨sok_77, trivial⟩
theorem sok_26 : SummOK Try.prog 26 s_26 := sokN hm0 run_26 ⟨sok_43, sok_45, sok_57, trivial⟩
theorem sok_44 : SummOK Try.prog 44 s_44 := sokN hm0 run_44 trivial
theorem sok_69 : SummOK Try.prog 69 s_69 := sokS hm0 run_69 ⟨sok_31, sok_90, trivial⟩
theorem sok_93 : SummOK Try.prog 93 s_93 := sokN hm0 run_93 ⟨sok_43, trivial⟩
theorem sok_73 : SummOK Try.prog 73 s_73 := sokS hm0 run_73 ⟨sok_31, sok_90, sok_93, trivial⟩
theorem sok_74 : SummOK Try.prog 74 s_74 := sokS hm0 run_74 ⟨sok_31, sok_90, sok_93, trivial⟩
theorem sok_47 : SummOK Try.prog 47 s_47 := sokS hm0 run_47 ⟨sok_69, sok_73, sok_74, trivial⟩
theorem sok_48 : SummOK Try.prog 48 s_48 := sokS hm0 run_48 trivial
theorem sok_82 : SummOK Try.prog 82 s_82 := sokN hm0 run_82 trivial
theorem sok_58 : SummOK Try.prog 58 s_58 := sokO hm0 run_58 ⟨sok_31, sok_78, sok_82, sok_86, sok_100, trivial⟩
theorem sok_59 : SummOK Try.prog 59 s_59 := sokS hm0 run_59 ⟨sok_50, sok_82, trivial⟩
theorem sok_46 : SummOK Try.prog 46 s_46 := sokO hm0 run_46 trivial
theorem sok_60 : SummOK Try.prog 60 s_60 := sokS hm0 run_60 ⟨sok_46, sok_48, sok_49, sok_50, sok_57, sok_59, sok_77, sok_83, trivial⟩
theorem sok_19 : SummOK Try.prog 19 s_19 := sokS hm0 run_19 ⟨sok_26, sok_31, sok_44, sok_47, sok_48, sok_49, sok_57, sok_58, sok_59, sok_60, sok_86, trivial⟩
theorem sok_27 : SummOK Try.prog 27 s_27 := sokN hm0 run_27 trivial
theorem sok_28 : SummOK Try.prog 28 s_28 := sokN hm0 run_28 ⟨sok_26, sok_57, sok_58, trivial⟩
theorem sok_34 : SummOK Try.prog 34 s_34 := sokN hm0 run_34 trivial
theorem sok_18 : SummOK Try.prog 18 s_18 := sokS hm0 run_18 ⟨sok_26, sok_57, sok_58, trivial⟩
theorem sok_36 : SummOK Try.prog 36 s_36 := sokS hm0 run_36 ⟨sok_18, trivial⟩
theorem sok_11 : SummOK Try.prog 11 s_11 := sokS hm0 run_11 ⟨sok_43, sok_44, sok_45, sok_46, sok_47, sok_48, sok_49, sok_50, trivial⟩
theorem sok_108 : SummOK Try.prog 108 s_108 := sokN hm0 run_108 trivial
theorem sok_109 : SummOK Try.prog 109 s_109 := sokN hm0 run_109 trivial
theorem sok_105 : SummOK Try.prog 105 s_105 := sokN hm0 run_105 ⟨sok_108, sok_109, trivial⟩
theorem sok_91 : SummOK Try.prog 91 s_91 := sokS hm0 run_91 ⟨sok_105, trivial⟩
theorem sok_70 : SummOK Try.prog 70 s_70 := sokS hm0 run_70 ⟨sok_91, trivial⟩
theorem sok_41 : SummOK Try.prog 41 s_41 := sokS hm0 run_41 ⟨sok_11, sok_26, sok_27, sok_70, trivial⟩
theorem sok_9 : SummOK Try.prog 9 s_9 := sokN hm0 run_9 ⟨sok_19, sok_27, sok_28, sok_34, sok_36, sok_41, trivial⟩
theorem sok_10 : SummOK Try.prog 10 s_10 := sokN hm0 run_10 trivial
theorem sok_68 : SummOK Try.prog 68 s_68 := sokN hm0 run_68 trivial
theorem sok_33 : SummOK Try.prog 33 s_33 := sokN hm0 run_33 ⟨sok_68, trivial⟩
theorem sok_14 : SummOK Try.prog 14 s_14 := sokN hm0 run_14 ⟨sok_33, trivial⟩
theorem sok_23 : SummOK Try.prog 23 s_23 := sokS hm0 run_23 ⟨sok_18, sok_44, sok_47, sok_60, trivial⟩
theorem sok_29 : SummOK Try.prog 29 s_29 := sokN hm0 run_29 ⟨sok_68, trivial⟩
theorem call_6 {R : Type} (n base : Nat) : CallOK Try.prog base (rokOf Try.prog smB fns) (evFn (R := R) sm_6 fns FU n) := callG hm0 (l := [(9, s_9), (10, s_10), (14, s_14), (18, s_18), (23, s_23), (26, s_26), (27, s_27), (28, s_28), (29, s_29)]) ⟨sok_9, sok_10, sok_14, sok_18, sok_23, sok_26, sok_27, sok_28, sok_29, trivial⟩ n base
end Go.Ev
