/- Helpers: functions of the program as Lean functions, and what they compute. No condition. -/
import Derived.Test.YtfbegeikpjdpiaaG3P0
import Derived.Test.YtfbegeikpjdpiaaProg
import Derived.Test.YtfbegeikpjdpiaaE3P2
set_option maxRecDepth 10000
set_option linter.unusedVariables false
set_option linter.unusedSimpArgs false
open Go.IntKind (wrap i64 i32 i16 i8 u64 u32 u16 u8)
open List (getD length take drop replicate)
open Int (toNat)
open Go.Ev.Sp
namespace Go.Ev
open Go
set_option maxRecDepth 100000
set_option maxHeartbeats 4000000
set_option linter.unusedVariables false
noncomputable section
abbrev A_12 : List Ty := [(.pair (.slice (.int .u32)) (.pair (.slice (.int .i64)) (.pair (.int .i64) .unit)))]
abbrev R_12 : List Ty := [.bool]
noncomputable def sm_12 : Nat → Option Summ := smL [(51, s_51)]
noncomputable def T_12_0 : PS := ⟨49, [(1, .kc (.ptr 0 [])), (3, .hv (.int .i64)), (4, .hv (.int .i64))], [.mem (.hv (.pair (.slice (.int .u32)) (.pair (.slice (.int .i64)) (.pair (.int .i64) .unit))))], 0⟩
inductive Sp.E_12_0 where
 | e0
 | e1
noncomputable def Sp.B_12_0 {R : Type} (r : Option E_12_0) (k0 k1 : Option R) : Option R := match r with
 | none => none
 | some (.e0) => k0
 | some (.e1) => k1
noncomputable def Y_12_0 {R : Type} (k : Ex → St → Option R) : E_12_0 → Option R
 | .e0 => k Ex.ret (sx 49 [(2, CV.bool false)] [])
 | .e1 => k (Ex.exit 0) (sx 49 [] [])
noncomputable def Sp.S_12_0 {R : Type} (K : Int → Int → (List Int × List Int × Int × Unit) → Option R) (k : E_12_0 → Option R) (p0 p1 : Int) (p2 : List Int × List Int × Int × Unit) : Option R :=
 bif decide (p1 < p0) then gd (inB p1 (length (p2.2.1))) (bif decide (getD (p2.2.1) (toNat p1) (0 :Int) < (0 :Int)) then k (E_12_0.e0) else gd (inB p1 (length (p2.2.1))) (bif decide (getD (p2.2.1) (toNat p1) 0 > p2.2.2.1) then k (E_12_0.e0) else K p0 (wrap i64 (p1 + 1)) p2)) else k (E_12_0.e1)
noncomputable def Sp.L_12_0 : Nat → Int → Int → (List Int × List Int × Int × Unit) → Option E_12_0
 | 0, _, _, _ => none
 | m + 1, p0, p1, p2 => S_12_0 (L_12_0 m) some p0 p1 p2
noncomputable def l_12_0 (m : Nat) (a : T_12_0.E) : Option E_12_0 := L_12_0 m a.1 a.2.1 a.2.2.1
noncomputable def O_12_0 {R : Type} : Orc R := orL T_12_0 (l_12_0 FU) Y_12_0
theorem OK_12_0 {R : Type} : okF (R := R) sm_12 0 (nf 12 0) O_12_0 := lp0 T_12_0 l_12_0 (fun R K k a => S_12_0 (fun p0 p1 p2 => K (p0, p1, p2, ())) k a.1 a.2.1 a.2.2.1) Y_12_0 (fun _ _ _ => by kernel_rfl) (fun _ _ _ => by
 unfold S_12_0
 repeat' first | apply gdN | apply condN | rfl) (ok0 _)
noncomputable def F_12 (a0 : ((List Int) × ((List Int) × (Int × Unit)))) : Option (Bool × Unit) :=
 bif decide ((↑(length (a0.2.1)) : Int) < 1) then some (false, PUnit.unit) else bif decide ((↑(length (a0.2.1)) : Int) > 64) then some (false, PUnit.unit) else bif (↑(length (a0.1)) : Int) != wrap i64 ((↑(length (a0.2.1)) : Int) * 64) then some (false, PUnit.unit) else gd (p_51 (a0.2.2.1)) (bif !(v_51 (a0.2.2.1)).1 then some (false, PUnit.unit) else B_12_0 (L_12_0 4611686018427387904 (↑(length (a0.2.1)) : Int) 0 a0) (some (false, PUnit.unit)) (some (true, PUnit.unit)))
noncomputable def Sp.p_12 (a0 : ((List Int) × ((List Int) × (Int × Unit)))) : Bool := (F_12 a0).isSome
noncomputable def Sp.v_12 (a0 : ((List Int) × ((List Int) × (Int × Unit)))) : Bool × Unit := (F_12 a0).getD (dfH R_12)
noncomputable def s_12 : Summ := shN A_12 R_12 (fun x => p_12 x.1) (fun x => v_12 x.1)
theorem pv_12 (a0 : ((List Int) × ((List Int) × (Int × Unit)))) {y : Bool × Unit} (h : F_12 a0 = some y) : p_12 a0 = true ∧ v_12 a0 = y := pvG h
theorem run_12 (x : HDen A_12) (y : HDen R_12) (h : F_12 x.1 = some y) : rnF sm_12 1 12 A_12 R_12 x y := runG noO_ok (os := [O_12_0]) ⟨OK_12_0, trivial⟩ (Eq.trans (by kernel_rfl) h)
end
noncomputable section
abbrev A_13 : List Ty := [(.pair (.int .i64) (.pair (.int .u32) .unit))]
abbrev R_13 : List Ty := [.bool]
noncomputable def sm_13 : Nat → Option Summ := smL []
noncomputable def F_13 (a0 : (Int × (Int × Unit))) : Option (Bool × Unit) :=
 bif decide (a0.1 ≥ 0) then some (decide (a0.1 ≤ 1099511627776), PUnit.unit) else some (false, PUnit.unit)
noncomputable def Sp.p_13 (a0 : (Int × (Int × Unit))) : Bool := (F_13 a0).isSome
noncomputable def Sp.v_13 (a0 : (Int × (Int × Unit))) : Bool × Unit := (F_13 a0).getD (dfH R_13)
noncomputable def s_13 : Summ := shN A_13 R_13 (fun x => p_13 x.1) (fun x => v_13 x.1)
theorem pv_13 (a0 : (Int × (Int × Unit))) {y : Bool × Unit} (h : F_13 a0 = some y) : p_13 a0 = true ∧ v_13 a0 = y := pvG h
theorem run_13 (x : HDen A_13) (y : HDen R_13) (h : F_13 x.1 = some y) : rnF sm_13 1 13 A_13 R_13 x y := runG noO_ok (os := []) trivial (Eq.trans (by kernel_rfl) h)
end
noncomputable section
abbrev A_68 : List Ty := [(.slice (.int .u32)), (.slice (.int .u32))]
abbrev R_68 : List Ty := [.bool]
noncomputable def sm_68 : Nat → Option Summ := smL []
noncomputable def T_68_0 : PS := ⟨26, [(0, .hv (.slice (.int .u32))), (1, .hv (.slice (.int .u32))), (5, .hv (.int .i64))], [], 0⟩
inductive Sp.E_68_0 where
 | e0
 | e1
noncomputable def Sp.B_68_0 {R : Type} (r : Option E_68_0) (k0 k1 : Option R) : Option R := match r with
 | none => none
 | some (.e0) => k0
 | some (.e1) => k1
noncomputable def Y_68_0 {R : Type} (k : Ex → St → Option R) : E_68_0 → Option R
 | .e0 => k Ex.ret (sx 26 [(4, CV.bool false)] [])
 | .e1 => k (Ex.exit 0) (sx 26 [] [])
noncomputable def Sp.S_68_0 {R : Type} (K : List Int → List Int → Int → Option R) (k : E_68_0 → Option R) (p0 p1 : List Int) (p2 : Int) : Option R :=
 bif decide (p2 < (↑(length p0) : Int)) then gd (inB p2 (length p0)) (gd (inB p2 (length p1)) (bif getD p0 (toNat p2) 0 != getD p1 (toNat p2) 0 then k (E_68_0.e0) else K p0 p1 (wrap i64 (p2 + 1)))) else k (E_68_0.e1)
noncomputable def Sp.L_68_0 : Nat → List Int → List Int → Int → Option E_68_0
 | 0, _, _, _ => none
 | m + 1, p0, p1, p2 => S_68_0 (L_68_0 m) some p0 p1 p2
noncomputable def l_68_0 (m : Nat) (a : T_68_0.E) : Option E_68_0 := L_68_0 m a.1 a.2.1 a.2.2.1
noncomputable def O_68_0 {R : Type} : Orc R := orL T_68_0 (l_68_0 FU) Y_68_0
theorem OK_68_0 {R : Type} : okF (R := R) sm_68 0 (nf 68 0) O_68_0 := lp0 T_68_0 l_68_0 (fun R K k a => S_68_0 (fun p0 p1 p2 => K (p0, p1, p2, ())) k a.1 a.2.1 a.2.2.1) Y_68_0 (fun _ _ _ => by kernel_rfl) (fun _ _ _ => by
 unfold S_68_0
 repeat' first | apply gdN | apply condN | rfl) (ok0 _)
noncomputable def F_68 (a0 a1 : (List Int)) : Option (Bool × Unit) :=
 bif (↑(length a0) : Int) != (↑(length a1) : Int) then some (false, PUnit.unit) else B_68_0 (L_68_0 4611686018427387904 a0 a1 0) (some (false, PUnit.unit)) (some (true, PUnit.unit))
noncomputable def Sp.p_68 (a0 a1 : (List Int)) : Bool := (F_68 a0 a1).isSome
noncomputable def Sp.v_68 (a0 a1 : (List Int)) : Bool × Unit := (F_68 a0 a1).getD (dfH R_68)
noncomputable def s_68 : Summ := shN A_68 R_68 (fun x => p_68 x.1 x.2.1) (fun x => v_68 x.1 x.2.1)
theorem pv_68 (a0 a1 : (List Int)) {y : Bool × Unit} (h : F_68 a0 a1 = some y) : p_68 a0 a1 = true ∧ v_68 a0 a1 = y := pvG h
theorem run_68 (x : HDen A_68) (y : HDen R_68) (h : F_68 x.1 x.2.1 = some y) : rnF sm_68 1 68 A_68 R_68 x y := runG noO_ok (os := [O_68_0]) ⟨OK_68_0, trivial⟩ (Eq.trans (by kernel_rfl) h)
end
noncomputable section
abbrev A_33 : List Ty := [(.pair (.pair (.slice (.int .u32)) (.pair (.slice (.int .i64)) (.pair (.int .i64) .unit))) (.pair (.int .i64) (.pair (.int .i64) .unit))), (.pair (.pair (.slice (.int .u32)) (.pair (.slice (.int .i64)) (.pair (.int .i64) .unit))) (.pair (.int .i64) (.pair (.int .i64) .unit)))]
abbrev R_33 : List Ty := [.bool]
noncomputable def sm_33 : Nat → Option Summ := smL [(68, s_68)]
noncomputable def T_33_0 : PS := ⟨66, [(2, .kc (.ptr 0 [])), (3, .kc (.ptr 1 [])), (5, .hv (.int .i64))], [.mem (.hv (.pair (.pair (.slice (.int .u32)) (.pair (.slice (.int .i64)) (.pair (.int .i64) .unit))) (.pair (.int .i64) (.pair (.int .i64) .unit)))), .mem (.hv (.pair (.pair (.slice (.int .u32)) (.pair (.slice (.int .i64)) (.pair (.int .i64) .unit))) (.pair (.int .i64) (.pair (.int .i64) .unit))))], 0⟩
inductive Sp.E_33_0 where
 | e0
 | e1 (p1 p2 : (List Int × List Int × Int × Unit) × Int × Int × Unit)
noncomputable def Sp.B_33_0 {R : Type} (r : Option E_33_0) (k0 : Option R) (k1 : ((List Int × List Int × Int × Unit) × Int × Int × Unit) → ((List Int × List Int × Int × Unit) × Int × Int × Unit) → Option R) : Option R := match r with
 | none => none
 | some (.e0) => k0
 | some (.e1 p1 p2) => k1 p1 p2
noncomputable def Y_33_0 {R : Type} (k : Ex → St → Option R) : E_33_0 → Option R
 | .e0 => k Ex.ret (sx 66 [(4, CV.bool false)] [])
 | .e1 p1 p2 => k (Ex.exit 0) (sx 66 [(2, CV.ptr 0 []), (3, CV.ptr 1 [])] [Blk.mem (CV.pure (Ty.pair (Ty.pair (Ty.slice (Ty.int u32)) (Ty.pair (Ty.slice (Ty.int i64)) (Ty.pair (Ty.int i64) Ty.unit))) (Ty.pair (Ty.int i64) (Ty.pair (Ty.int i64) Ty.unit))) p1), Blk.mem (CV.pure (Ty.pair (Ty.pair (Ty.slice (Ty.int u32)) (Ty.pair (Ty.slice (Ty.int i64)) (Ty.pair (Ty.int i64) Ty.unit))) (Ty.pair (Ty.int i64) (Ty.pair (Ty.int i64) Ty.unit))) p2)])
noncomputable def Sp.S_33_0 {R : Type} (K : Int → ((List Int × List Int × Int × Unit) × Int × Int × Unit) → ((List Int × List Int × Int × Unit) × Int × Int × Unit) → Option R) (k : E_33_0 → Option R) (p0 : Int) (p1 p2 : (List Int × List Int × Int × Unit) × Int × Int × Unit) : Option R :=
 bif decide (p0 < (↑(length (p1.1.2.1)) : Int)) then gd (inB p0 (length (p1.1.2.1))) (gd (inB p0 (length (p2.1.2.1))) (bif getD (p1.1.2.1) (toNat p0) 0 != getD (p2.1.2.1) (toNat p0) 0 then k (E_33_0.e0) else K (wrap i64 (p0 + 1)) p1 p2)) else k (E_33_0.e1 p1 p2)
noncomputable def Sp.L_33_0 : Nat → Int → ((List Int × List Int × Int × Unit) × Int × Int × Unit) → ((List Int × List Int × Int × Unit) × Int × Int × Unit) → Option E_33_0
 | 0, _, _, _ => none
 | m + 1, p0, p1, p2 => S_33_0 (L_33_0 m) some p0 p1 p2
noncomputable def l_33_0 (m : Nat) (a : T_33_0.E) : Option E_33_0 := L_33_0 m a.1 a.2.1 a.2.2.1
noncomputable def O_33_0 {R : Type} : Orc R := orL T_33_0 (l_33_0 FU) Y_33_0
theorem OK_33_0 {R : Type} : okF (R := R) sm_33 0 (nf 33 0) O_33_0 := lp0 T_33_0 l_33_0 (fun R K k a => S_33_0 (fun p0 p1 p2 => K (p0, p1, p2, ())) k a.1 a.2.1 a.2.2.1) Y_33_0 (fun _ _ _ => by kernel_rfl) (fun _ _ _ => by
 unfold S_33_0
 repeat' first | apply gdN | apply condN | rfl) (ok0 _)
noncomputable def F_33 (a0 : (((List Int) × ((List Int) × (Int × Unit))) × (Int × (Int × Unit)))) (a1 : (((List Int) × ((List Int) × (Int × Unit))) × (Int × (Int × Unit)))) : Option (Bool × Unit) :=
 bif a0.2.1 != a1.2.1 then some (false, PUnit.unit) else bif a0.2.2.1 != a1.2.2.1 then some (false, PUnit.unit) else bif a0.1.2.2.1 != a1.1.2.2.1 then some (false, PUnit.unit) else bif (↑(length (a0.1.2.1)) : Int) != (↑(length (a1.1.2.1)) : Int) then some (false, PUnit.unit) else B_33_0 (L_33_0 4611686018427387904 0 a0 a1) (some (false, PUnit.unit)) fun y2 y3 => gd (p_68 (y2.1.1) (y3.1.1)) (some ((v_68 (y2.1.1) (y3.1.1)).1, PUnit.unit))
noncomputable def Sp.p_33 (a0 : (((List Int) × ((List Int) × (Int × Unit))) × (Int × (Int × Unit)))) (a1 : (((List Int) × ((List Int) × (Int × Unit))) × (Int × (Int × Unit)))) : Bool := (F_33 a0 a1).isSome
noncomputable def Sp.v_33 (a0 : (((List Int) × ((List Int) × (Int × Unit))) × (Int × (Int × Unit)))) (a1 : (((List Int) × ((List Int) × (Int × Unit))) × (Int × (Int × Unit)))) : Bool × Unit := (F_33 a0 a1).getD (dfH R_33)
noncomputable def s_33 : Summ := shN A_33 R_33 (fun x => p_33 x.1 x.2.1) (fun x => v_33 x.1 x.2.1)
theorem pv_33 (a0 : (((List Int) × ((List Int) × (Int × Unit))) × (Int × (Int × Unit)))) (a1 : (((List Int) × ((List Int) × (Int × Unit))) × (Int × (Int × Unit)))) {y : Bool × Unit} (h : F_33 a0 a1 = some y) : p_33 a0 a1 = true ∧ v_33 a0 a1 = y := pvG h
theorem run_33 (x : HDen A_33) (y : HDen R_33) (h : F_33 x.1 x.2.1 = some y) : rnF sm_33 1 33 A_33 R_33 x y := runG noO_ok (os := [O_33_0]) ⟨OK_33_0, trivial⟩ (Eq.trans (by kernel_rfl) h)
end
noncomputable section
abbrev A_14 : List Ty := [(.pair (.pair (.slice (.int .u32)) (.pair (.slice (.int .i64)) (.pair (.int .i64) .unit))) (.pair (.int .i64) (.pair (.int .i64) .unit)))]
abbrev R_14 : List Ty := [.bool]
noncomputable def sm_14 : Nat → Option Summ := smL [(33, s_33)]
noncomputable def F_14 (a0 : (((List Int) × ((List Int) × (Int × Unit))) × (Int × (Int × Unit)))) : Option (Bool × Unit) :=
 gd (p_33 a0 (([], [], 0, PUnit.unit), 0, 0, PUnit.unit)) (some ((v_33 a0 (([], [], 0, PUnit.unit), 0, 0, PUnit.unit)).1, PUnit.unit))
noncomputable def Sp.p_14 (a0 : (((List Int) × ((List Int) × (Int × Unit))) × (Int × (Int × Unit)))) : Bool := (F_14 a0).isSome
noncomputable def Sp.v_14 (a0 : (((List Int) × ((List Int) × (Int × Unit))) × (Int × (Int × Unit)))) : Bool × Unit := (F_14 a0).getD (dfH R_14)
noncomputable def s_14 : Summ := shN A_14 R_14 (fun x => p_14 x.1) (fun x => v_14 x.1)
theorem pv_14 (a0 : (((List Int) × ((List Int) × (Int × Unit))) × (Int × (Int × Unit)))) {y : Bool × Unit} (h : F_14 a0 = some y) : p_14 a0 = true ∧ v_14 a0 = y := pvG h
theorem run_14 (x : HDen A_14) (y : HDen R_14) (h : F_14 x.1 = some y) : rnF sm_14 1 14 A_14 R_14 x y := runG noO_ok (os := []) trivial (Eq.trans (by kernel_rfl) h)
end
noncomputable section
abbrev A_15 : List Ty := [(.pair (.slice (.int .u32)) (.pair (.slice (.int .i64)) (.pair (.int .i64) .unit))), (.int .i64), (.int .i64)]
abbrev R_15 : List Ty := [.bool]
noncomputable def sm_15 : Nat → Option Summ := smL []
noncomputable def F_15 (a0 : ((List Int) × ((List Int) × (Int × Unit)))) (a1 a2 : Int) : Option (Bool × Unit) :=
 bif decide (a2 < 2) then some (false, PUnit.unit) else bif decide (a2 > 16) then some (false, PUnit.unit) else bif Int.tmod a2 (2 :Int) != (0 :Int) then some (false, PUnit.unit) else bif decide (a1 < 0) then some (false, PUnit.unit) else some (decide (a1 ≤ wrap i64 ((↑(length (a0.2.1)) : Int) - a2)), PUnit.unit)
noncomputable def Sp.p_15 (a0 : ((List Int) × ((List Int) × (Int × Unit)))) (a1 a2 : Int) : Bool := (F_15 a0 a1 a2).isSome
noncomputable def Sp.v_15 (a0 : ((List Int) × ((List Int) × (Int × Unit)))) (a1 a2 : Int) : Bool × Unit := (F_15 a0 a1 a2).getD (dfH R_15)
noncomputable def s_15 : Summ := shN A_15 R_15 (fun x => p_15 x.1 x.2.1 x.2.2.1) (fun x => v_15 x.1 x.2.1 x.2.2.1)
theorem pv_15 (a0 : ((List Int) × ((List Int) × (Int × Unit)))) (a1 a2 : Int) {y : Bool × Unit} (h : F_15 a0 a1 a2 = some y) : p_15 a0 a1 a2 = true ∧ v_15 a0 a1 a2 = y := pvG h
theorem run_15 (x : HDen A_15) (y : HDen R_15) (h : F_15 x.1 x.2.1 x.2.2.1 = some y) : rnF sm_15 1 15 A_15 R_15 x y := runG noO_ok (os := []) trivial (Eq.trans (by kernel_rfl) h)
end
noncomputable section
abbrev A_52 : List Ty := [(.pair (.slice (.int .u32)) (.pair (.slice (.int .i64)) (.pair (.int .i64) .unit))), (.int .i64), (.int .i64)]
abbrev R_52 : List Ty := [.bool]
noncomputable def sm_52 : Nat → Option Summ := smL []
noncomputable def T_52_0 : PS := ⟨23, [(1, .hv (.int .i64)), (2, .hv (.int .i64)), (3, .kc (.ptr 0 [])), (7, .hv (.int .i64))], [.mem (.hv (.pair (.slice (.int .u32)) (.pair (.slice (.int .i64)) (.pair (.int .i64) .unit))))], 0⟩
inductive Sp.E_52_0 where
 | e0
 | e1
noncomputable def Sp.B_52_0 {R : Type} (r : Option E_52_0) (k0 k1 : Option R) : Option R := match r with
 | none => none
 | some (.e0) => k0
 | some (.e1) => k1
noncomputable def Y_52_0 {R : Type} (k : Ex → St → Option R) : E_52_0 → Option R
 | .e0 => k Ex.ret (sx 23 [(6, CV.bool true)] [])
 | .e1 => k (Ex.exit 0) (sx 23 [] [])
noncomputable def Sp.S_52_0 {R : Type} (K : Int → Int → Int → (List Int × List Int × Int × Unit) → Option R) (k : E_52_0 → Option R) (p0 p1 p2 : Int) (p3 : List Int × List Int × Int × Unit) : Option R :=
 bif decide (p2 < p1) then gd (inB (wrap i64 (p0 + p2)) (length (p3.2.1))) (bif getD (p3.2.1) (toNat (wrap i64 (p0 + p2))) 0 == p3.2.2.1 then k (E_52_0.e0) else K p0 p1 (wrap i64 (p2 + 1)) p3) else k (E_52_0.e1)
noncomputable def Sp.L_52_0 : Nat → Int → Int → Int → (List Int × List Int × Int × Unit) → Option E_52_0
 | 0, _, _, _, _ => none
 | m + 1, p0, p1, p2, p3 => S_52_0 (L_52_0 m) some p0 p1 p2 p3
noncomputable def l_52_0 (m : Nat) (a : T_52_0.E) : Option E_52_0 := L_52_0 m a.1 a.2.1 a.2.2.1 a.2.2.2.1
noncomputable def O_52_0 {R : Type} : Orc R := orL T_52_0 (l_52_0 FU) Y_52_0
theorem OK_52_0 {R : Type} : okF (R := R) sm_52 0 (nf 52 0) O_52_0 := lp0 T_52_0 l_52_0 (fun R K k a => S_52_0 (fun p0 p1 p2 p3 => K (p0, p1, p2, p3, ())) k a.1 a.2.1 a.2.2.1 a.2.2.2.1) Y_52_0 (fun _ _ _ => by kernel_rfl) (fun _ _ _ => by
 unfold S_52_0
 repeat' first | apply gdN | apply condN | rfl) (ok0 _)
noncomputable def F_52 (a0 : ((List Int) × ((List Int) × (Int × Unit)))) (a1 a2 : Int) : Option (Bool × Unit) :=
 B_52_0 (L_52_0 4611686018427387904 a1 a2 0 a0) (some (true, PUnit.unit)) (some (false, PUnit.unit))
noncomputable def Sp.p_52 (a0 : ((List Int) × ((List Int) × (Int × Unit)))) (a1 a2 : Int) : Bool := (F_52 a0 a1 a2).isSome
noncomputable def Sp.v_52 (a0 : ((List Int) × ((List Int) × (Int × Unit)))) (a1 a2 : Int) : Bool × Unit := (F_52 a0 a1 a2).getD (dfH R_52)
noncomputable def s_52 : Summ := shN A_52 R_52 (fun x => p_52 x.1 x.2.1 x.2.2.1) (fun x => v_52 x.1 x.2.1 x.2.2.1)
theorem pv_52 (a0 : ((List Int) × ((List Int) × (Int × Unit)))) (a1 a2 : Int) {y : Bool × Unit} (h : F_52 a0 a1 a2 = some y) : p_52 a0 a1 a2 = true ∧ v_52 a0 a1 a2 = y := pvG h
theorem run_52 (x : HDen A_52) (y : HDen R_52) (h : F_52 x.1 x.2.1 x.2.2.1 = some y) : rnF sm_52 1 52 A_52 R_52 x y := runG noO_ok (os := [O_52_0]) ⟨OK_52_0, trivial⟩ (Eq.trans (by kernel_rfl) h)
end
noncomputable section
abbrev A_53 : List Ty := [(.int .i64), (.int .i64)]
abbrev R_53 : List Ty := [(.slice (.pair .bool (.pair (.int .i64) (.pair (.int .u32) .unit))))]
noncomputable def sm_53 : Nat → Option Summ := smL []
noncomputable def T_53_0 : PS := ⟨20, [(0, .hv (.int .i64)), (1, .hv (.int .i64)), (5, .kc (.whole 0)), (6, .hv (.int .i64))], [.vec 87 (.pair .bool (.pair (.int .i64) (.pair (.int .u32) .unit)))], 0⟩
inductive Sp.E_53_0 where
 | e0 (p3 : List (Bool × Int × Int × Unit))
noncomputable def Sp.B_53_0 {R : Type} (r : Option E_53_0) (k0 : (List (Bool × Int × Int × Unit)) → Option R) : Option R := match r with
 | none => none
 | some (.e0 p3) => k0 p3
noncomputable def Y_53_0 {R : Type} (k : Ex → St → Option R) : E_53_0 → Option R
 | .e0 p3 => k (Ex.exit 0) (sx 20 [(5, CV.whole 0)] [Blk.vec 87 (Ty.pair Ty.bool (Ty.pair (Ty.int i64) (Ty.pair (Ty.int u32) Ty.unit))) p3])
noncomputable def Sp.S_53_0 {R : Type} (K : Int → Int → Int → (List (Bool × Int × Int × Unit)) → Option R) (k : E_53_0 → Option R) (p0 p1 p2 : Int) (p3 : List (Bool × Int × Int × Unit)) : Option R :=
 bif decide (p2 < p1) then gd (room (length p3 + 1) 24) (K p0 p1 (wrap i64 (p2 + 1)) (p3 ++ [(true, wrap i64 (p0 + p2), 0, PUnit.unit)])) else k (E_53_0.e0 p3)
noncomputable def Sp.L_53_0 : Nat → Int → Int → Int → (List (Bool × Int × Int × Unit)) → Option E_53_0
 | 0, _, _, _, _ => none
 | m + 1, p0, p1, p2, p3 => S_53_0 (L_53_0 m) some p0 p1 p2 p3
noncomputable def l_53_0 (m : Nat) (a : T_53_0.E) : Option E_53_0 := L_53_0 m a.1 a.2.1 a.2.2.1 a.2.2.2.1
noncomputable def O_53_0 {R : Type} : Orc R := orL T_53_0 (l_53_0 FU) Y_53_0
theorem OK_53_0 {R : Type} : okF (R := R) sm_53 0 (nf 53 0) O_53_0 := lp0 T_53_0 l_53_0 (fun R K k a => S_53_0 (fun p0 p1 p2 p3 => K (p0, p1, p2, p3, ())) k a.1 a.2.1 a.2.2.1 a.2.2.2.1) Y_53_0 (fun _ _ _ => by kernel_rfl) (fun _ _ _ => by
 unfold S_53_0
 repeat' first | apply gdN | apply condN | rfl) (ok0 _)
noncomputable def F_53 (a0 a1 : Int) : Option ((List (Bool × (Int × (Int × Unit)))) × Unit) :=
 B_53_0 (L_53_0 4611686018427387904 a0 a1 0 []) fun y1 => some (y1, PUnit.unit)
noncomputable def Sp.p_53 (a0 a1 : Int) : Bool := (F_53 a0 a1).isSome
noncomputable def Sp.v_53 (a0 a1 : Int) : (List (Bool × (Int × (Int × Unit)))) × Unit := (F_53 a0 a1).getD (dfH R_53)
noncomputable def s_53 : Summ := ownS A_53 87 [] (.slice (.pair .bool (.pair (.int .i64) (.pair (.int .u32) .unit)))) [] (fun x => p_53 x.1 x.2.1) (fun x => v_53 x.1 x.2.1)
theorem pv_53 (a0 a1 : Int) {y : (List (Bool × (Int × (Int × Unit)))) × Unit} (h : F_53 a0 a1 = some y) : p_53 a0 a1 = true ∧ v_53 a0 a1 = y := pvG h
theorem run_53 (x : HDen A_53) (y : HDen R_53) (h : F_53 x.1 x.2.1 = some y) : evFn sm_53 fns FU 1 53 (ofH A_53 x) [] (ownK 87 [] (.slice (.pair .bool (.pair (.int .i64) (.pair (.int .u32) .unit)))) []) = some y := runG noO_ok (os := [O_53_0]) ⟨OK_53_0, trivial⟩ (Eq.trans (by kernel_rfl) h)
end
noncomputable section
abbrev A_64 : List Ty := [(.pair (.pair (.slice (.int .u32)) (.pair (.slice (.int .i64)) (.pair (.int .i64) .unit))) (.pair (.int .i64) (.pair (.int .i64) .unit)))]
abbrev R_64 : List Ty := [(.int .i64)]
noncomputable def sm_64 : Nat → Option Summ := smL []
noncomputable def F_64 (a0 : (((List Int) × ((List Int) × (Int × Unit))) × (Int × (Int × Unit)))) : Option (Int × Unit) :=
 some (wrap i64 (Int.tdiv (wrap i64 (64 * a0.2.2.1)) 2), PUnit.unit)
noncomputable def Sp.p_64 (a0 : (((List Int) × ((List Int) × (Int × Unit))) × (Int × (Int × Unit)))) : Bool := (F_64 a0).isSome
noncomputable def Sp.v_64 (a0 : (((List Int) × ((List Int) × (Int × Unit))) × (Int × (Int × Unit)))) : Int × Unit := (F_64 a0).getD (dfH R_64)
noncomputable def s_64 : Summ := shN A_64 R_64 (fun x => p_64 x.1) (fun x => v_64 x.1)
theorem pv_64 (a0 : (((List Int) × ((List Int) × (Int × Unit))) × (Int × (Int × Unit)))) {y : Int × Unit} (h : F_64 a0 = some y) : p_64 a0 = true ∧ v_64 a0 = y := pvG h
theorem run_64 (x : HDen A_64) (y : HDen R_64) (h : F_64 x.1 = some y) : rnF sm_64 1 64 A_64 R_64 x y := runG noO_ok (os := []) trivial (Eq.trans (by kernel_rfl) h)
end
noncomputable section
abbrev A_54 : List Ty := [(.pair (.pair (.slice (.int .u32)) (.pair (.slice (.int .i64)) (.pair (.int .i64) .unit))) (.pair (.int .i64) (.pair (.int .i64) .unit))), (.int .i64)]
abbrev R_54 : List Ty := [(.int .i64)]
noncomputable def sm_54 : Nat → Option Summ := smL [(64, s_64)]
noncomputable def F_54 (a0 : (((List Int) × ((List Int) × (Int × Unit))) × (Int × (Int × Unit)))) (a1 : Int) : Option (Int × Unit) :=
 gd (p_64 a0) (some (wrap i64 (wrap i64 (64 * a0.2.1) + wrap i64 (a1 * (v_64 a0).1)), PUnit.unit))
noncomputable def Sp.p_54 (a0 : (((List Int) × ((List Int) × (Int × Unit))) × (Int × (Int × Unit)))) (a1 : Int) : Bool := (F_54 a0 a1).isSome
noncomputable def Sp.v_54 (a0 : (((List Int) × ((List Int) × (Int × Unit))) × (Int × (Int × Unit)))) (a1 : Int) : Int × Unit := (F_54 a0 a1).getD (dfH R_54)
noncomputable def s_54 : Summ := shN A_54 R_54 (fun x => p_54 x.1 x.2.1) (fun x => v_54 x.1 x.2.1)
theorem pv_54 (a0 : (((List Int) × ((List Int) × (Int × Unit))) × (Int × (Int × Unit)))) (a1 : Int) {y : Int × Unit} (h : F_54 a0 a1 = some y) : p_54 a0 a1 = true ∧ v_54 a0 a1 = y := pvG h
theorem run_54 (x : HDen A_54) (y : HDen R_54) (h : F_54 x.1 x.2.1 = some y) : rnF sm_54 1 54 A_54 R_54 x y := runG noO_ok (os := []) trivial (Eq.trans (by kernel_rfl) h)
end
noncomputable section
abbrev A_55 : List Ty := [(.int .i64)]
abbrev R_55 : List Ty := [(.int .u32)]
noncomputable def sm_55 : Nat → Option Summ := smL []
noncomputable def F_55 (a0 : Int) : Option (Int × Unit) :=
 some (Sp.orI u32 (wrap u32 (wrap u32 a0 * 65536)) (wrap u32 (wrap i64 (65535 - a0))), PUnit.unit)
noncomputable def Sp.p_55 (a0 : Int) : Bool := (F_55 a0).isSome
noncomputable def Sp.v_55 (a0 : Int) : Int × Unit := (F_55 a0).getD (dfH R_55)
noncomputable def s_55 : Summ := shN A_55 R_55 (fun x => p_55 x.1) (fun x => v_55 x.1)
theorem pv_55 (a0 : Int) {y : Int × Unit} (h : F_55 a0 = some y) : p_55 a0 = true ∧ v_55 a0 = y := pvG h
theorem run_55 (x : HDen A_55) (y : HDen R_55) (h : F_55 x.1 = some y) : rnF sm_55 1 55 A_55 R_55 x y := runG noO_ok (os := []) trivial (Eq.trans (by kernel_rfl) h)
end
noncomputable section
abbrev A_16 : List Ty := [(.pair (.pair (.slice (.int .u32)) (.pair (.slice (.int .i64)) (.pair (.int .i64) .unit))) (.pair (.int .i64) (.pair (.int .i64) .unit)))]
abbrev R_16 : List Ty := [(.slice (.pair .bool (.pair (.int .i64) (.pair (.int .u32) .unit)))), (.int .i64)]
noncomputable def sm_16 : Nat → Option Summ := smL [(52, s_52), (53, s_53), (54, s_54), (55, s_55)]
noncomputable def F_16 (a0 : (((List Int) × ((List Int) × (Int × Unit))) × (Int × (Int × Unit)))) : Option ((List (Bool × (Int × (Int × Unit)))) × Int × Unit) :=
 gd (p_52 (a0.1) (a0.2.1) (a0.2.2.1)) (bif (v_52 (a0.1) (a0.2.1) (a0.2.2.1)).1 then some ([], 19, PUnit.unit) else gd (p_53 (a0.2.1) (a0.2.2.1)) (gd (p_54 a0 0) (gd (p_55 1) (gd (room (length ((v_53 (a0.2.1) (a0.2.2.1)).1) + 1) 24) (some ((v_53 (a0.2.1) (a0.2.2.1)).1 ++ [(false, (v_54 a0 0).1, (v_55 1).1, PUnit.unit)], 0, PUnit.unit))))))
noncomputable def Sp.p_16 (a0 : (((List Int) × ((List Int) × (Int × Unit))) × (Int × (Int × Unit)))) : Bool := (F_16 a0).isSome
noncomputable def Sp.v_16 (a0 : (((List Int) × ((List Int) × (Int × Unit))) × (Int × (Int × Unit)))) : (List (Bool × (Int × (Int × Unit)))) × Int × Unit := (F_16 a0).getD (dfH R_16)
noncomputable def s_16 : Summ := shS A_16 R_16 (fun x => p_16 x.1) (fun x => v_16 x.1)
theorem pv_16 (a0 : (((List Int) × ((List Int) × (Int × Unit))) × (Int × (Int × Unit)))) {y : (List (Bool × (Int × (Int × Unit)))) × Int × Unit} (h : F_16 a0 = some y) : p_16 a0 = true ∧ v_16 a0 = y := pvG h
theorem run_16 (x : HDen A_16) (y : HDen R_16) (h : F_16 x.1 = some y) : rnF sm_16 1 16 A_16 R_16 x y := runG noO_ok (os := []) trivial (Eq.trans (by kernel_rfl) h)
end
noncomputable section
abbrev A_106 : List Ty := [(.pair (.int .i64) (.pair (.int .u32) .unit))]
abbrev R_106 : List Ty := [(.int .u32), (.pair (.int .i64) (.pair (.int .u32) .unit)), (.int .i64)]
noncomputable def sm_106 : Nat → Option Summ := smL []
noncomputable def T_106_0 : PS := ⟨23, [(1, .kc (.ptr 0 [])), (3, .kc (.ptr 1 [])), (5, .hv (.int .u32)), (6, .hv (.int .i64))], [.mem (.hv (.pair (.int .i64) (.pair (.int .u32) .unit))), .mem (.hv (.pair (.int .i64) (.pair (.int .u32) .unit)))], 0⟩
inductive Sp.E_106_0 where
 | e0 (p1 : Int) (p2 : Int × Int × Unit)
 | e1 (p0 p1 : Int) (p2 : Int × Int × Unit)
noncomputable def Sp.B_106_0 {R : Type} (r : Option E_106_0) (k0 : Int → (Int × Int × Unit) → Option R) (k1 : Int → Int → (Int × Int × Unit) → Option R) : Option R := match r with
 | none => none
 | some (.e0 p1 p2) => k0 p1 p2
 | some (.e1 p0 p1 p2) => k1 p0 p1 p2
noncomputable def Y_106_0 {R : Type} (k : Ex → St → Option R) : E_106_0 → Option R
 | .e0 p1 p2 => k Ex.ret (sx 23 [(2, CV.int u32 0), (3, CV.ptr 0 []), (4, CV.int i64 p1)] [Blk.mem (CV.pure (Ty.pair (Ty.int i64) (Ty.pair (Ty.int u32) Ty.unit)) ((if wrap i64 (p2.1 - 1) > 0 then wrap i64 (p2.1 - 1) else 0, p2.2) : (Int × (Int × Unit))))])
 | .e1 p0 p1 p2 => k Ex.ret (sx 23 [(2, CV.int u32 p0), (3, CV.ptr 0 []), (4, CV.int i64 p1)] [Blk.mem (CV.pure (Ty.pair (Ty.int i64) (Ty.pair (Ty.int u32) Ty.unit)) ((if wrap i64 (p2.1 - 1) > 0 then wrap i64 (p2.1 - 1) else 0, p2.2) : (Int × (Int × Unit))))])
noncomputable def Sp.S_106_0 {R : Type} (k : E_106_0 → Option R) (p0 p1 : Int) (p2 p3 : Int × Int × Unit) : Option R :=
 bif decide (p2.1 < 1) then k (E_106_0.e0 p1 p2) else k (E_106_0.e1 p0 p1 p2)
noncomputable def Sp.J_106_0 (p0 p1 : Int) (p2 p3 : Int × Int × Unit) : Option E_106_0 := S_106_0 some p0 p1 p2 p3
noncomputable def O_106_0 {R : Type} : Orc R := orL T_106_0 (fun a => J_106_0 a.1 a.2.1 a.2.2.1 a.2.2.2.1) Y_106_0
theorem OK_106_0 {R : Type} : okF (R := R) sm_106 0 (nf 106 0) O_106_0 := jp noO_ok (os := []) trivial T_106_0 (fun R k a => S_106_0 k a.1 a.2.1 a.2.2.1 a.2.2.2.1) Y_106_0 (fun k a => by kernel_rfl) (fun Y a => by
 unfold S_106_0
 repeat' first | apply gdN | apply condN | rfl) (ok0 _)
noncomputable def F_106 (a0 : (Int × (Int × Unit))) : Option (Int × (Int × (Int × Unit)) × Int × Unit) :=
 bif decide (a0.1 < 2) then B_106_0 (J_106_0 (a0.2.1) 18 a0 (0, 0, PUnit.unit)) (fun y12 y13 => some (0, (if wrap i64 (y13.1 - 1) > 0 then wrap i64 (y13.1 - 1) else 0, y13.2), y12, PUnit.unit)) fun y14 y15 y16 => some (y14, (if wrap i64 (y16.1 - 1) > 0 then wrap i64 (y16.1 - 1) else 0, y16.2), y15, PUnit.unit) else B_106_0 (J_106_0 4294967295 0 a0 (0, 0, PUnit.unit)) (fun y17 y18 => some (0, (if wrap i64 (y18.1 - 1) > 0 then wrap i64 (y18.1 - 1) else 0, y18.2), y17, PUnit.unit)) fun y19 y20 y21 => some (y19, (if wrap i64 (y21.1 - 1) > 0 then wrap i64 (y21.1 - 1) else 0, y21.2), y20, PUnit.unit)
noncomputable def Sp.p_106 (a0 : (Int × (Int × Unit))) : Bool := (F_106 a0).isSome
noncomputable def Sp.v_106 (a0 : (Int × (Int × Unit))) : Int × (Int × (Int × Unit)) × Int × Unit := (F_106 a0).getD (dfH R_106)
noncomputable def s_106 : Summ := shN A_106 R_106 (fun x => p_106 x.1) (fun x => v_106 x.1)
theorem pv_106 (a0 : (Int × (Int × Unit))) {y : Int × (Int × (Int × Unit)) × Int × Unit} (h : F_106 a0 = some y) : p_106 a0 = true ∧ v_106 a0 = y := pvG h
theorem run_106 (x : HDen A_106) (y : HDen R_106) (h : F_106 x.1 = some y) : rnF sm_106 1 106 A_106 R_106 x y := runG noO_ok (os := [O_106_0]) ⟨OK_106_0, trivial⟩ (Eq.trans (by kernel_rfl) h)
end
noncomputable section
abbrev Zt98_0 : Type := Int × Int × Unit
abbrev Zt98_1 : Type := List Int × List Int × Int × Unit
abbrev Zy98_2 : Ty := (.pair (.int .i64) (.pair (.int .u32) .unit))
abbrev Zy98_3 : Ty := (.pair (.slice (.int .u32)) (.pair (.slice (.int .i64)) (.pair (.int .i64) .unit)))
abbrev A_98 : List Ty := [(.pair (.slice (.int .u32)) (.pair (.slice (.int .i64)) (.pair (.int .i64) .unit))), (.int .i64), (.pair (.int .i64) (.pair (.int .u32) .unit))]
abbrev R_98 : List Ty := [(.pair (.slice (.int .u32)) (.pair (.slice (.int .i64)) (.pair (.int .i64) .unit))), (.pair (.int .i64) (.pair (.int .u32) .unit)), (.int .i64)]
noncomputable def sm_98 : Nat → Option Summ := smL [(12, s_12), (13, s_13), (106, s_106)]
noncomputable def T_98_30_0_0 : PS := ⟨44, [(1, .kc (.ptr 5 [])), (2, .kc (.ptr 6 [])), (3, .kc (.ptr 9 [])), (4, .hv (.int .i64))], [.mem (.hv Zy98_3), .mem (.hv Zy98_2), .mem (.pr (.kc (.nil 26 (.int .u32))) (.pr (.kc (.nil 3 (.int .i64))) (.hv (.pair (.int .i64) .unit)))), .mem (.hv Zy98_2), .mem (.hv Zy98_2), .mem (.hv Zy98_3), .mem (.pr (.kc (.whole 7)) (.pr (.kc (.whole 8)) (.hv (.pair (.int .i64) .unit)))), .vec 26 (.int .u32), .vec 3 (.int .i64), .mem (.pr (.kc (.whole 10)) (.pr (.kc (.whole 11)) (.hv (.pair (.int .i64) .unit)))), .vec 26 (.int .u32), .vec 3 (.int .i64)], 5⟩
inductive Sp.E_98_30_0_0 where
 | e0 (p1 : Zt98_1) (p2 : Zt98_0) (p3 : Int × Unit) (p4 p5 : Zt98_0) (p6 : Zt98_1) (p7 : Int × Unit) (p8 p9 : List Int) (p10 : Int × Unit) (p11 p12 : List Int)
noncomputable def Sp.B_98_30_0_0 {R : Type} (r : Option E_98_30_0_0) (k0 : Zt98_1 → Zt98_0 → (Int × Unit) → Zt98_0 → Zt98_0 → Zt98_1 → (Int × Unit) → List Int → List Int → (Int × Unit) → List Int → List Int → Option R) : Option R := match r with
 | none => none
 | some (.e0 p1 p2 p3 p4 p5 p6 p7 p8 p9 p10 p11 p12) => k0 p1 p2 p3 p4 p5 p6 p7 p8 p9 p10 p11 p12
noncomputable def Y_98_30_0_0 {R : Type} (k : Ex → St → Option R) : E_98_30_0_0 → Option R
 | .e0 p1 p2 p3 p4 p5 p6 p7 p8 p9 p10 p11 p12 => k (Ex.exit 0) (sx 44 [(1, CV.ptr 5 []), (2, CV.ptr 6 []), (3, CV.ptr 9 [])] [Blk.mem (CV.pure (Ty.pair (Ty.slice (Ty.int u32)) (Ty.pair (Ty.slice (Ty.int i64)) (Ty.pair (Ty.int i64) Ty.unit))) p1), Blk.mem (CV.pure (Ty.pair (Ty.int i64) (Ty.pair (Ty.int u32) Ty.unit)) p2), Blk.mem (CV.pair (CV.nil 26 (Ty.int u32)) (CV.pair (CV.nil 3 (Ty.int i64)) (CV.pure (Ty.pair (Ty.int i64) Ty.unit) p3))), Blk.mem (CV.pure (Ty.pair (Ty.int i64) (Ty.pair (Ty.int u32) Ty.unit)) p4), Blk.mem (CV.pure (Ty.pair (Ty.int i64) (Ty.pair (Ty.int u32) Ty.unit)) p5), Blk.mem (CV.pure (Ty.pair (Ty.slice (Ty.int u32)) (Ty.pair (Ty.slice (Ty.int i64)) (Ty.pair (Ty.int i64) Ty.unit))) p6), Blk.mem (CV.pair (CV.whole 7) (CV.pair (CV.whole 8) (CV.pure (Ty.pair (Ty.int i64) Ty.unit) p7))), Blk.vec 26 (Ty.int u32) p8, Blk.vec 3 (Ty.int i64) p9, Blk.mem (CV.pair (CV.whole 10) (CV.pair (CV.whole 11) (CV.pure (Ty.pair (Ty.int i64) Ty.unit) p10))), Blk.vec 26 (Ty.int u32) p11, Blk.vec 3 (Ty.int i64) p12] 5)
noncomputable def Sp.S_98_30_0_0 {R : Type} (K : Int → (List Int × List Int × Int × Unit) → (Int × Int × Unit) → (Int × Unit) → (Int × Int × Unit) → (Int × Int × Unit) → (List Int × List Int × Int × Unit) → (Int × Unit) → List Int → List Int → (Int × Unit) → List Int → List Int → Option R) (k : E_98_30_0_0 → Option R) (p0 : Int) (p1 : List Int × List Int × Int × Unit) (p2 : Int × Int × Unit) (p3 : Int × Unit) (p4 p5 : Int × Int × Unit) (p6 : List Int × List Int × Int × Unit) (p7 : Int × Unit) (p8 p9 : List Int) (p10 : Int × Unit) (p11 p12 : List Int) : Option R :=
 bif decide (p0 < (↑(length (p6.1)) : Int)) then gd (inB p0 (length (p6.1))) (gd (room (length p11 + 1) 4) (K (wrap i64 (p0 + 1)) p1 p2 p3 p4 p5 p6 p7 p8 p9 p10 (p11 ++ [getD (p6.1) (toNat p0) 0]) p12)) else k (E_98_30_0_0.e0 p1 p2 p3 p4 p5 p6 p7 p8 p9 p10 p11 p12)
noncomputable def Sp.L_98_30_0_0 : Nat → Int → (List Int × List Int × Int × Unit) → (Int × Int × Unit) → (Int × Unit) → (Int × Int × Unit) → (Int × Int × Unit) → (List Int × List Int × Int × Unit) → (Int × Unit) → List Int → List Int → (Int × Unit) → List Int → List Int → Option E_98_30_0_0
 | 0, _, _, _, _, _, _, _, _, _, _, _, _, _ => none
 | m + 1, p0, p1, p2, p3, p4, p5, p6, p7, p8, p9, p10, p11, p12 => S_98_30_0_0 (L_98_30_0_0 m) some p0 p1 p2 p3 p4 p5 p6 p7 p8 p9 p10 p11 p12
noncomputable def l_98_30_0_0 (m : Nat) (a : T_98_30_0_0.E) : Option E_98_30_0_0 := L_98_30_0_0 m a.1 a.2.1 a.2.2.1 a.2.2.2.1 a.2.2.2.2.1 a.2.2.2.2.2.1 a.2.2.2.2.2.2.1 a.2.2.2.2.2.2.2.1 a.2.2.2.2.2.2.2.2.1 a.2.2.2.2.2.2.2.2.2.1 a.2.2.2.2.2.2.2.2.2.2.1 a.2.2.2.2.2.2.2.2.2.2.2.1 a.2.2.2.2.2.2.2.2.2.2.2.2.1
noncomputable def O_98_30_0_0 {R : Type} : Orc R := orL T_98_30_0_0 (l_98_30_0_0 FU) Y_98_30_0_0
theorem OK_98_30_0_0 {R : Type} : okF (R := R) sm_98 0 (nf 30 0) O_98_30_0_0 := lp0 T_98_30_0_0 l_98_30_0_0 (fun R K k a => S_98_30_0_0 (fun p0 p1 p2 p3 p4 p5 p6 p7 p8 p9 p10 p11 p12 => K (p0, p1, p2, p3, p4, p5, p6, p7, p8, p9, p10, p11, p12, ())) k a.1 a.2.1 a.2.2.1 a.2.2.2.1 a.2.2.2.2.1 a.2.2.2.2.2.1 a.2.2.2.2.2.2.1 a.2.2.2.2.2.2.2.1 a.2.2.2.2.2.2.2.2.1 a.2.2.2.2.2.2.2.2.2.1 a.2.2.2.2.2.2.2.2.2.2.1 a.2.2.2.2.2.2.2.2.2.2.2.1 a.2.2.2.2.2.2.2.2.2.2.2.2.1) Y_98_30_0_0 (fun _ _ _ => by kernel_rfl) (fun _ _ _ => by
 unfold S_98_30_0_0
 repeat' first | apply gdN | apply condN | rfl) (ok0 _)
noncomputable def T_98_30_1_0 : PS := ⟨44, [(1, .kc (.ptr 5 [])), (2, .kc (.ptr 6 [])), (3, .kc (.ptr 9 [])), (5, .hv (.int .i64))], [.mem (.hv Zy98_3), .mem (.hv Zy98_2), .mem (.pr (.kc (.nil 26 (.int .u32))) (.pr (.kc (.nil 3 (.int .i64))) (.hv (.pair (.int .i64) .unit)))), .mem (.hv Zy98_2), .mem (.hv Zy98_2), .mem (.hv Zy98_3), .mem (.pr (.kc (.whole 7)) (.pr (.kc (.whole 8)) (.hv (.pair (.int .i64) .unit)))), .vec 26 (.int .u32), .vec 3 (.int .i64), .mem (.pr (.kc (.whole 10)) (.pr (.kc (.whole 11)) (.hv (.pair (.int .i64) .unit)))), .vec 26 (.int .u32), .vec 3 (.int .i64)], 5⟩
inductive Sp.E_98_30_1_0 where
 | e0 (p1 : Zt98_1) (p2 : Zt98_0) (p3 : Int × Unit) (p4 p5 : Zt98_0) (p7 : Int × Unit) (p8 p9 : List Int) (p10 : Int × Unit) (p11 p12 : List Int)
noncomputable def Sp.B_98_30_1_0 {R : Type} (r : Option E_98_30_1_0) (k0 : Zt98_1 → Zt98_0 → (Int × Unit) → Zt98_0 → Zt98_0 → (Int × Unit) → List Int → List Int → (Int × Unit) → List Int → List Int → Option R) : Option R := match r with
 | none => none
 | some (.e0 p1 p2 p3 p4 p5 p7 p8 p9 p10 p11 p12) => k0 p1 p2 p3 p4 p5 p7 p8 p9 p10 p11 p12
noncomputable def Y_98_30_1_0 {R : Type} (k : Ex → St → Option R) : E_98_30_1_0 → Option R
 | .e0 p1 p2 p3 p4 p5 p7 p8 p9 p10 p11 p12 => k (Ex.exit 2) (sx 44 [(2, CV.ptr 5 []), (3, CV.ptr 8 [])] [Blk.mem (CV.pure (Ty.pair (Ty.slice (Ty.int u32)) (Ty.pair (Ty.slice (Ty.int i64)) (Ty.pair (Ty.int i64) Ty.unit))) p1), Blk.mem (CV.pure (Ty.pair (Ty.int i64) (Ty.pair (Ty.int u32) Ty.unit)) p2), Blk.mem (CV.pair (CV.nil 26 (Ty.int u32)) (CV.pair (CV.nil 3 (Ty.int i64)) (CV.pure (Ty.pair (Ty.int i64) Ty.unit) p3))), Blk.mem (CV.pure (Ty.pair (Ty.int i64) (Ty.pair (Ty.int u32) Ty.unit)) p4), Blk.mem (CV.pure (Ty.pair (Ty.int i64) (Ty.pair (Ty.int u32) Ty.unit)) p5), Blk.mem (CV.pair (CV.whole 6) (CV.pair (CV.whole 7) (CV.pure (Ty.pair (Ty.int i64) Ty.unit) p7))), Blk.vec 26 (Ty.int u32) p8, Blk.vec 3 (Ty.int i64) p9, Blk.mem (CV.pair (CV.whole 9) (CV.pair (CV.whole 10) (CV.pure (Ty.pair (Ty.int i64) Ty.unit) p10))), Blk.vec 26 (Ty.int u32) p11, Blk.vec 3 (Ty.int i64) p12] 5)
noncomputable def Sp.S_98_30_1_0 {R : Type} (K : Int → (List Int × List Int × Int × Unit) → (Int × Int × Unit) → (Int × Unit) → (Int × Int × Unit) → (Int × Int × Unit) → (List Int × List Int × Int × Unit) → (Int × Unit) → List Int → List Int → (Int × Unit) → List Int → List Int → Option R) (k : E_98_30_1_0 → Option R) (p0 : Int) (p1 : List Int × List Int × Int × Unit) (p2 : Int × Int × Unit) (p3 : Int × Unit) (p4 p5 : Int × Int × Unit) (p6 : List Int × List Int × Int × Unit) (p7 : Int × Unit) (p8 p9 : List Int) (p10 : Int × Unit) (p11 p12 : List Int) : Option R :=
 bif decide (p0 < (↑(length (p6.2.1)) : Int)) then gd (inB p0 (length (p6.2.1))) (gd (room (length p12 + 1) 8) (K (wrap i64 (p0 + 1)) p1 p2 p3 p4 p5 p6 p7 p8 p9 p10 p11 (p12 ++ [getD (p6.2.1) (toNat p0) 0]))) else k (E_98_30_1_0.e0 p1 p2 p3 p4 p5 p7 p8 p9 p10 p11 p12)
noncomputable def Sp.L_98_30_1_0 : Nat → Int → (List Int × List Int × Int × Unit) → (Int × Int × Unit) → (Int × Unit) → (Int × Int × Unit) → (Int × Int × Unit) → (List Int × List Int × Int × Unit) → (Int × Unit) → List Int → List Int → (Int × Unit) → List Int → List Int → Option E_98_30_1_0
 | 0, _, _, _, _, _, _, _, _, _, _, _, _, _ => none
 | m + 1, p0, p1, p2, p3, p4, p5, p6, p7, p8, p9, p10, p11, p12 => S_98_30_1_0 (L_98_30_1_0 m) some p0 p1 p2 p3 p4 p5 p6 p7 p8 p9 p10 p11 p12
noncomputable def l_98_30_1_0 (m : Nat) (a : T_98_30_1_0.E) : Option E_98_30_1_0 := L_98_30_1_0 m a.1 a.2.1 a.2.2.1 a.2.2.2.1 a.2.2.2.2.1 a.2.2.2.2.2.1 a.2.2.2.2.2.2.1 a.2.2.2.2.2.2.2.1 a.2.2.2.2.2.2.2.2.1 a.2.2.2.2.2.2.2.2.2.1 a.2.2.2.2.2.2.2.2.2.2.1 a.2.2.2.2.2.2.2.2.2.2.2.1 a.2.2.2.2.2.2.2.2.2.2.2.2.1
noncomputable def O_98_30_1_0 {R : Type} : Orc R := orL T_98_30_1_0 (l_98_30_1_0 FU) Y_98_30_1_0
theorem OK_98_30_1_0 {R : Type} : okF (R := R) sm_98 0 (nf 30 1) O_98_30_1_0 := lp0 T_98_30_1_0 l_98_30_1_0 (fun R K k a => S_98_30_1_0 (fun p0 p1 p2 p3 p4 p5 p6 p7 p8 p9 p10 p11 p12 => K (p0, p1, p2, p3, p4, p5, p6, p7, p8, p9, p10, p11, p12, ())) k a.1 a.2.1 a.2.2.1 a.2.2.2.1 a.2.2.2.2.1 a.2.2.2.2.2.1 a.2.2.2.2.2.2.1 a.2.2.2.2.2.2.2.1 a.2.2.2.2.2.2.2.2.1 a.2.2.2.2.2.2.2.2.2.1 a.2.2.2.2.2.2.2.2.2.2.1 a.2.2.2.2.2.2.2.2.2.2.2.1 a.2.2.2.2.2.2.2.2.2.2.2.2.1) Y_98_30_1_0 (fun _ _ _ => by kernel_rfl) (fun _ _ _ => by
 unfold S_98_30_1_0
 repeat' first | apply gdN | apply condN | rfl) (ok0 _)
noncomputable def g_98_30 {R : Type} : List CV → List Blk → (CV → List Blk → Option R) → Option R := evFnL sm_98 FU (ovr noO (evFn sm_98 fns FU 0)) (mkT (fB fns 30) [O_98_30_0_0, O_98_30_1_0]) (fO fns 30)
theorem g_98_30_ok {R : Type} (args : List CV) (hp : List Blk) (k : CV → List Blk → Option R) (r : R) (h : g_98_30 args hp k = some r) : evFn sm_98 fns FU 1 30 args hp k = some r := runG noO_ok (os := [O_98_30_0_0, O_98_30_1_0]) ⟨OK_98_30_0_0, OK_98_30_1_0, trivial⟩ h
noncomputable def ov_98_98 {R : Type} : Nat → Option (List CV → List Blk → (CV → List Blk → Option R) → Option R) := fun f' => bif Nat.beq f' 30 then some g_98_30 else none
theorem ov_98_98_ok {R : Type} : OvrOK (R := R) ov_98_98 (evFn sm_98 fns FU 1) := by
 intro f' g h args hp k r hg
 dsimp only [ov_98_98] at h
 by_cases h30 : f' = 30
 · subst h30
   injection h with h
   subst h
   exact evFn_le 0 (g_98_30_ok _ _ _ _ hg)
 rw [nbeq_ne h30, cond_false] at h
 cases h
noncomputable def T_98_0 : PS := ⟨87, [(1, .hv (.int .i64)), (6, .kc (.ptr 0 [])), (7, .kc (.ptr 3 [])), (9, .hv (.int .u32)), (10, .kc (.ptr 4 [])), (11, .hv (.int .i64)), (12, .kc (.ptr 5 [])), (13, .hv (.int .i64))], [.mem (.pr (.kc (.whole 1)) (.pr (.kc (.whole 2)) (.hv (.pair (.int .i64) .unit)))), .vec 26 (.int .u32), .vec 3 (.int .i64), .mem (.hv Zy98_2), .mem (.hv Zy98_2), .mem (.pr (.kc (.whole 6)) (.pr (.kc (.whole 7)) (.hv (.pair (.int .i64) .unit)))), .vec 26 (.int .u32), .vec 3 (.int .i64)], 0⟩
inductive Sp.E_98_0 where
 | e0 (p2 : Int) (p4 : Int × Unit) (p5 p6 : List Int) (p7 p8 : Zt98_0) (p9 : Int × Unit) (p10 p11 : List Int)
noncomputable def Sp.B_98_0 {R : Type} (r : Option E_98_0) (k0 : Int → (Int × Unit) → List Int → List Int → Zt98_0 → Zt98_0 → (Int × Unit) → List Int → List Int → Option R) : Option R := match r with
 | none => none
 | some (.e0 p2 p4 p5 p6 p7 p8 p9 p10 p11) => k0 p2 p4 p5 p6 p7 p8 p9 p10 p11
noncomputable def Y_98_0 {R : Type} (k : Ex → St → Option R) : E_98_0 → Option R
 | .e0 p2 p4 p5 p6 p7 p8 p9 p10 p11 => k (Ex.exit 0) (sx 87 [(6, CV.ptr 0 []), (7, CV.ptr 3 []), (10, CV.ptr 4 []), (11, CV.int i64 p2), (12, CV.ptr 5 [])] [Blk.mem (CV.pair (CV.whole 1) (CV.pair (CV.whole 2) (CV.pure (Ty.pair (Ty.int i64) Ty.unit) p4))), Blk.vec 26 (Ty.int u32) p5, Blk.vec 3 (Ty.int i64) p6, Blk.mem (CV.pure (Ty.pair (Ty.int i64) (Ty.pair (Ty.int u32) Ty.unit)) p7), Blk.mem (CV.pure (Ty.pair (Ty.int i64) (Ty.pair (Ty.int u32) Ty.unit)) p8), Blk.mem (CV.pair (CV.whole 6) (CV.pair (CV.whole 7) (CV.pure (Ty.pair (Ty.int i64) Ty.unit) p9))), Blk.vec 26 (Ty.int u32) p10, Blk.vec 3 (Ty.int i64) p11])
noncomputable def Sp.S_98_0 {R : Type} (K : Int → Int → Int → Int → (Int × Unit) → List Int → List Int → (Int × Int × Unit) → (Int × Int × Unit) → (Int × Unit) → List Int → List Int → Option R) (k : E_98_0 → Option R) (p0 p1 p2 p3 : Int) (p4 : Int × Unit) (p5 p6 : List Int) (p7 p8 : Int × Int × Unit) (p9 : Int × Unit) (p10 p11 : List Int) : Option R :=
 bif decide (p3 < 64) then gd (inB (wrap i64 (wrap i64 (p0 * 64) + p3)) (length p10)) (gd (decide (toNat (wrap i64 (wrap i64 (p0 * 64) + p3)) < length p10) && true) (gd (inB (wrap i64 (wrap i64 (p0 * 64) + p3)) (length p10)) (gd (decide (toNat (wrap i64 (wrap i64 (p0 * 64) + p3)) < length p10) && true && true) (K p0 p1 p2 (wrap i64 (p3 + 1)) p4 p5 p6 p7 p8 p9 (List.set p10 (toNat (wrap i64 (wrap i64 (p0 * 64) + p3))) (Sp.orI u32 (getD p10 (toNat (wrap i64 (wrap i64 (p0 * 64) + p3))) 0) p1)) p11)))) else k (E_98_0.e0 p2 p4 p5 p6 p7 p8 p9 p10 p11)
noncomputable def Sp.L_98_0 : Nat → Int → Int → Int → Int → (Int × Unit) → List Int → List Int → (Int × Int × Unit) → (Int × Int × Unit) → (Int × Unit) → List Int → List Int → Option E_98_0
 | 0, _, _, _, _, _, _, _, _, _, _, _, _ => none
 | m + 1, p0, p1, p2, p3, p4, p5, p6, p7, p8, p9, p10, p11 => S_98_0 (L_98_0 m) some p0 p1 p2 p3 p4 p5 p6 p7 p8 p9 p10 p11
noncomputable def l_98_0 (m : Nat) (a : T_98_0.E) : Option E_98_0 := L_98_0 m a.1 a.2.1 a.2.2.1 a.2.2.2.1 a.2.2.2.2.1 a.2.2.2.2.2.1 a.2.2.2.2.2.2.1 a.2.2.2.2.2.2.2.1 a.2.2.2.2.2.2.2.2.1 a.2.2.2.2.2.2.2.2.2.1 a.2.2.2.2.2.2.2.2.2.2.1 a.2.2.2.2.2.2.2.2.2.2.2.1
noncomputable def O_98_0 {R : Type} : Orc R := orL T_98_0 (l_98_0 FU) Y_98_0
theorem OK_98_0 {R : Type} : okF (R := R) sm_98 1 (nf 98 0) O_98_0 := lp ov_98_98_ok (os := []) trivial T_98_0 l_98_0 (fun R K k a => S_98_0 (fun p0 p1 p2 p3 p4 p5 p6 p7 p8 p9 p10 p11 => K (p0, p1, p2, p3, p4, p5, p6, p7, p8, p9, p10, p11, ())) k a.1 a.2.1 a.2.2.1 a.2.2.2.1 a.2.2.2.2.1 a.2.2.2.2.2.1 a.2.2.2.2.2.2.1 a.2.2.2.2.2.2.2.1 a.2.2.2.2.2.2.2.2.1 a.2.2.2.2.2.2.2.2.2.1 a.2.2.2.2.2.2.2.2.2.2.1 a.2.2.2.2.2.2.2.2.2.2.2.1) Y_98_0 (fun _ => rfl) (fun _ _ => rfl) (fun k K a => by kernel_rfl) (fun Y K a => by
 unfold S_98_0
 repeat' first | apply gdN | apply condN | rfl) (ok0 _)
noncomputable def F_98 (a0 : ((List Int) × ((List Int) × (Int × Unit)))) (a1 : Int) (a2 : (Int × (Int × Unit))) : Option (((List Int) × ((List Int) × (Int × Unit))) × (Int × (Int × Unit)) × Int × Unit) :=
 gd (p_12 a0) (bif !(v_12 a0).1 then some (([], [], 0, PUnit.unit), (0, 0, PUnit.unit), 1, PUnit.unit) else gd (p_13 a2) (bif !(v_13 a2).1 then some (([], [], 0, PUnit.unit), (0, 0, PUnit.unit), 1, PUnit.unit) else bif decide (a1 < 0) then some (([], [], 0, PUnit.unit), (0, 0, PUnit.unit), 2, PUnit.unit) else bif decide (a1 ≥ (↑(length (a0.2.1)) : Int)) then some (([], [], 0, PUnit.unit), (0, 0, PUnit.unit), 2, PUnit.unit) else gd (inB a1 (length (a0.2.1))) (bif getD (a0.2.1) (toNat a1) 0 == a0.2.2.1 then some (([], [], 0, PUnit.unit), (0, 0, PUnit.unit), 19, PUnit.unit) else gd (p_106 a2) (B_98_30_0_0 (L_98_30_0_0 4611686018427387904 0 a0 a2 (0, PUnit.unit) (0, 0, PUnit.unit) ((v_106 a2).2.1) a0 (0, PUnit.unit) [] [] (a0.2.2.1, PUnit.unit) [] []) fun y40 y41 y42 y43 y44 y45 y46 y47 y48 y49 y50 y51 => B_98_30_1_0 (L_98_30_1_0 4611686018427387904 0 y40 y41 y42 y43 y44 y45 y46 y47 y48 y49 y50 y51) fun y52 y53 y54 y55 y56 y57 y58 y59 y60 y61 y62 => bif decide (y53.1 > 0) then gd (inB a1 (length y62)) (gd (decide (toNat a1 < length y62) && true) (gd (inB a1 (length y62)) (gd (decide (toNat a1 < length y62) && true && true) (B_98_0 (L_98_0 4611686018427387904 a1 ((v_106 a2).1) ((v_106 a2).2.2.1) 0 y54 [] [] y55 y56 y60 y61 (List.set y62 (toNat a1) (wrap i64 (getD y62 (toNat a1) (0 :Int) + (1 :Int))))) fun y65 y66 y67 y68 y69 y70 y71 y72 y73 => some ((y72, y73, y71), y70, y65, PUnit.unit))))) else some ((y61, y62, y60), y56, (v_106 a2).2.2.1, PUnit.unit)))))
noncomputable def Sp.p_98 (a0 : ((List Int) × ((List Int) × (Int × Unit)))) (a1 : Int) (a2 : (Int × (Int × Unit))) : Bool := (F_98 a0 a1 a2).isSome
noncomputable def Sp.v_98 (a0 : ((List Int) × ((List Int) × (Int × Unit)))) (a1 : Int) (a2 : (Int × (Int × Unit))) : ((List Int) × ((List Int) × (Int × Unit))) × (Int × (Int × Unit)) × Int × Unit := (F_98 a0 a1 a2).getD (dfH R_98)
noncomputable def s_98 : Summ := shS A_98 R_98 (fun x => p_98 x.1 x.2.1 x.2.2.1) (fun x => v_98 x.1 x.2.1 x.2.2.1)
theorem pv_98 (a0 : ((List Int) × ((List Int) × (Int × Unit)))) (a1 : Int) (a2 : (Int × (Int × Unit))) {y : ((List Int) × ((List Int) × (Int × Unit))) × (Int × (Int × Unit)) × Int × Unit} (h : F_98 a0 a1 a2 = some y) : p_98 a0 a1 a2 = true ∧ v_98 a0 a1 a2 = y := pvG h
theorem run_98 (x : HDen A_98) (y : HDen R_98) (h : F_98 x.1 x.2.1 x.2.2.1 = some y) : rnF sm_98 2 98 A_98 R_98 x y := runG ov_98_98_ok (os := [O_98_0]) ⟨OK_98_0, trivial⟩ (Eq.trans (by kernel_rfl) h)
end
noncomputable section
abbrev A_75 : List Ty := [(.pair (.slice (.int .u32)) (.pair (.slice (.int .i64)) (.pair (.int .i64) .unit))), (.int .i64), (.pair (.int .i64) (.pair (.int .u32) .unit))]
abbrev R_75 : List Ty := [(.pair (.slice (.int .u32)) (.pair (.slice (.int .i64)) (.pair (.int .i64) .unit))), (.pair (.int .i64) (.pair (.int .u32) .unit)), (.int .i64)]
noncomputable def sm_75 : Nat → Option Summ := smL [(98, s_98)]
noncomputable def F_75 (a0 : ((List Int) × ((List Int) × (Int × Unit)))) (a1 : Int) (a2 : (Int × (Int × Unit))) : Option (((List Int) × ((List Int) × (Int × Unit))) × (Int × (Int × Unit)) × Int × Unit) :=
 gd (p_98 a0 a1 a2) (some ((v_98 a0 a1 a2).1, (v_98 a0 a1 a2).2.1, (v_98 a0 a1 a2).2.2.1, PUnit.unit))
noncomputable def Sp.p_75 (a0 : ((List Int) × ((List Int) × (Int × Unit)))) (a1 : Int) (a2 : (Int × (Int × Unit))) : Bool := (F_75 a0 a1 a2).isSome
noncomputable def Sp.v_75 (a0 : ((List Int) × ((List Int) × (Int × Unit)))) (a1 : Int) (a2 : (Int × (Int × Unit))) : ((List Int) × ((List Int) × (Int × Unit))) × (Int × (Int × Unit)) × Int × Unit := (F_75 a0 a1 a2).getD (dfH R_75)
noncomputable def s_75 : Summ := shS A_75 R_75 (fun x => p_75 x.1 x.2.1 x.2.2.1) (fun x => v_75 x.1 x.2.1 x.2.2.1)
theorem pv_75 (a0 : ((List Int) × ((List Int) × (Int × Unit)))) (a1 : Int) (a2 : (Int × (Int × Unit))) {y : ((List Int) × ((List Int) × (Int × Unit))) × (Int × (Int × Unit)) × Int × Unit} (h : F_75 a0 a1 a2 = some y) : p_75 a0 a1 a2 = true ∧ v_75 a0 a1 a2 = y := pvG h
theorem run_75 (x : HDen A_75) (y : HDen R_75) (h : F_75 x.1 x.2.1 x.2.2.1 = some y) : rnF sm_75 1 75 A_75 R_75 x y := runG noO_ok (os := []) trivial (Eq.trans (by kernel_rfl) h)
end
noncomputable section
abbrev Zt99_0 : Type := List Int × List Int × Int × Unit
abbrev Zt99_1 : Type := Int × Int × Unit
abbrev Zy99_2 : Ty := (.pair (.slice (.int .u32)) (.pair (.slice (.int .i64)) (.pair (.int .i64) .unit)))
abbrev Zy99_3 : Ty := (.pair (.int .i64) (.pair (.int .u32) .unit))
abbrev A_99 : List Ty := [(.pair (.slice (.int .u32)) (.pair (.slice (.int .i64)) (.pair (.int .i64) .unit))), (.int .i64), (.int .u32), (.pair (.int .i64) (.pair (.int .u32) .unit))]
abbrev R_99 : List Ty := [(.pair (.slice (.int .u32)) (.pair (.slice (.int .i64)) (.pair (.int .i64) .unit))), (.pair (.int .i64) (.pair (.int .u32) .unit)), (.int .i64)]
noncomputable def sm_99 : Nat → Option Summ := smL [(12, s_12), (13, s_13), (106, s_106)]
noncomputable def T_99_30_0_0 : PS := ⟨44, [(1, .kc (.ptr 5 [])), (2, .kc (.ptr 6 [])), (3, .kc (.ptr 9 [])), (4, .hv (.int .i64))], [.mem (.hv Zy99_2), .mem (.hv Zy99_3), .mem (.pr (.kc (.nil 26 (.int .u32))) (.pr (.kc (.nil 3 (.int .i64))) (.hv (.pair (.int .i64) .unit)))), .mem (.hv Zy99_3), .mem (.hv Zy99_3), .mem (.hv Zy99_2), .mem (.pr (.kc (.whole 7)) (.pr (.kc (.whole 8)) (.hv (.pair (.int .i64) .unit)))), .vec 26 (.int .u32), .vec 3 (.int .i64), .mem (.pr (.kc (.whole 10)) (.pr (.kc (.whole 11)) (.hv (.pair (.int .i64) .unit)))), .vec 26 (.int .u32), .vec 3 (.int .i64)], 5⟩
inductive Sp.E_99_30_0_0 where
 | e0 (p1 : Zt99_0) (p2 : Zt99_1) (p3 : Int × Unit) (p4 p5 : Zt99_1) (p6 : Zt99_0) (p7 : Int × Unit) (p8 p9 : List Int) (p10 : Int × Unit) (p11 p12 : List Int)
noncomputable def Sp.B_99_30_0_0 {R : Type} (r : Option E_99_30_0_0) (k0 : Zt99_0 → Zt99_1 → (Int × Unit) → Zt99_1 → Zt99_1 → Zt99_0 → (Int × Unit) → List Int → List Int → (Int × Unit) → List Int → List Int → Option R) : Option R := match r with
 | none => none
 | some (.e0 p1 p2 p3 p4 p5 p6 p7 p8 p9 p10 p11 p12) => k0 p1 p2 p3 p4 p5 p6 p7 p8 p9 p10 p11 p12
noncomputable def Y_99_30_0_0 {R : Type} (k : Ex → St → Option R) : E_99_30_0_0 → Option R
 | .e0 p1 p2 p3 p4 p5 p6 p7 p8 p9 p10 p11 p12 => k (Ex.exit 0) (sx 44 [(1, CV.ptr 5 []), (2, CV.ptr 6 []), (3, CV.ptr 9 [])] [Blk.mem (CV.pure (Ty.pair (Ty.slice (Ty.int u32)) (Ty.pair (Ty.slice (Ty.int i64)) (Ty.pair (Ty.int i64) Ty.unit))) p1), Blk.mem (CV.pure (Ty.pair (Ty.int i64) (Ty.pair (Ty.int u32) Ty.unit)) p2), Blk.mem (CV.pair (CV.nil 26 (Ty.int u32)) (CV.pair (CV.nil 3 (Ty.int i64)) (CV.pure (Ty.pair (Ty.int i64) Ty.unit) p3))), Blk.mem (CV.pure (Ty.pair (Ty.int i64) (Ty.pair (Ty.int u32) Ty.unit)) p4), Blk.mem (CV.pure (Ty.pair (Ty.int i64) (Ty.pair (Ty.int u32) Ty.unit)) p5), Blk.mem (CV.pure (Ty.pair (Ty.slice (Ty.int u32)) (Ty.pair (Ty.slice (Ty.int i64)) (Ty.pair (Ty.int i64) Ty.unit))) p6), Blk.mem (CV.pair (CV.whole 7) (CV.pair (CV.whole 8) (CV.pure (Ty.pair (Ty.int i64) Ty.unit) p7))), Blk.vec 26 (Ty.int u32) p8, Blk.vec 3 (Ty.int i64) p9, Blk.mem (CV.pair (CV.whole 10) (CV.pair (CV.whole 11) (CV.pure (Ty.pair (Ty.int i64) Ty.unit) p10))), Blk.vec 26 (Ty.int u32) p11, Blk.vec 3 (Ty.int i64) p12] 5)
noncomputable def Sp.S_99_30_0_0 {R : Type} (K : Int → (List Int × List Int × Int × Unit) → (Int × Int × Unit) → (Int × Unit) → (Int × Int × Unit) → (Int × Int × Unit) → (List Int × List Int × Int × Unit) → (Int × Unit) → List Int → List Int → (Int × Unit) → List Int → List Int → Option R) (k : E_99_30_0_0 → Option R) (p0 : Int) (p1 : List Int × List Int × Int × Unit) (p2 : Int × Int × Unit) (p3 : Int × Unit) (p4 p5 : Int × Int × Unit) (p6 : List Int × List Int × Int × Unit) (p7 : Int × Unit) (p8 p9 : List Int) (p10 : Int × Unit) (p11 p12 : List Int) : Option R :=
 bif decide (p0 < (↑(length (p6.1)) : Int)) then gd (inB p0 (length (p6.1))) (gd (room (length p11 + 1) 4) (K (wrap i64 (p0 + 1)) p1 p2 p3 p4 p5 p6 p7 p8 p9 p10 (p11 ++ [getD (p6.1) (toNat p0) 0]) p12)) else k (E_99_30_0_0.e0 p1 p2 p3 p4 p5 p6 p7 p8 p9 p10 p11 p12)
noncomputable def Sp.L_99_30_0_0 : Nat → Int → (List Int × List Int × Int × Unit) → (Int × Int × Unit) → (Int × Unit) → (Int × Int × Unit) → (Int × Int × Unit) → (List Int × List Int × Int × Unit) → (Int × Unit) → List Int → List Int → (Int × Unit) → List Int → List Int → Option E_99_30_0_0
 | 0, _, _, _, _, _, _, _, _, _, _, _, _, _ => none
 | m + 1, p0, p1, p2, p3, p4, p5, p6, p7, p8, p9, p10, p11, p12 => S_99_30_0_0 (L_99_30_0_0 m) some p0 p1 p2 p3 p4 p5 p6 p7 p8 p9 p10 p11 p12
noncomputable def l_99_30_0_0 (m : Nat) (a : T_99_30_0_0.E) : Option E_99_30_0_0 := L_99_30_0_0 m a.1 a.2.1 a.2.2.1 a.2.2.2.1 a.2.2.2.2.1 a.2.2.2.2.2.1 a.2.2.2.2.2.2.1 a.2.2.2.2.2.2.2.1 a.2.2.2.2.2.2.2.2.1 a.2.2.2.2.2.2.2.2.2.1 a.2.2.2.2.2.2.2.2.2.2.1 a.2.2.2.2.2.2.2.2.2.2.2.1 a.2.2.2.2.2.2.2.2.2.2.2.2.1
noncomputable def O_99_30_0_0 {R : Type} : Orc R := orL T_99_30_0_0 (l_99_30_0_0 FU) Y_99_30_0_0
theorem OK_99_30_0_0 {R : Type} : okF (R := R) sm_99 0 (nf 30 0) O_99_30_0_0 := lp0 T_99_30_0_0 l_99_30_0_0 (fun R K k a => S_99_30_0_0 (fun p0 p1 p2 p3 p4 p5 p6 p7 p8 p9 p10 p11 p12 => K (p0, p1, p2, p3, p4, p5, p6, p7, p8, p9, p10, p11, p12, ())) k a.1 a.2.1 a.2.2.1 a.2.2.2.1 a.2.2.2.2.1 a.2.2.2.2.2.1 a.2.2.2.2.2.2.1 a.2.2.2.2.2.2.2.1 a.2.2.2.2.2.2.2.2.1 a.2.2.2.2.2.2.2.2.2.1 a.2.2.2.2.2.2.2.2.2.2.1 a.2.2.2.2.2.2.2.2.2.2.2.1 a.2.2.2.2.2.2.2.2.2.2.2.2.1) Y_99_30_0_0 (fun _ _ _ => by kernel_rfl) (fun _ _ _ => by
 unfold S_99_30_0_0
 repeat' first | apply gdN | apply condN | rfl) (ok0 _)
noncomputable def T_99_30_1_0 : PS := ⟨44, [(1, .kc (.ptr 5 [])), (2, .kc (.ptr 6 [])), (3, .kc (.ptr 9 [])), (5, .hv (.int .i64))], [.mem (.hv Zy99_2), .mem (.hv Zy99_3), .mem (.pr (.kc (.nil 26 (.int .u32))) (.pr (.kc (.nil 3 (.int .i64))) (.hv (.pair (.int .i64) .unit)))), .mem (.hv Zy99_3), .mem (.hv Zy99_3), .mem (.hv Zy99_2), .mem (.pr (.kc (.whole 7)) (.pr (.kc (.whole 8)) (.hv (.pair (.int .i64) .unit)))), .vec 26 (.int .u32), .vec 3 (.int .i64), .mem (.pr (.kc (.whole 10)) (.pr (.kc (.whole 11)) (.hv (.pair (.int .i64) .unit)))), .vec 26 (.int .u32), .vec 3 (.int .i64)], 5⟩
inductive Sp.E_99_30_1_0 where
 | e0 (p1 : Zt99_0) (p2 : Zt99_1) (p3 : Int × Unit) (p4 p5 : Zt99_1) (p7 : Int × Unit) (p8 p9 : List Int) (p10 : Int × Unit) (p11 p12 : List Int)
noncomputable def Sp.B_99_30_1_0 {R : Type} (r : Option E_99_30_1_0) (k0 : Zt99_0 → Zt99_1 → (Int × Unit) → Zt99_1 → Zt99_1 → (Int × Unit) → List Int → List Int → (Int × Unit) → List Int → List Int → Option R) : Option R := match r with
 | none => none
 | some (.e0 p1 p2 p3 p4 p5 p7 p8 p9 p10 p11 p12) => k0 p1 p2 p3 p4 p5 p7 p8 p9 p10 p11 p12
noncomputable def Y_99_30_1_0 {R : Type} (k : Ex → St → Option R) : E_99_30_1_0 → Option R
 | .e0 p1 p2 p3 p4 p5 p7 p8 p9 p10 p11 p12 => k (Ex.exit 2) (sx 44 [(2, CV.ptr 5 []), (3, CV.ptr 8 [])] [Blk.mem (CV.pure (Ty.pair (Ty.slice (Ty.int u32)) (Ty.pair (Ty.slice (Ty.int i64)) (Ty.pair (Ty.int i64) Ty.unit))) p1), Blk.mem (CV.pure (Ty.pair (Ty.int i64) (Ty.pair (Ty.int u32) Ty.unit)) p2), Blk.mem (CV.pair (CV.nil 26 (Ty.int u32)) (CV.pair (CV.nil 3 (Ty.int i64)) (CV.pure (Ty.pair (Ty.int i64) Ty.unit) p3))), Blk.mem (CV.pure (Ty.pair (Ty.int i64) (Ty.pair (Ty.int u32) Ty.unit)) p4), Blk.mem (CV.pure (Ty.pair (Ty.int i64) (Ty.pair (Ty.int u32) Ty.unit)) p5), Blk.mem (CV.pair (CV.whole 6) (CV.pair (CV.whole 7) (CV.pure (Ty.pair (Ty.int i64) Ty.unit) p7))), Blk.vec 26 (Ty.int u32) p8, Blk.vec 3 (Ty.int i64) p9, Blk.mem (CV.pair (CV.whole 9) (CV.pair (CV.whole 10) (CV.pure (Ty.pair (Ty.int i64) Ty.unit) p10))), Blk.vec 26 (Ty.int u32) p11, Blk.vec 3 (Ty.int i64) p12] 5)
noncomputable def Sp.S_99_30_1_0 {R : Type} (K : Int → (List Int × List Int × Int × Unit) → (Int × Int × Unit) → (Int × Unit) → (Int × Int × Unit) → (Int × Int × Unit) → (List Int × List Int × Int × Unit) → (Int × Unit) → List Int → List Int → (Int × Unit) → List Int → List Int → Option R) (k : E_99_30_1_0 → Option R) (p0 : Int) (p1 : List Int × List Int × Int × Unit) (p2 : Int × Int × Unit) (p3 : Int × Unit) (p4 p5 : Int × Int × Unit) (p6 : List Int × List Int × Int × Unit) (p7 : Int × Unit) (p8 p9 : List Int) (p10 : Int × Unit) (p11 p12 : List Int) : Option R :=
 bif decide (p0 < (↑(length (p6.2.1)) : Int)) then gd (inB p0 (length (p6.2.1))) (gd (room (length p12 + 1) 8) (K (wrap i64 (p0 + 1)) p1 p2 p3 p4 p5 p6 p7 p8 p9 p10 p11 (p12 ++ [getD (p6.2.1) (toNat p0) 0]))) else k (E_99_30_1_0.e0 p1 p2 p3 p4 p5 p7 p8 p9 p10 p11 p12)
noncomputable def Sp.L_99_30_1_0 : Nat → Int → (List Int × List Int × Int × Unit) → (Int × Int × Unit) → (Int × Unit) → (Int × Int × Unit) → (Int × Int × Unit) → (List Int × List Int × Int × Unit) → (Int × Unit) → List Int → List Int → (Int × Unit) → List Int → List Int → Option E_99_30_1_0
 | 0, _, _, _, _, _, _, _, _, _, _, _, _, _ => none
 | m + 1, p0, p1, p2, p3, p4, p5, p6, p7, p8, p9, p10, p11, p12 => S_99_30_1_0 (L_99_30_1_0 m) some p0 p1 p2 p3 p4 p5 p6 p7 p8 p9 p10 p11 p12
noncomputable def l_99_30_1_0 (m : Nat) (a : T_99_30_1_0.E) : Option E_99_30_1_0 := L_99_30_1_0 m a.1 a.2.1 a.2.2.1 a.2.2.2.1 a.2.2.2.2.1 a.2.2.2.2.2.1 a.2.2.2.2.2.2.1 a.2.2.2.2.2.2.2.1 a.2.2.2.2.2.2.2.2.1 a.2.2.2.2.2.2.2.2.2.1 a.2.2.2.2.2.2.2.2.2.2.1 a.2.2.2.2.2.2.2.2.2.2.2.1 a.2.2.2.2.2.2.2.2.2.2.2.2.1
noncomputable def O_99_30_1_0 {R : Type} : Orc R := orL T_99_30_1_0 (l_99_30_1_0 FU) Y_99_30_1_0
theorem OK_99_30_1_0 {R : Type} : okF (R := R) sm_99 0 (nf 30 1) O_99_30_1_0 := lp0 T_99_30_1_0 l_99_30_1_0 (fun R K k a => S_99_30_1_0 (fun p0 p1 p2 p3 p4 p5 p6 p7 p8 p9 p10 p11 p12 => K (p0, p1, p2, p3, p4, p5, p6, p7, p8, p9, p10, p11, p12, ())) k a.1 a.2.1 a.2.2.1 a.2.2.2.1 a.2.2.2.2.1 a.2.2.2.2.2.1 a.2.2.2.2.2.2.1 a.2.2.2.2.2.2.2.1 a.2.2.2.2.2.2.2.2.1 a.2.2.2.2.2.2.2.2.2.1 a.2.2.2.2.2.2.2.2.2.2.1 a.2.2.2.2.2.2.2.2.2.2.2.1 a.2.2.2.2.2.2.2.2.2.2.2.2.1) Y_99_30_1_0 (fun _ _ _ => by kernel_rfl) (fun _ _ _ => by
 unfold S_99_30_1_0
 repeat' first | apply gdN | apply condN | rfl) (ok0 _)
noncomputable def g_99_30 {R : Type} : List CV → List Blk → (CV → List Blk → Option R) → Option R := evFnL sm_99 FU (ovr noO (evFn sm_99 fns FU 0)) (mkT (fB fns 30) [O_99_30_0_0, O_99_30_1_0]) (fO fns 30)
theorem g_99_30_ok {R : Type} (args : List CV) (hp : List Blk) (k : CV → List Blk → Option R) (r : R) (h : g_99_30 args hp k = some r) : evFn sm_99 fns FU 1 30 args hp k = some r := runG noO_ok (os := [O_99_30_0_0, O_99_30_1_0]) ⟨OK_99_30_0_0, OK_99_30_1_0, trivial⟩ h
noncomputable def ov_99_99 {R : Type} : Nat → Option (List CV → List Blk → (CV → List Blk → Option R) → Option R) := fun f' => bif Nat.beq f' 30 then some g_99_30 else none
theorem ov_99_99_ok {R : Type} : OvrOK (R := R) ov_99_99 (evFn sm_99 fns FU 1) := by
 intro f' g h args hp k r hg
 dsimp only [ov_99_99] at h
 by_cases h30 : f' = 30
 · subst h30
   injection h with h
   subst h
   exact evFn_le 0 (g_99_30_ok _ _ _ _ hg)
 rw [nbeq_ne h30, cond_false] at h
 cases h
noncomputable def F_99 (a0 : ((List Int) × ((List Int) × (Int × Unit)))) (a1 a2 : Int) (a3 : (Int × (Int × Unit))) : Option (((List Int) × ((List Int) × (Int × Unit))) × (Int × (Int × Unit)) × Int × Unit) :=
 gd (p_12 a0) (bif !(v_12 a0).1 then some (([], [], 0, PUnit.unit), (0, 0, PUnit.unit), 1, PUnit.unit) else gd (p_13 a3) (bif !(v_13 a3).1 then some (([], [], 0, PUnit.unit), (0, 0, PUnit.unit), 1, PUnit.unit) else bif decide (a1 < 0) then some (([], [], 0, PUnit.unit), (0, 0, PUnit.unit), 2, PUnit.unit) else bif decide (a1 ≥ (↑(length (a0.1)) : Int)) then some (([], [], 0, PUnit.unit), (0, 0, PUnit.unit), 2, PUnit.unit) else gd (p_106 a3) (B_99_30_0_0 (L_99_30_0_0 4611686018427387904 0 a0 a3 (0, PUnit.unit) (0, 0, PUnit.unit) ((v_106 a3).2.1) a0 (0, PUnit.unit) [] [] (a0.2.2.1, PUnit.unit) [] []) fun y31 y32 y33 y34 y35 y36 y37 y38 y39 y40 y41 y42 => B_99_30_1_0 (L_99_30_1_0 4611686018427387904 0 y31 y32 y33 y34 y35 y36 y37 y38 y39 y40 y41 y42) fun y43 y44 y45 y46 y47 y48 y49 y50 y51 y52 y53 => gd (inB a1 (length (y43.1))) (gd (inB a1 (length y52)) (gd (decide (toNat a1 < length y52) && true && true) (some ((List.set y52 (toNat a1) (Sp.andI u32 (getD (y43.1) (toNat a1) 0) (Sp.orI u32 a2 (Sp.xorI u32 4294967295 ((v_106 a3).1)))), y53, y51), y47, (v_106 a3).2.2.1, PUnit.unit)))))))
noncomputable def Sp.p_99 (a0 : ((List Int) × ((List Int) × (Int × Unit)))) (a1 a2 : Int) (a3 : (Int × (Int × Unit))) : Bool := (F_99 a0 a1 a2 a3).isSome
noncomputable def Sp.v_99 (a0 : ((List Int) × ((List Int) × (Int × Unit)))) (a1 a2 : Int) (a3 : (Int × (Int × Unit))) : ((List Int) × ((List Int) × (Int × Unit))) × (Int × (Int × Unit)) × Int × Unit := (F_99 a0 a1 a2 a3).getD (dfH R_99)
noncomputable def s_99 : Summ := shS A_99 R_99 (fun x => p_99 x.1 x.2.1 x.2.2.1 x.2.2.2.1) (fun x => v_99 x.1 x.2.1 x.2.2.1 x.2.2.2.1)
theorem pv_99 (a0 : ((List Int) × ((List Int) × (Int × Unit)))) (a1 a2 : Int) (a3 : (Int × (Int × Unit))) {y : ((List Int) × ((List Int) × (Int × Unit))) × (Int × (Int × Unit)) × Int × Unit} (h : F_99 a0 a1 a2 a3 = some y) : p_99 a0 a1 a2 a3 = true ∧ v_99 a0 a1 a2 a3 = y := pvG h
theorem run_99 (x : HDen A_99) (y : HDen R_99) (h : F_99 x.1 x.2.1 x.2.2.1 x.2.2.2.1 = some y) : rnF sm_99 2 99 A_99 R_99 x y := runG ov_99_99_ok (os := []) trivial (Eq.trans (by kernel_rfl) h)
end
noncomputable section
abbrev A_76 : List Ty := [(.pair (.slice (.int .u32)) (.pair (.slice (.int .i64)) (.pair (.int .i64) .unit))), (.int .i64), (.int .u32), (.pair (.int .i64) (.pair (.int .u32) .unit))]
abbrev R_76 : List Ty := [(.pair (.slice (.int .u32)) (.pair (.slice (.int .i64)) (.pair (.int .i64) .unit))), (.pair (.int .i64) (.pair (.int .u32) .unit)), (.int .i64)]
noncomputable def sm_76 : Nat → Option Summ := smL [(99, s_99)]
noncomputable def F_76 (a0 : ((List Int) × ((List Int) × (Int × Unit)))) (a1 a2 : Int) (a3 : (Int × (Int × Unit))) : Option (((List Int) × ((List Int) × (Int × Unit))) × (Int × (Int × Unit)) × Int × Unit) :=
 gd (p_99 a0 a1 a2 a3) (some ((v_99 a0 a1 a2 a3).1, (v_99 a0 a1 a2 a3).2.1, (v_99 a0 a1 a2 a3).2.2.1, PUnit.unit))
noncomputable def Sp.p_76 (a0 : ((List Int) × ((List Int) × (Int × Unit)))) (a1 a2 : Int) (a3 : (Int × (Int × Unit))) : Bool := (F_76 a0 a1 a2 a3).isSome
noncomputable def Sp.v_76 (a0 : ((List Int) × ((List Int) × (Int × Unit)))) (a1 a2 : Int) (a3 : (Int × (Int × Unit))) : ((List Int) × ((List Int) × (Int × Unit))) × (Int × (Int × Unit)) × Int × Unit := (F_76 a0 a1 a2 a3).getD (dfH R_76)
noncomputable def s_76 : Summ := shS A_76 R_76 (fun x => p_76 x.1 x.2.1 x.2.2.1 x.2.2.2.1) (fun x => v_76 x.1 x.2.1 x.2.2.1 x.2.2.2.1)
theorem pv_76 (a0 : ((List Int) × ((List Int) × (Int × Unit)))) (a1 a2 : Int) (a3 : (Int × (Int × Unit))) {y : ((List Int) × ((List Int) × (Int × Unit))) × (Int × (Int × Unit)) × Int × Unit} (h : F_76 a0 a1 a2 a3 = some y) : p_76 a0 a1 a2 a3 = true ∧ v_76 a0 a1 a2 a3 = y := pvG h
theorem run_76 (x : HDen A_76) (y : HDen R_76) (h : F_76 x.1 x.2.1 x.2.2.1 x.2.2.2.1 = some y) : rnF sm_76 1 76 A_76 R_76 x y := runG noO_ok (os := []) trivial (Eq.trans (by kernel_rfl) h)
end
noncomputable section
abbrev Zt56_0 : Type := (List Int × List Int × Int × Unit) × Int × Int × Unit
abbrev Zt56_1 : Type := Int × Int × Unit
abbrev Zt56_2 : Type := List (Bool × Int × Int × Unit)
abbrev Zt56_3 : Type := (((List Int) × ((List Int) × (Int × Unit))) × (Int × (Int × Unit)))
abbrev A_56 : List Ty := [(.pair (.pair (.slice (.int .u32)) (.pair (.slice (.int .i64)) (.pair (.int .i64) .unit))) (.pair (.int .i64) (.pair (.int .i64) .unit))), (.slice (.pair .bool (.pair (.int .i64) (.pair (.int .u32) .unit)))), (.pair (.int .i64) (.pair (.int .u32) .unit))]
abbrev R_56 : List Ty := [(.pair (.pair (.slice (.int .u32)) (.pair (.slice (.int .i64)) (.pair (.int .i64) .unit))) (.pair (.int .i64) (.pair (.int .i64) .unit))), (.pair (.int .i64) (.pair (.int .u32) .unit)), (.int .i64)]
noncomputable def sm_56 : Nat → Option Summ := smL [(75, s_75), (76, s_76)]
noncomputable def T_56_0 : PS := ⟨62, [(1, .hv (.slice (.pair .bool (.pair (.int .i64) (.pair (.int .u32) .unit))))), (3, .kc (.ptr 0 [])), (5, .kc (.ptr 1 [])), (6, .kc (.ptr 2 [])), (7, .kc (.ptr 5 [])), (9, .hv (.int .i64))], [.mem (.hv (.pair (.pair (.slice (.int .u32)) (.pair (.slice (.int .i64)) (.pair (.int .i64) .unit))) (.pair (.int .i64) (.pair (.int .i64) .unit)))), .mem (.hv (.pair (.int .i64) (.pair (.int .u32) .unit))), .mem (.pr (.pr (.kc (.whole 3)) (.pr (.kc (.whole 4)) (.hv (.pair (.int .i64) .unit)))) (.hv (.pair (.int .i64) (.pair (.int .i64) .unit)))), .vec 26 (.int .u32), .vec 3 (.int .i64), .mem (.hv (.pair (.int .i64) (.pair (.int .u32) .unit)))], 0⟩
inductive Sp.E_56_0 where
 | e0 (p0 : Zt56_2) (p1 : Int) (p2 : Zt56_0) (p3 : Zt56_1)
 | e1 (p0 : Zt56_2) (p1 : Int) (p2 : Zt56_0) (p3 : Zt56_1)
 | e2 (p2 : Zt56_0) (p3 : Zt56_1) (p4 : Int × Unit) (p5 : Zt56_1) (p6 p7 : List Int) (p8 : Zt56_1)
noncomputable def Sp.B_56_0 {R : Type} (r : Option E_56_0) (k0 k1 : Zt56_2 → Int → Zt56_0 → Zt56_1 → Option R) (k2 : Zt56_0 → Zt56_1 → (Int × Unit) → Zt56_1 → List Int → List Int → Zt56_1 → Option R) : Option R := match r with
 | none => none
 | some (.e0 p0 p1 p2 p3) => k0 p0 p1 p2 p3
 | some (.e1 p0 p1 p2 p3) => k1 p0 p1 p2 p3
 | some (.e2 p2 p3 p4 p5 p6 p7 p8) => k2 p2 p3 p4 p5 p6 p7 p8
noncomputable def Y_56_0 {R : Type} (k : Ex → St → Option R) : E_56_0 → Option R
 | .e0 p0 p1 p2 p3 => k Ex.ret (sx 62 [(6, CV.ptr 0 []), (7, CV.ptr 1 []), (8, CV.int i64 ((v_75 (p2.1) ((getD p0 (toNat p1) Zd0).2.1) p3).2.2.1))] [Blk.mem (CV.pure (Ty.pair (Ty.pair (Ty.slice (Ty.int u32)) (Ty.pair (Ty.slice (Ty.int i64)) (Ty.pair (Ty.int i64) Ty.unit))) (Ty.pair (Ty.int i64) (Ty.pair (Ty.int i64) Ty.unit))) (((v_75 (p2.1) ((getD p0 (toNat p1) Zd0).2.1) p3).1, p2.2) : Zt56_3)), Blk.mem (CV.pure (Ty.pair (Ty.int i64) (Ty.pair (Ty.int u32) Ty.unit)) (((v_75 (p2.1) ((getD p0 (toNat p1) Zd0).2.1) p3).2.1) : (Int × (Int × Unit))))])
 | .e1 p0 p1 p2 p3 => k Ex.ret (sx 62 [(6, CV.ptr 0 []), (7, CV.ptr 1 []), (8, CV.int i64 ((v_76 (p2.1) ((getD p0 (toNat p1) Zd0).2.1) ((getD p0 (toNat p1) Zd0).2.2.1) p3).2.2.1))] [Blk.mem (CV.pure (Ty.pair (Ty.pair (Ty.slice (Ty.int u32)) (Ty.pair (Ty.slice (Ty.int i64)) (Ty.pair (Ty.int i64) Ty.unit))) (Ty.pair (Ty.int i64) (Ty.pair (Ty.int i64) Ty.unit))) (((v_76 (p2.1) ((getD p0 (toNat p1) Zd0).2.1) ((getD p0 (toNat p1) Zd0).2.2.1) p3).1, p2.2) : Zt56_3)), Blk.mem (CV.pure (Ty.pair (Ty.int i64) (Ty.pair (Ty.int u32) Ty.unit)) (((v_76 (p2.1) ((getD p0 (toNat p1) Zd0).2.1) ((getD p0 (toNat p1) Zd0).2.2.1) p3).2.1) : (Int × (Int × Unit))))])
 | .e2 p2 p3 p4 p5 p6 p7 p8 => k (Ex.exit 0) (sx 62 [(3, CV.ptr 0 []), (5, CV.ptr 1 []), (6, CV.ptr 2 []), (7, CV.ptr 5 [])] [Blk.mem (CV.pure (Ty.pair (Ty.pair (Ty.slice (Ty.int u32)) (Ty.pair (Ty.slice (Ty.int i64)) (Ty.pair (Ty.int i64) Ty.unit))) (Ty.pair (Ty.int i64) (Ty.pair (Ty.int i64) Ty.unit))) p2), Blk.mem (CV.pure (Ty.pair (Ty.int i64) (Ty.pair (Ty.int u32) Ty.unit)) p3), Blk.mem (CV.pair (CV.pair (CV.whole 3) (CV.pair (CV.whole 4) (CV.pure (Ty.pair (Ty.int i64) Ty.unit) p4))) (CV.pure (Ty.pair (Ty.int i64) (Ty.pair (Ty.int i64) Ty.unit)) p5)), Blk.vec 26 (Ty.int u32) p6, Blk.vec 3 (Ty.int i64) p7, Blk.mem (CV.pure (Ty.pair (Ty.int i64) (Ty.pair (Ty.int u32) Ty.unit)) p8)])
noncomputable def Sp.S_56_0 {R : Type} (K : (List (Bool × Int × Int × Unit)) → Int → ((List Int × List Int × Int × Unit) × Int × Int × Unit) → (Int × Int × Unit) → (Int × Unit) → (Int × Int × Unit) → List Int → List Int → (Int × Int × Unit) → Option R) (k : E_56_0 → Option R) (p0 : List (Bool × Int × Int × Unit)) (p1 : Int) (p2 : (List Int × List Int × Int × Unit) × Int × Int × Unit) (p3 : Int × Int × Unit) (p4 : Int × Unit) (p5 : Int × Int × Unit) (p6 p7 : List Int) (p8 : Int × Int × Unit) : Option R :=
 bif decide (p1 < (↑(length p0) : Int)) then gd (inB p1 (length p0)) (bif (getD p0 (toNat p1) Zd0).1 then gd (inB p1 (length p0)) (gd (p_75 (p2.1) ((getD p0 (toNat p1) Zd0).2.1) p3) (bif (v_75 (p2.1) ((getD p0 (toNat p1) Zd0).2.1) p3).2.2.1 != 0 then k (E_56_0.e0 p0 p1 p2 p3) else K p0 (wrap i64 (p1 + 1)) ((v_75 (p2.1) ((getD p0 (toNat p1) Zd0).2.1) p3).1, p2.2) ((v_75 (p2.1) ((getD p0 (toNat p1) Zd0).2.1) p3).2.1) p4 p5 p6 p7 p8)) else gd (inB p1 (length p0)) (gd (inB p1 (length p0)) (gd (p_76 (p2.1) ((getD p0 (toNat p1) Zd0).2.1) ((getD p0 (toNat p1) Zd0).2.2.1) p3) (bif (v_76 (p2.1) ((getD p0 (toNat p1) Zd0).2.1) ((getD p0 (toNat p1) Zd0).2.2.1) p3).2.2.1 != 0 then k (E_56_0.e1 p0 p1 p2 p3) else K p0 (wrap i64 (p1 + 1)) ((v_76 (p2.1) ((getD p0 (toNat p1) Zd0).2.1) ((getD p0 (toNat p1) Zd0).2.2.1) p3).1, p2.2) ((v_76 (p2.1) ((getD p0 (toNat p1) Zd0).2.1) ((getD p0 (toNat p1) Zd0).2.2.1) p3).2.1) p4 p5 p6 p7 p8)))) else k (E_56_0.e2 p2 p3 p4 p5 p6 p7 p8)
noncomputable def Sp.L_56_0 : Nat → (List (Bool × Int × Int × Unit)) → Int → ((List Int × List Int × Int × Unit) × Int × Int × Unit) → (Int × Int × Unit) → (Int × Unit) → (Int × Int × Unit) → List Int → List Int → (Int × Int × Unit) → Option E_56_0
 | 0, _, _, _, _, _, _, _, _, _ => none
 | m + 1, p0, p1, p2, p3, p4, p5, p6, p7, p8 => S_56_0 (L_56_0 m) some p0 p1 p2 p3 p4 p5 p6 p7 p8
noncomputable def l_56_0 (m : Nat) (a : T_56_0.E) : Option E_56_0 := L_56_0 m a.1 a.2.1 a.2.2.1 a.2.2.2.1 a.2.2.2.2.1 a.2.2.2.2.2.1 a.2.2.2.2.2.2.1 a.2.2.2.2.2.2.2.1 a.2.2.2.2.2.2.2.2.1
noncomputable def O_56_0 {R : Type} : Orc R := orL T_56_0 (l_56_0 FU) Y_56_0
theorem OK_56_0 {R : Type} : okF (R := R) sm_56 0 (nf 56 0) O_56_0 := lp0 T_56_0 l_56_0 (fun R K k a => S_56_0 (fun p0 p1 p2 p3 p4 p5 p6 p7 p8 => K (p0, p1, p2, p3, p4, p5, p6, p7, p8, ())) k a.1 a.2.1 a.2.2.1 a.2.2.2.1 a.2.2.2.2.1 a.2.2.2.2.2.1 a.2.2.2.2.2.2.1 a.2.2.2.2.2.2.2.1 a.2.2.2.2.2.2.2.2.1) Y_56_0 (fun _ _ _ => by kernel_rfl) (fun _ _ _ => by
 unfold S_56_0
 repeat' first | apply gdN | apply condN | rfl) (ok0 _)
noncomputable def F_56 (a0 : (((List Int) × ((List Int) × (Int × Unit))) × (Int × (Int × Unit)))) (a1 : (List (Bool × (Int × (Int × Unit))))) (a2 : (Int × (Int × Unit))) : Option ((((List Int) × ((List Int) × (Int × Unit))) × (Int × (Int × Unit))) × (Int × (Int × Unit)) × Int × Unit) :=
 B_56_0 (L_56_0 4611686018427387904 a1 0 a0 a2 (0, PUnit.unit) (0, 0, PUnit.unit) [] [] (0, 0, PUnit.unit)) (fun y15 y16 y17 y18 => some (((v_75 (y17.1) ((getD y15 (toNat y16) Zd0).2.1) y18).1, y17.2), (v_75 (y17.1) ((getD y15 (toNat y16) Zd0).2.1) y18).2.1, (v_75 (y17.1) ((getD y15 (toNat y16) Zd0).2.1) y18).2.2.1, PUnit.unit)) (fun y19 y20 y21 y22 => some (((v_76 (y21.1) ((getD y19 (toNat y20) Zd0).2.1) ((getD y19 (toNat y20) Zd0).2.2.1) y22).1, y21.2), (v_76 (y21.1) ((getD y19 (toNat y20) Zd0).2.1) ((getD y19 (toNat y20) Zd0).2.2.1) y22).2.1, (v_76 (y21.1) ((getD y19 (toNat y20) Zd0).2.1) ((getD y19 (toNat y20) Zd0).2.2.1) y22).2.2.1, PUnit.unit)) fun y23 y24 y25 y26 y27 y28 y29 => some (y23, y24, 0, PUnit.unit)
noncomputable def Sp.p_56 (a0 : (((List Int) × ((List Int) × (Int × Unit))) × (Int × (Int × Unit)))) (a1 : (List (Bool × (Int × (Int × Unit))))) (a2 : (Int × (Int × Unit))) : Bool := (F_56 a0 a1 a2).isSome
noncomputable def Sp.v_56 (a0 : (((List Int) × ((List Int) × (Int × Unit))) × (Int × (Int × Unit)))) (a1 : (List (Bool × (Int × (Int × Unit))))) (a2 : (Int × (Int × Unit))) : (((List Int) × ((List Int) × (Int × Unit))) × (Int × (Int × Unit))) × (Int × (Int × Unit)) × Int × Unit := (F_56 a0 a1 a2).getD (dfH R_56)
noncomputable def s_56 : Summ := shS A_56 R_56 (fun x => p_56 x.1 x.2.1 x.2.2.1) (fun x => v_56 x.1 x.2.1 x.2.2.1)
theorem pv_56 (a0 : (((List Int) × ((List Int) × (Int × Unit))) × (Int × (Int × Unit)))) (a1 : (List (Bool × (Int × (Int × Unit))))) (a2 : (Int × (Int × Unit))) {y : (((List Int) × ((List Int) × (Int × Unit))) × (Int × (Int × Unit))) × (Int × (Int × Unit)) × Int × Unit} (h : F_56 a0 a1 a2 = some y) : p_56 a0 a1 a2 = true ∧ v_56 a0 a1 a2 = y := pvG h
theorem run_56 (x : HDen A_56) (y : HDen R_56) (h : F_56 x.1 x.2.1 x.2.2.1 = some y) : rnF sm_56 1 56 A_56 R_56 x y := runG noO_ok (os := [O_56_0]) ⟨OK_56_0, trivial⟩ (Eq.trans (by kernel_rfl) h)
end
noncomputable section
abbrev A_17 : List Ty := [(.pair (.pair (.slice (.int .u32)) (.pair (.slice (.int .i64)) (.pair (.int .i64) .unit))) (.pair (.int .i64) (.pair (.int .i64) .unit))), (.pair (.int .i64) (.pair (.int .u32) .unit)), (.int .i64), (.pair (.pair (.slice (.int .u32)) (.pair (.slice (.int .i64)) (.pair (.int .i64) .unit))) (.pair (.int .i64) (.pair (.int .i64) .unit))), (.pair (.int .i64) (.pair (.int .u32) .unit)), (.slice (.pair .bool (.pair (.int .i64) (.pair (.int .u32) .unit)))), (.int .i64)]
abbrev R_17 : List Ty := [.bool]
noncomputable def sm_17 : Nat → Option Summ := smL [(14, s_14), (33, s_33), (56, s_56)]
noncomputable def F_17 (a0 : (((List Int) × ((List Int) × (Int × Unit))) × (Int × (Int × Unit)))) (a1 : (Int × (Int × Unit))) (a2 : Int) (a3 : (((List Int) × ((List Int) × (Int × Unit))) × (Int × (Int × Unit)))) (a4 : (Int × (Int × Unit))) (a5 : (List (Bool × (Int × (Int × Unit))))) (a6 : Int) : Option (Bool × Unit) :=
 bif a6 != 0 then bif a2 == a6 then gd (p_14 a0) (bif (v_14 a0).1 then some (Ty.beq (Ty.pair (Ty.int i64) (Ty.pair (Ty.int u32) Ty.unit)) a1 (0, 0, PUnit.unit), PUnit.unit) else some (false, PUnit.unit)) else some (false, PUnit.unit) else gd (p_56 a3 a5 a4) (bif a2 == (v_56 a3 a5 a4).2.2.1 then gd (p_33 a0 ((v_56 a3 a5 a4).1)) (bif (v_33 a0 ((v_56 a3 a5 a4).1)).1 then some (Ty.beq (Ty.pair (Ty.int i64) (Ty.pair (Ty.int u32) Ty.unit)) a1 ((v_56 a3 a5 a4).2.1), PUnit.unit) else some (false, PUnit.unit)) else some (false, PUnit.unit))
noncomputable def Sp.p_17 (a0 : (((List Int) × ((List Int) × (Int × Unit))) × (Int × (Int × Unit)))) (a1 : (Int × (Int × Unit))) (a2 : Int) (a3 : (((List Int) × ((List Int) × (Int × Unit))) × (Int × (Int × Unit)))) (a4 : (Int × (Int × Unit))) (a5 : (List (Bool × (Int × (Int × Unit))))) (a6 : Int) : Bool := (F_17 a0 a1 a2 a3 a4 a5 a6).isSome
noncomputable def Sp.v_17 (a0 : (((List Int) × ((List Int) × (Int × Unit))) × (Int × (Int × Unit)))) (a1 : (Int × (Int × Unit))) (a2 : Int) (a3 : (((List Int) × ((List Int) × (Int × Unit))) × (Int × (Int × Unit)))) (a4 : (Int × (Int × Unit))) (a5 : (List (Bool × (Int × (Int × Unit))))) (a6 : Int) : Bool × Unit := (F_17 a0 a1 a2 a3 a4 a5 a6).getD (dfH R_17)
noncomputable def s_17 : Summ := shN A_17 R_17 (fun x => p_17 x.1 x.2.1 x.2.2.1 x.2.2.2.1 x.2.2.2.2.1 x.2.2.2.2.2.1 x.2.2.2.2.2.2.1) (fun x => v_17 x.1 x.2.1 x.2.2.1 x.2.2.2.1 x.2.2.2.2.1 x.2.2.2.2.2.1 x.2.2.2.2.2.2.1)
theorem pv_17 (a0 : (((List Int) × ((List Int) × (Int × Unit))) × (Int × (Int × Unit)))) (a1 : (Int × (Int × Unit))) (a2 : Int) (a3 : (((List Int) × ((List Int) × (Int × Unit))) × (Int × (Int × Unit)))) (a4 : (Int × (Int × Unit))) (a5 : (List (Bool × (Int × (Int × Unit))))) (a6 : Int) {y : Bool × Unit} (h : F_17 a0 a1 a2 a3 a4 a5 a6 = some y) : p_17 a0 a1 a2 a3 a4 a5 a6 = true ∧ v_17 a0 a1 a2 a3 a4 a5 a6 = y := pvG h
theorem run_17 (x : HDen A_17) (y : HDen R_17) (h : F_17 x.1 x.2.1 x.2.2.1 x.2.2.2.1 x.2.2.2.2.1 x.2.2.2.2.2.1 x.2.2.2.2.2.2.1 = some y) : rnF sm_17 1 17 A_17 R_17 x y := runG noO_ok (os := []) trivial (Eq.trans (by kernel_rfl) h)
end
noncomputable section
abbrev A_3 : List Ty := [(.pair (.slice (.int .u32)) (.pair (.slice (.int .i64)) (.pair (.int .i64) .unit))), (.int .i64), (.int .i64), (.pair (.int .i64) (.pair (.int .u32) .unit))]
abbrev R_3 : List Ty := [.bool]
noncomputable def sm_3 : Nat → Option Summ := smL [(9, s_9), (10, s_10), (11, s_11), (12, s_12), (13, s_13), (14, s_14), (15, s_15), (16, s_16), (17, s_17), (18, s_18)]
noncomputable def T_3_0 : PS := ⟨101, [(9, .kc (.ptr 0 [])), (10, .kc (.ptr 1 [])), (11, .hv (.int .i64))], [.mem (.hv (.pair (.pair (.slice (.int .u32)) (.pair (.slice (.int .i64)) (.pair (.int .i64) .unit))) (.pair (.int .i64) (.pair (.int .i64) .unit)))), .mem (.hv (.pair (.int .i64) (.pair (.int .u32) .unit)))], 0⟩
inductive Sp.E_3_0 where
 | e0 (p2 : Int × Int × Unit)
 | e1
noncomputable def Sp.B_3_0 {R : Type} (r : Option E_3_0) (k0 : (Int × Int × Unit) → Option R) (k1 : Option R) : Option R := match r with
 | none => none
 | some (.e0 p2) => k0 p2
 | some (.e1) => k1
noncomputable def Y_3_0 {R : Type} (k : Ex → St → Option R) : E_3_0 → Option R
 | .e0 p2 => k Ex.ret (sx 101 [(8, CV.bool (Ty.beq (Ty.pair (Ty.int i64) (Ty.pair (Ty.int u32) Ty.unit)) p2 (0, 0, PUnit.unit)))] [])
 | .e1 => k Ex.ret (sx 101 [(8, CV.bool false)] [])
noncomputable def Sp.S_3_0 {R : Type} (k : E_3_0 → Option R) (p0 : Int) (p1 : (List Int × List Int × Int × Unit) × Int × Int × Unit) (p2 : Int × Int × Unit) : Option R :=
 bif p0 == 1 then gd (p_14 p1) (bif (v_14 p1).1 then k (E_3_0.e0 p2) else k (E_3_0.e1)) else k (E_3_0.e1)
noncomputable def Sp.J_3_0 (p0 : Int) (p1 : (List Int × List Int × Int × Unit) × Int × Int × Unit) (p2 : Int × Int × Unit) : Option E_3_0 := S_3_0 some p0 p1 p2
noncomputable def O_3_0 {R : Type} : Orc R := orL T_3_0 (fun a => J_3_0 a.1 a.2.1 a.2.2.1) Y_3_0
theorem OK_3_0 {R : Type} : okF (R := R) sm_3 0 (nf 3 0) O_3_0 := jp noO_ok (os := []) trivial T_3_0 (fun R k a => S_3_0 k a.1 a.2.1 a.2.2.1) Y_3_0 (fun k a => by kernel_rfl) (fun Y a => by
 unfold S_3_0
 repeat' first | apply gdN | apply condN | rfl) (ok0 _)
noncomputable def F_3 (a0 : ((List Int) × ((List Int) × (Int × Unit)))) (a1 a2 : Int) (a3 : (Int × (Int × Unit))) : Option (Bool) :=
 gd p_9 (bif !v_9.1 then some false else gd (p_10 a0) (bif (v_10 a0).1 then some true else gd (p_11 a0 a1 a2 a3) (gd (p_12 a0) (bif !(v_12 a0).1 then B_3_0 (J_3_0 ((v_11 a0 a1 a2 a3).2.2.1) ((v_11 a0 a1 a2 a3).1) ((v_11 a0 a1 a2 a3).2.1)) (fun y2 => some (Ty.beq (Ty.pair (Ty.int i64) (Ty.pair (Ty.int u32) Ty.unit)) y2 (0, 0, PUnit.unit))) (some false) else gd (p_13 a3) (bif !(v_13 a3).1 then B_3_0 (J_3_0 ((v_11 a0 a1 a2 a3).2.2.1) ((v_11 a0 a1 a2 a3).1) ((v_11 a0 a1 a2 a3).2.1)) (fun y3 => some (Ty.beq (Ty.pair (Ty.int i64) (Ty.pair (Ty.int u32) Ty.unit)) y3 (0, 0, PUnit.unit))) (some false) else gd (p_15 a0 a1 a2) (bif !(v_15 a0 a1 a2).1 then bif (v_11 a0 a1 a2 a3).2.2.1 == 2 then gd (p_14 ((v_11 a0 a1 a2 a3).1)) (bif (v_14 ((v_11 a0 a1 a2 a3).1)).1 then some (Ty.beq (Ty.pair (Ty.int i64) (Ty.pair (Ty.int u32) Ty.unit)) ((v_11 a0 a1 a2 a3).2.1) (0, 0, PUnit.unit)) else some false) else some false else gd (p_16 (a0, a1, a2, PUnit.unit)) (gd (p_17 ((v_11 a0 a1 a2 a3).1) ((v_11 a0 a1 a2 a3).2.1) ((v_11 a0 a1 a2 a3).2.2.1) (a0, a1, a2, PUnit.unit) a3 ((v_16 (a0, a1, a2, PUnit.unit)).1) ((v_16 (a0, a1, a2, PUnit.unit)).2.1)) (bif !(v_17 ((v_11 a0 a1 a2 a3).1) ((v_11 a0 a1 a2 a3).2.1) ((v_11 a0 a1 a2 a3).2.2.1) (a0, a1, a2, PUnit.unit) a3 ((v_16 (a0, a1, a2, PUnit.unit)).1) ((v_16 (a0, a1, a2, PUnit.unit)).2.1)).1 then some false else gd (p_18 ((v_11 a0 a1 a2 a3).1)) (bif (v_11 a0 a1 a2 a3).2.2.1 != 0 then some true else bif (v_18 ((v_11 a0 a1 a2 a3).1)).2.1 == 0 then some ((↑(length ((v_18 ((v_11 a0 a1 a2 a3).1)).1)) : Int) == 0) else some false)))))))))
theorem run_3 (a0 : ((List Int) × ((List Int) × (Int × Unit)))) (a1 a2 : Int) (a3 : (Int × (Int × Unit))) {b : Bool} (h : F_3 a0 a1 a2 a3 = some b) : evFn sm_3 fns FU 1 3 (ofH A_3 (a0, a1, a2, a3, ())) [] bk = some b := runG noO_ok (os := [O_3_0]) ⟨OK_3_0, trivial⟩ (Eq.trans (by kernel_rfl) h)
end
end Go.Ev
namespace Go.Proofs
open Go.Shelf
noncomputable def Try.clone31_ren : Go.Shelf.Ren := ⟨fun | 41 => 31 | n => n, fun | 22 => 22 | 23 => 26 | 4 => 4 | n => n, fun | n => n⟩
theorem Try.clone31 : Go.Proofs.SlLaysE0.n41 Try.prog Try.clone31_ren := {
 mixed := by kernel_rfl
 f41 := ⟨Try.f31.name, by decide, Try.func31.trans (congrArg some (by kernel_rfl))⟩
 t4 := Try.underlying4
 a4 := Try.isAgg4
 z4 := Try.sizeOf4
 v4 := Try.zeroValue4
 t22 := Try.underlying22
 a22 := Try.isAgg22
 z22 := Try.sizeOf22
 v22 := Try.zeroValue22 }
noncomputable def Try.clone90_ren : Go.Shelf.Ren := ⟨fun | 41 => 90 | n => n, fun | 22 => 23 | 23 => 3 | 4 => 4 | n => n, fun | n => n⟩
theorem Try.clone90 : Go.Proofs.SlLaysE0.n41 Try.prog Try.clone90_ren := {
 mixed := by kernel_rfl
 f41 := ⟨Try.f90.name, by decide, Try.func90.trans (congrArg some (by kernel_rfl))⟩
 t4 := Try.underlying4
 a4 := Try.isAgg4
 z4 := Try.sizeOf4
 v4 := Try.zeroValue4
 t22 := Try.underlying23
 a22 := Try.isAgg23
 z22 := Try.sizeOf23
 v22 := Try.zeroValue23 }
end Go.Proofs
namespace Go.Ev
open Go Go.Proofs Go.RowKit
set_option maxRecDepth 100000
set_option maxHeartbeats 4000000
theorem info31 : ∃ i, Try.prog.info? 26 = some i ∧ i.zero = some (.int .u32 0) ∧ i.size = 1 ∧ i.bytes = 4 := ⟨_, rfl, by kernel_rfl, by kernel_rfl, by kernel_rfl⟩
theorem sok_31 : SummOK Try.prog 31 (vecS (.int .u32) 26 4) := by
 obtain ⟨i, hi, h0, h1, h2⟩ := info31
 exact clone_vec (by kernel_rfl) (by decide)
   (fun b off n c news w hl hn hb hc h3 => AnyE.slices_Clone Try.clone31 i _ 1 4 hi h0 h1 h2 (by kernel_rfl) (by decide) Try.sizeOf26 b off n c news w hl hn hb hc h3)
   (fun n c w => AnyE.slices_Clone_nil Try.clone31 n c w)
   (fun a c w => clone_zero Try.clone31 i _ 1 4 hi h0 h1 h2 (by kernel_rfl) (by decide) Try.sizeOf26 a c w)
theorem info90 : ∃ i, Try.prog.info? 3 = some i ∧ i.zero = some (.int .i64 0) ∧ i.size = 1 ∧ i.bytes = 8 := ⟨_, rfl, by kernel_rfl, by kernel_rfl, by kernel_rfl⟩
theorem sok_90 : SummOK Try.prog 90 (vecS (.int .i64) 3 8) := by
 obtain ⟨i, hi, h0, h1, h2⟩ := info90
 exact clone_vec (by kernel_rfl) (by decide)
   (fun b off n c news w hl hn hb hc h3 => AnyE.slices_Clone Try.clone90 i _ 1 8 hi h0 h1 h2 (by kernel_rfl) (by decide) Try.sizeOf3 b off n c news w hl hn hb hc h3)
   (fun n c w => AnyE.slices_Clone_nil Try.clone90 n c w)
   (fun a c w => clone_zero Try.clone90 i _ 1 8 hi h0 h1 h2 (by kernel_rfl) (by decide) Try.sizeOf3 a c w)
noncomputable def ins86_ren : Go.Shelf.Ren := ⟨fun | 22 => 86 | 29 => 103 | 30 => 104 | n => n, fun | 9 => 59 | 24 => 43 | n => n, fun | n => n⟩
theorem ins86_lay : InsL Try.prog ins86_ren (.agg #[.int .i64 0, .slice none 0 0]) 32 := {
 mixed := by kernel_rfl
 f22 := ⟨Try.f86.name, by decide, Try.func86.trans (congrArg some (by kernel_rfl))⟩
 f29 := ⟨_, Try.func103, by decide, by kernel_rfl, by kernel_rfl, by kernel_rfl⟩
 t0 := Try.underlying0
 a0 := Try.isAgg0
 z0 := Try.sizeOf0
 v0 := Try.zeroValue0
 t3 := Try.underlying3
 a3 := Try.isAgg3
 z3 := Try.sizeOf3
 v3 := Try.zeroValue3
 t4 := Try.underlying4
 a4 := Try.isAgg4
 z4 := Try.sizeOf4
 v4 := Try.zeroValue4
 t24 := Try.underlying43
 a24 := Try.isAgg43
 z24 := Try.sizeOf43
 v24 := Try.zeroValue43
 z9 := Try.sizeOf59
 i9 := by kernel_rfl
 c9 := by kernel_rfl }
theorem sok_86 : SummOK Try.prog 86 (insS (.pair (.int .i64) (.pair (.slice (.int .u32)) .unit)) 59 32) := ins_sum ins86_lay rfl rfl (by kernel_rfl) (by decide) (by decide)
theorem sok_43 : SummOK Try.prog 43 s_43 := sokN hm0 run_43 trivial
theorem sok_45 : SummOK Try.prog 45 s_45 := sokN hm0 run_45 trivial
theorem sok_49 : SummOK Try.prog 49 s_49 := sokN hm0 run_49 trivial
theorem sok_83 : SummOK Try.prog 83 s_83 := sokN hm0 run_83 trivial
theorem sok_78 : SummOK Try.prog 78 s_78 := sokS hm0 run_78 ⟨sok_49, sok_83, trivial⟩
theorem sok_50 : SummOK Try.prog 50 s_50 := sokN hm0 run_50 trivial
theorem sok_100 : SummOK Try.prog 100 s_100 := sokN hm0 run_100 ⟨sok_50, trivial⟩
theorem sok_77 : SummOK Try.prog 77 s_77 := sokN hm0 run_77 ⟨sok_78, sok_100, trivial⟩
theorem sok_57 : SummOK Try.prog 57 s_57 := sokN hm0 run_57 ⟨sok_77, trivial⟩
theorem sok_26 : SummOK Try.prog 26 s_26 := sokN hm0 run_26 ⟨sok_43, sok_45, sok_57, trivial⟩
theorem sok_44 : SummOK Try.prog 44 s_44 := sokN hm0 run_44 trivial
theorem sok_69 : SummOK Try.prog 69 s_69 := sokS hm0 run_69 ⟨sok_31, sok_90, trivial⟩
theorem sok_93 : SummOK Try.prog 93 s_93 := sokN hm0 run_93 ⟨sok_43, trivial⟩
theorem sok_73 : SummOK Try.prog 73 s_73 := sokS hm0 run_73 ⟨sok_31, sok_90, sok_93, trivial⟩
theorem sok_74 : SummOK Try.prog 74 s_74 := sokS hm0 run_74 ⟨sok_31, sok_90, sok_93, trivial⟩
theorem sok_47 : SummOK Try.prog 47 s_47 := sokS hm0 run_47 ⟨sok_69, sok_73, sok_74, trivial⟩
theorem sok_48 : SummOK Try.prog 48 s_48 := sokS hm0 run_48 trivial
theorem sok_82 : SummOK Try.prog 82 s_82 := sokN hm0 run_82 trivial
theorem sok_58 : SummOK Try.prog 58 s_58 := sokO hm0 run_58 ⟨sok_31, sok_78, sok_82, sok_86, sok_100, trivial⟩
theorem sok_59 : SummOK Try.prog 59 s_59 := sokS hm0 run_59 ⟨sok_50, sok_82, trivial⟩
theorem sok_46 : SummOK Try.prog 46 s_46 := sokO hm0 run_46 trivial
theorem sok_60 : SummOK Try.prog 60 s_60 := sokS hm0 run_60 ⟨sok_46, sok_48, sok_49, sok_50, sok_57, sok_59, sok_77, sok_83, trivial⟩
theorem sok_19 : SummOK Try.prog 19 s_19 := sokS hm0 run_19 ⟨sok_26, sok_31, sok_44, sok_47, sok_48, sok_49, sok_57, sok_58, sok_59, sok_60, sok_86, trivial⟩
theorem sok_27 : SummOK Try.prog 27 s_27 := sokN hm0 run_27 trivial
theorem sok_28 : SummOK Try.prog 28 s_28 := sokN hm0 run_28 ⟨sok_26, sok_57, sok_58, trivial⟩
theorem sok_34 : SummOK Try.prog 34 s_34 := sokN hm0 run_34 trivial
theorem sok_18 : SummOK Try.prog 18 s_18 := sokS hm0 run_18 ⟨sok_26, sok_57, sok_58, trivial⟩
theorem sok_36 : SummOK Try.prog 36 s_36 := sokS hm0 run_36 ⟨sok_18, trivial⟩
theorem sok_11 : SummOK Try.prog 11 s_11 := sokS hm0 run_11 ⟨sok_43, sok_44, sok_45, sok_46, sok_47, sok_48, sok_49, sok_50, trivial⟩
theorem sok_108 : SummOK Try.prog 108 s_108 := sokN hm0 run_108 trivial
theorem sok_109 : SummOK Try.prog 109 s_109 := sokN hm0 run_109 trivial
theorem sok_105 : SummOK Try.prog 105 s_105 := sokN hm0 run_105 ⟨sok_108, sok_109, trivial⟩
theorem sok_91 : SummOK Try.prog 91 s_91 := sokS hm0 run_91 ⟨sok_105, trivial⟩
theorem sok_70 : SummOK Try.prog 70 s_70 := sokS hm0 run_70 ⟨sok_91, trivial⟩
theorem sok_41 : SummOK Try.prog 41 s_41 := sokS hm0 run_41 ⟨sok_11, sok_26, sok_27, sok_70, trivial⟩
theorem sok_9 : SummOK Try.prog 9 s_9 := sokN hm0 run_9 ⟨sok_19, sok_27, sok_28, sok_34, sok_36, sok_41, trivial⟩
theorem sok_10 : SummOK Try.prog 10 s_10 := sokN hm0 run_10 trivial
theorem sok_51 : SummOK Try.prog 51 s_51 := sokN hm0 run_51 trivial
theorem sok_12 : SummOK Try.prog 12 s_12 := sokN hm0 run_12 ⟨sok_51, trivial⟩
theorem sok_13 : SummOK Try.prog 13 s_13 := sokN hm0 run_13 trivial
theorem sok_68 : SummOK Try.prog 68 s_68 := sokN hm0 run_68 trivial
theorem sok_33 : SummOK Try.prog 33 s_33 := sokN hm0 run_33 ⟨sok_68, trivial⟩
theorem sok_14 : SummOK Try.prog 14 s_14 := sokN hm0 run_14 ⟨sok_33, trivial⟩
theorem sok_15 : SummOK Try.prog 15 s_15 := sokN hm0 run_15 trivial
theorem sok_52 : SummOK Try.prog 52 s_52 := sokN hm0 run_52 trivial
theorem sok_53 : SummOK Try.prog 53 s_53 := sokO hm0 run_53 trivial
theorem sok_64 : SummOK Try.prog 64 s_64 := sokN hm0 run_64 trivial
theorem sok_54 : SummOK Try.prog 54 s_54 := sokN hm0 run_54 ⟨sok_64, trivial⟩
theorem sok_55 : SummOK Try.prog 55 s_55 := sokN hm0 run_55 trivial
theorem sok_16 : SummOK Try.prog 16 s_16 := sokS hm0 run_16 ⟨sok_52, sok_53, sok_54, sok_55, trivial⟩
theorem sok_106 : SummOK Try.prog 106 s_106 := sokN hm0 run_106 trivial
theorem sok_98 : SummOK Try.prog 98 s_98 := sokS hm0 run_98 ⟨sok_12, sok_13, sok_106, trivial⟩
theorem sok_75 : SummOK Try.prog 75 s_75 := sokS hm0 run_75 ⟨sok_98, trivial⟩
theorem sok_99 : SummOK Try.prog 99 s_99 := sokS hm0 run_99 ⟨sok_12, sok_13, sok_106, trivial⟩
theorem sok_76 : SummOK Try.prog 76 s_76 := sokS hm0 run_76 ⟨sok_99, trivial⟩
theorem sok_56 : SummOK Try.prog 56 s_56 := sokS hm0 run_56 ⟨sok_75, sok_76, trivial⟩
theorem sok_17 : SummOK Try.prog 17 s_17 := sokN hm0 run_17 ⟨sok_14, sok_33, sok_56, trivial⟩
theorem call_3 {R : Type} (n base : Nat) : CallOK Try.prog base (rokOf Try.prog smB fns) (evFn (R := R) sm_3 fns FU n) := callG hm0 (l := [(9, s_9), (10, s_10), (11, s_11), (12, s_12), (13, s_13), (14, s_14), (15, s_15), (16, s_16), (17, s_17), (18, s_18)]) ⟨sok_9, sok_10, sok_11, sok_12, sok_13, sok_14, sok_15, sok_16, sok_17, sok_18, trivial⟩ n base
end Go.Ev
