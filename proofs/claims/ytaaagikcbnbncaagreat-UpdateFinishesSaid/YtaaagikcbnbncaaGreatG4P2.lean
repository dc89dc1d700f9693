/- Helpers: functions of the program as Lean functions, and what they compute. No condition. -/
import Derived.Test.YtaaagikcbnbncaaGreatG4P1
import Derived.Test.YtaaagikcbnbncaaGreatProg
import Derived.Test.YtaaagikcbnbncaaGreatE4P2
import Derived.Test.YtaaagikcbnbncaaGreatG4P0
set_option maxRecDepth 10000
set_option linter.unusedVariables false
set_option linter.unusedSimpArgs false
open Go.IntKind (wrap i64 i32 i16 i8 u64 u32 u16 u8)
open List (getD length take drop replicate)
open Int (toNat)
open Go.Ev.Sp
namespace Go.Ev
open Go
set_option maxRecDepth 100000
set_option maxHeartbeats 4000000
set_option linter.unusedVariables false
noncomputable section
abbrev A_95 : List Ty := [(.pair (.int .i64) (.pair (.slice (.arr 32 (.int .u8))) (.pair (.slice (.arr 32 (.int .u8))) .unit)))]
abbrev R_95 : List Ty := [.bool]
noncomputable def sm_95 : Nat → Option Summ := smL []
noncomputable def F_95 (a0 : (Int × ((List (List Int)) × ((List (List Int)) × Unit)))) : Option (Bool × Unit) :=
 bif decide (a0.1 ≥ 0) then bif decide (a0.1 ≤ 3) then bif (↑(length (a0.2.1)) : Int) == 67 then some ((↑(length (a0.2.2.1)) : Int) == 2, PUnit.unit) else some (false, PUnit.unit) else some (false, PUnit.unit) else some (false, PUnit.unit)
noncomputable def Sp.p_95 (a0 : (Int × ((List (List Int)) × ((List (List Int)) × Unit)))) : Bool := (F_95 a0).isSome
noncomputable def Sp.v_95 (a0 : (Int × ((List (List Int)) × ((List (List Int)) × Unit)))) : Bool × Unit := (F_95 a0).getD (dfH R_95)
noncomputable def s_95 : Summ := shN A_95 R_95 (fun x => p_95 x.1) (fun x => v_95 x.1)
theorem pv_95 (a0 : (Int × ((List (List Int)) × ((List (List Int)) × Unit)))) {y : Bool × Unit} (h : F_95 a0 = some y) : p_95 a0 = true ∧ v_95 a0 = y := pvG h
theorem run_95 (x : HDen A_95) (y : HDen R_95) (h : F_95 x.1 = some y) : rnF sm_95 1 95 A_95 R_95 x y := runG noO_ok (os := []) trivial (Eq.trans (by kernel_rfl) h)
end
noncomputable section
abbrev A_53 : List Ty := [(.pair (.int .i64) (.pair (.int .i64) (.pair (.arr 32 (.int .u8)) (.pair (.pair (.int .i64) (.pair (.slice (.arr 32 (.int .u8))) (.pair (.slice (.arr 32 (.int .u8))) .unit))) .unit)))), (.int .i64)]
abbrev R_53 : List Ty := [.bool]
noncomputable def sm_53 : Nat → Option Summ := smL [(95, s_95)]
noncomputable def F_53 (a0 : (Int × (Int × ((List Int) × ((Int × ((List (List Int)) × ((List (List Int)) × Unit))) × Unit))))) (a1 : Int) : Option (Bool × Unit) :=
 bif decide (a0.1 ≥ 1) then bif decide (a0.1 < 2147483648) then bif decide (a0.2.1 ≥ 1) then bif decide (a0.2.1 ≤ a1) then gd (p_95 (a0.2.2.2.1)) (some ((v_95 (a0.2.2.2.1)).1, PUnit.unit)) else some (false, PUnit.unit) else some (false, PUnit.unit) else some (false, PUnit.unit) else some (false, PUnit.unit)
noncomputable def Sp.p_53 (a0 : (Int × (Int × ((List Int) × ((Int × ((List (List Int)) × ((List (List Int)) × Unit))) × Unit))))) (a1 : Int) : Bool := (F_53 a0 a1).isSome
noncomputable def Sp.v_53 (a0 : (Int × (Int × ((List Int) × ((Int × ((List (List Int)) × ((List (List Int)) × Unit))) × Unit))))) (a1 : Int) : Bool × Unit := (F_53 a0 a1).getD (dfH R_53)
noncomputable def s_53 : Summ := shN A_53 R_53 (fun x => p_53 x.1 x.2.1) (fun x => v_53 x.1 x.2.1)
theorem pv_53 (a0 : (Int × (Int × ((List Int) × ((Int × ((List (List Int)) × ((List (List Int)) × Unit))) × Unit))))) (a1 : Int) {y : Bool × Unit} (h : F_53 a0 a1 = some y) : p_53 a0 a1 = true ∧ v_53 a0 a1 = y := pvG h
theorem run_53 (x : HDen A_53) (y : HDen R_53) (h : F_53 x.1 x.2.1 = some y) : rnF sm_53 1 53 A_53 R_53 x y := runG noO_ok (os := []) trivial (Eq.trans (by kernel_rfl) h)
end
noncomputable section
abbrev A_11 : List Ty := [(.pair (.int .i64) (.pair (.int .i64) (.pair (.int .i64) (.pair (.pair (.int .i64) (.pair (.int .i64) (.pair (.arr 32 (.int .u8)) (.pair (.pair (.int .i64) (.pair (.slice (.arr 32 (.int .u8))) (.pair (.slice (.arr 32 (.int .u8))) .unit))) .unit)))) .unit))))]
abbrev R_11 : List Ty := [.bool]
noncomputable def sm_11 : Nat → Option Summ := smL [(38, s_38), (53, s_53)]
noncomputable def T_11_0 : PS := ⟨53, [(1, .kc (.ptr 0 []))], [.mem (.hv (.pair (.int .i64) (.pair (.int .i64) (.pair (.int .i64) (.pair (.pair (.int .i64) (.pair (.int .i64) (.pair (.arr 32 (.int .u8)) (.pair (.pair (.int .i64) (.pair (.slice (.arr 32 (.int .u8))) (.pair (.slice (.arr 32 (.int .u8))) .unit))) .unit)))) .unit)))))], 0⟩
inductive Sp.E_11_0 where
 | e0 (p0 : Int × Int × Int × (Int × Int × List Int × (Int × List (List Int) × List (List Int) × Unit) × Unit) × Unit)
 | e1
 | e2 (p0 : Int × Int × Int × (Int × Int × List Int × (Int × List (List Int) × List (List Int) × Unit) × Unit) × Unit)
noncomputable def Sp.B_11_0 {R : Type} (r : Option E_11_0) (k0 : (Int × Int × Int × (Int × Int × List Int × (Int × List (List Int) × List (List Int) × Unit) × Unit) × Unit) → Option R) (k1 : Option R) (k2 : (Int × Int × Int × (Int × Int × List Int × (Int × List (List Int) × List (List Int) × Unit) × Unit) × Unit) → Option R) : Option R := match r with
 | none => none
 | some (.e0 p0) => k0 p0
 | some (.e1) => k1
 | some (.e2 p0) => k2 p0
noncomputable def Y_11_0 {R : Type} (k : Ex → St → Option R) : E_11_0 → Option R
 | .e0 p0 => k Ex.ret (sx 53 [(2, CV.bool (Int.tmod (p0.2.2.1) (32 :Int) == (0 :Int)))] [])
 | .e1 => k Ex.ret (sx 53 [(2, CV.bool false)] [])
 | .e2 p0 => k Ex.ret (sx 53 [(2, CV.bool (p0.2.2.1 == p0.2.2.2.1.2.1))] [])
noncomputable def Sp.S_11_0 {R : Type} (k : E_11_0 → Option R) (p0 : Int × Int × Int × (Int × Int × List Int × (Int × List (List Int) × List (List Int) × Unit) × Unit) × Unit) : Option R :=
 bif p0.1 == 1 then bif decide (p0.2.2.1 ≥ 0) then bif decide (p0.2.2.1 < p0.2.2.2.1.2.1) then k (E_11_0.e0 p0) else k (E_11_0.e1) else k (E_11_0.e1) else bif p0.1 == 2 then k (E_11_0.e2 p0) else k (E_11_0.e1)
noncomputable def Sp.J_11_0 (p0 : Int × Int × Int × (Int × Int × List Int × (Int × List (List Int) × List (List Int) × Unit) × Unit) × Unit) : Option E_11_0 := S_11_0 some p0
noncomputable def O_11_0 {R : Type} : Orc R := orL T_11_0 (fun a => J_11_0 a.1) Y_11_0
theorem OK_11_0 {R : Type} : okF (R := R) sm_11 0 (nf 11 0) O_11_0 := jp noO_ok (os := []) trivial T_11_0 (fun R k a => S_11_0 k a.1) Y_11_0 (fun k a => by kernel_rfl) (fun Y a => by
 unfold S_11_0
 repeat' first | apply gdN | apply condN | rfl) (ok0 _)
noncomputable def F_11 (a0 : (Int × (Int × (Int × ((Int × (Int × ((List Int) × ((Int × ((List (List Int)) × ((List (List Int)) × Unit))) × Unit)))) × Unit))))) : Option (Bool × Unit) :=
 bif a0.1 == 0 then gd (p_38 a0) (some ((v_38 a0).1, PUnit.unit)) else bif a0.2.1 != 0 then bif a0.2.1 != 1 then some (false, PUnit.unit) else gd (p_53 (a0.2.2.2.1) 1484) (bif !(v_53 (a0.2.2.2.1) 1484).1 then some (false, PUnit.unit) else B_11_0 (J_11_0 a0) (fun y4 => some (Int.tmod (y4.2.2.1) (32 :Int) == (0 :Int), PUnit.unit)) (some (false, PUnit.unit)) fun y5 => some (y5.2.2.1 == y5.2.2.2.1.2.1, PUnit.unit)) else gd (p_53 (a0.2.2.2.1) 1484) (bif !(v_53 (a0.2.2.2.1) 1484).1 then some (false, PUnit.unit) else B_11_0 (J_11_0 a0) (fun y6 => some (Int.tmod (y6.2.2.1) (32 :Int) == (0 :Int), PUnit.unit)) (some (false, PUnit.unit)) fun y7 => some (y7.2.2.1 == y7.2.2.2.1.2.1, PUnit.unit))
noncomputable def Sp.p_11 (a0 : (Int × (Int × (Int × ((Int × (Int × ((List Int) × ((Int × ((List (List Int)) × ((List (List Int)) × Unit))) × Unit)))) × Unit))))) : Bool := (F_11 a0).isSome
noncomputable def Sp.v_11 (a0 : (Int × (Int × (Int × ((Int × (Int × ((List Int) × ((Int × ((List (List Int)) × ((List (List Int)) × Unit))) × Unit)))) × Unit))))) : Bool × Unit := (F_11 a0).getD (dfH R_11)
noncomputable def s_11 : Summ := shN A_11 R_11 (fun x => p_11 x.1) (fun x => v_11 x.1)
theorem pv_11 (a0 : (Int × (Int × (Int × ((Int × (Int × ((List Int) × ((Int × ((List (List Int)) × ((List (List Int)) × Unit))) × Unit)))) × Unit))))) {y : Bool × Unit} (h : F_11 a0 = some y) : p_11 a0 = true ∧ v_11 a0 = y := pvG h
theorem run_11 (x : HDen A_11) (y : HDen R_11) (h : F_11 x.1 = some y) : rnF sm_11 1 11 A_11 R_11 x y := runG noO_ok (os := [O_11_0]) ⟨OK_11_0, trivial⟩ (Eq.trans (by kernel_rfl) h)
end
noncomputable section
abbrev A_96 : List Ty := [(.int .i64)]
abbrev R_96 : List Ty := [.bool]
noncomputable def sm_96 : Nat → Option Summ := smL []
noncomputable def F_96 (a0 : Int) : Option (Bool × Unit) :=
 bif decide (a0 ≥ 1) then some (decide (a0 ≤ 1000000), PUnit.unit) else some (false, PUnit.unit)
noncomputable def Sp.p_96 (a0 : Int) : Bool := (F_96 a0).isSome
noncomputable def Sp.v_96 (a0 : Int) : Bool × Unit := (F_96 a0).getD (dfH R_96)
noncomputable def s_96 : Summ := shN A_96 R_96 (fun x => p_96 x.1) (fun x => v_96 x.1)
theorem pv_96 (a0 : Int) {y : Bool × Unit} (h : F_96 a0 = some y) : p_96 a0 = true ∧ v_96 a0 = y := pvG h
theorem run_96 (x : HDen A_96) (y : HDen R_96) (h : F_96 x.1 = some y) : rnF sm_96 1 96 A_96 R_96 x y := runG noO_ok (os := []) trivial (Eq.trans (by kernel_rfl) h)
end
noncomputable section
abbrev A_54 : List Ty := [(.pair (.slice (.int .u32)) (.pair (.slice (.int .i64)) (.pair (.int .i64) .unit)))]
abbrev R_54 : List Ty := [.bool]
noncomputable def sm_54 : Nat → Option Summ := smL [(96, s_96)]
noncomputable def T_54_0 : PS := ⟨49, [(1, .kc (.ptr 0 [])), (3, .hv (.int .i64)), (4, .hv (.int .i64))], [.mem (.hv (.pair (.slice (.int .u32)) (.pair (.slice (.int .i64)) (.pair (.int .i64) .unit))))], 0⟩
inductive Sp.E_54_0 where
 | e0
 | e1
noncomputable def Sp.B_54_0 {R : Type} (r : Option E_54_0) (k0 k1 : Option R) : Option R := match r with
 | none => none
 | some (.e0) => k0
 | some (.e1) => k1
noncomputable def Y_54_0 {R : Type} (k : Ex → St → Option R) : E_54_0 → Option R
 | .e0 => k Ex.ret (sx 49 [(2, CV.bool false)] [])
 | .e1 => k (Ex.exit 0) (sx 49 [] [])
noncomputable def Sp.S_54_0 {R : Type} (K : Int → Int → (List Int × List Int × Int × Unit) → Option R) (k : E_54_0 → Option R) (p0 p1 : Int) (p2 : List Int × List Int × Int × Unit) : Option R :=
 bif decide (p1 < p0) then gd (inB p1 (length (p2.2.1))) (bif decide (getD (p2.2.1) (toNat p1) (0 :Int) < (0 :Int)) then k (E_54_0.e0) else gd (inB p1 (length (p2.2.1))) (bif decide (getD (p2.2.1) (toNat p1) 0 > p2.2.2.1) then k (E_54_0.e0) else K p0 (wrap i64 (p1 + 1)) p2)) else k (E_54_0.e1)
noncomputable def Sp.L_54_0 : Nat → Int → Int → (List Int × List Int × Int × Unit) → Option E_54_0
 | 0, _, _, _ => none
 | m + 1, p0, p1, p2 => S_54_0 (L_54_0 m) some p0 p1 p2
noncomputable def l_54_0 (m : Nat) (a : T_54_0.E) : Option E_54_0 := L_54_0 m a.1 a.2.1 a.2.2.1
noncomputable def O_54_0 {R : Type} : Orc R := orL T_54_0 (l_54_0 FU) Y_54_0
theorem OK_54_0 {R : Type} : okF (R := R) sm_54 0 (nf 54 0) O_54_0 := lp0 T_54_0 l_54_0 (fun R K k a => S_54_0 (fun p0 p1 p2 => K (p0, p1, p2, ())) k a.1 a.2.1 a.2.2.1) Y_54_0 (fun _ _ _ => by kernel_rfl) (fun _ _ _ => by
 unfold S_54_0
 repeat' first | apply gdN | apply condN | rfl) (ok0 _)
noncomputable def F_54 (a0 : ((List Int) × ((List Int) × (Int × Unit)))) : Option (Bool × Unit) :=
 bif decide ((↑(length (a0.2.1)) : Int) < 1) then some (false, PUnit.unit) else bif decide ((↑(length (a0.2.1)) : Int) > 64) then some (false, PUnit.unit) else bif (↑(length (a0.1)) : Int) != wrap i64 ((↑(length (a0.2.1)) : Int) * 64) then some (false, PUnit.unit) else gd (p_96 (a0.2.2.1)) (bif !(v_96 (a0.2.2.1)).1 then some (false, PUnit.unit) else B_54_0 (L_54_0 4611686018427387904 (↑(length (a0.2.1)) : Int) 0 a0) (some (false, PUnit.unit)) (some (true, PUnit.unit)))
noncomputable def Sp.p_54 (a0 : ((List Int) × ((List Int) × (Int × Unit)))) : Bool := (F_54 a0).isSome
noncomputable def Sp.v_54 (a0 : ((List Int) × ((List Int) × (Int × Unit)))) : Bool × Unit := (F_54 a0).getD (dfH R_54)
noncomputable def s_54 : Summ := shN A_54 R_54 (fun x => p_54 x.1) (fun x => v_54 x.1)
theorem pv_54 (a0 : ((List Int) × ((List Int) × (Int × Unit)))) {y : Bool × Unit} (h : F_54 a0 = some y) : p_54 a0 = true ∧ v_54 a0 = y := pvG h
theorem run_54 (x : HDen A_54) (y : HDen R_54) (h : F_54 x.1 = some y) : rnF sm_54 1 54 A_54 R_54 x y := runG noO_ok (os := [O_54_0]) ⟨OK_54_0, trivial⟩ (Eq.trans (by kernel_rfl) h)
end
noncomputable section
abbrev A_55 : List Ty := [(.int .i64)]
abbrev R_55 : List Ty := [.bool]
noncomputable def sm_55 : Nat → Option Summ := smL []
noncomputable def F_55 (a0 : Int) : Option (Bool × Unit) :=
 bif decide (a0 ≥ 18) then bif decide (a0 ≤ 64) then some (Int.tmod a0 (2 :Int) == (0 :Int), PUnit.unit) else some (false, PUnit.unit) else some (false, PUnit.unit)
noncomputable def Sp.p_55 (a0 : Int) : Bool := (F_55 a0).isSome
noncomputable def Sp.v_55 (a0 : Int) : Bool × Unit := (F_55 a0).getD (dfH R_55)
noncomputable def s_55 : Summ := shN A_55 R_55 (fun x => p_55 x.1) (fun x => v_55 x.1)
theorem pv_55 (a0 : Int) {y : Bool × Unit} (h : F_55 a0 = some y) : p_55 a0 = true ∧ v_55 a0 = y := pvG h
theorem run_55 (x : HDen A_55) (y : HDen R_55) (h : F_55 x.1 = some y) : rnF sm_55 1 55 A_55 R_55 x y := runG noO_ok (os := []) trivial (Eq.trans (by kernel_rfl) h)
end
noncomputable section
abbrev A_12 : List Ty := [(.pair (.pair (.slice (.int .u32)) (.pair (.slice (.int .i64)) (.pair (.int .i64) .unit))) (.pair (.arr 32 (.int .u8)) .unit))]
abbrev R_12 : List Ty := [.bool]
noncomputable def sm_12 : Nat → Option Summ := smL [(54, s_54), (55, s_55)]
noncomputable def F_12 (a0 : (((List Int) × ((List Int) × (Int × Unit))) × ((List Int) × Unit))) : Option (Bool × Unit) :=
 gd (p_54 (a0.1)) (bif (v_54 (a0.1)).1 then gd (p_55 (↑(length (a0.1.2.1)) : Int)) (some ((v_55 (↑(length (a0.1.2.1)) : Int)).1, PUnit.unit)) else some (false, PUnit.unit))
noncomputable def Sp.p_12 (a0 : (((List Int) × ((List Int) × (Int × Unit))) × ((List Int) × Unit))) : Bool := (F_12 a0).isSome
noncomputable def Sp.v_12 (a0 : (((List Int) × ((List Int) × (Int × Unit))) × ((List Int) × Unit))) : Bool × Unit := (F_12 a0).getD (dfH R_12)
noncomputable def s_12 : Summ := shN A_12 R_12 (fun x => p_12 x.1) (fun x => v_12 x.1)
theorem pv_12 (a0 : (((List Int) × ((List Int) × (Int × Unit))) × ((List Int) × Unit))) {y : Bool × Unit} (h : F_12 a0 = some y) : p_12 a0 = true ∧ v_12 a0 = y := pvG h
theorem run_12 (x : HDen A_12) (y : HDen R_12) (h : F_12 x.1 = some y) : rnF sm_12 1 12 A_12 R_12 x y := runG noO_ok (os := []) trivial (Eq.trans (by kernel_rfl) h)
end
noncomputable section
abbrev A_13 : List Ty := [(.pair (.int .i64) (.pair (.int .u32) .unit))]
abbrev R_13 : List Ty := [.bool]
noncomputable def sm_13 : Nat → Option Summ := smL []
noncomputable def F_13 (a0 : (Int × (Int × Unit))) : Option (Bool × Unit) :=
 bif decide (a0.1 ≥ 0) then some (decide (a0.1 ≤ 1099511627776), PUnit.unit) else some (false, PUnit.unit)
noncomputable def Sp.p_13 (a0 : (Int × (Int × Unit))) : Bool := (F_13 a0).isSome
noncomputable def Sp.v_13 (a0 : (Int × (Int × Unit))) : Bool × Unit := (F_13 a0).getD (dfH R_13)
noncomputable def s_13 : Summ := shN A_13 R_13 (fun x => p_13 x.1) (fun x => v_13 x.1)
theorem pv_13 (a0 : (Int × (Int × Unit))) {y : Bool × Unit} (h : F_13 a0 = some y) : p_13 a0 = true ∧ v_13 a0 = y := pvG h
theorem run_13 (x : HDen A_13) (y : HDen R_13) (h : F_13 x.1 = some y) : rnF sm_13 1 13 A_13 R_13 x y := runG noO_ok (os := []) trivial (Eq.trans (by kernel_rfl) h)
end
noncomputable section
abbrev A_24 : List Ty := [(.pair (.int .i64) (.pair (.int .i64) (.pair (.arr 32 (.int .u8)) (.pair (.pair (.int .i64) (.pair (.slice (.arr 32 (.int .u8))) (.pair (.slice (.arr 32 (.int .u8))) .unit))) .unit)))), (.pair (.pair (.slice (.int .u32)) (.pair (.slice (.int .i64)) (.pair (.int .i64) .unit))) (.pair (.arr 32 (.int .u8)) .unit))]
abbrev R_24 : List Ty := [.bool]
noncomputable def sm_24 : Nat → Option Summ := smL [(53, s_53)]
noncomputable def F_24 (a0 : (Int × (Int × ((List Int) × ((Int × ((List (List Int)) × ((List (List Int)) × Unit))) × Unit))))) (a1 : (((List Int) × ((List Int) × (Int × Unit))) × ((List Int) × Unit))) : Option (Bool × Unit) :=
 gd (p_53 a0 (wrap i64 (wrap i64 (Int.tdiv (↑(length (a1.1.1)) : Int) 2) - 564))) (some ((v_53 a0 (wrap i64 (wrap i64 (Int.tdiv (↑(length (a1.1.1)) : Int) 2) - 564))).1, PUnit.unit))
noncomputable def Sp.p_24 (a0 : (Int × (Int × ((List Int) × ((Int × ((List (List Int)) × ((List (List Int)) × Unit))) × Unit))))) (a1 : (((List Int) × ((List Int) × (Int × Unit))) × ((List Int) × Unit))) : Bool := (F_24 a0 a1).isSome
noncomputable def Sp.v_24 (a0 : (Int × (Int × ((List Int) × ((Int × ((List (List Int)) × ((List (List Int)) × Unit))) × Unit))))) (a1 : (((List Int) × ((List Int) × (Int × Unit))) × ((List Int) × Unit))) : Bool × Unit := (F_24 a0 a1).getD (dfH R_24)
noncomputable def s_24 : Summ := shN A_24 R_24 (fun x => p_24 x.1 x.2.1) (fun x => v_24 x.1 x.2.1)
theorem pv_24 (a0 : (Int × (Int × ((List Int) × ((Int × ((List (List Int)) × ((List (List Int)) × Unit))) × Unit))))) (a1 : (((List Int) × ((List Int) × (Int × Unit))) × ((List Int) × Unit))) {y : Bool × Unit} (h : F_24 a0 a1 = some y) : p_24 a0 a1 = true ∧ v_24 a0 a1 = y := pvG h
theorem run_24 (x : HDen A_24) (y : HDen R_24) (h : F_24 x.1 x.2.1 = some y) : rnF sm_24 1 24 A_24 R_24 x y := runG noO_ok (os := []) trivial (Eq.trans (by kernel_rfl) h)
end
noncomputable section
abbrev A_20 : List Ty := [(.pair (.int .i64) (.pair (.int .i64) (.pair (.int .i64) (.pair (.pair (.int .i64) (.pair (.int .i64) (.pair (.arr 32 (.int .u8)) (.pair (.pair (.int .i64) (.pair (.slice (.arr 32 (.int .u8))) (.pair (.slice (.arr 32 (.int .u8))) .unit))) .unit)))) .unit)))), (.pair (.pair (.slice (.int .u32)) (.pair (.slice (.int .i64)) (.pair (.int .i64) .unit))) (.pair (.arr 32 (.int .u8)) .unit)), (.pair (.int .i64) (.pair (.int .u32) .unit))]
abbrev R_20 : List Ty := [.bool]
noncomputable def sm_20 : Nat → Option Summ := smL [(11, s_11), (12, s_12), (13, s_13), (24, s_24)]
noncomputable def F_20 (a0 : (Int × (Int × (Int × ((Int × (Int × ((List Int) × ((Int × ((List (List Int)) × ((List (List Int)) × Unit))) × Unit)))) × Unit))))) (a1 : (((List Int) × ((List Int) × (Int × Unit))) × ((List Int) × Unit))) (a2 : (Int × (Int × Unit))) : Option (Bool × Unit) :=
 gd (p_11 a0) (bif (v_11 a0).1 then gd (p_12 a1) (bif (v_12 a1).1 then gd (p_13 a2) (bif (v_13 a2).1 then bif a0.1 == 0 then some (true, PUnit.unit) else gd (p_24 (a0.2.2.2.1) a1) (some ((v_24 (a0.2.2.2.1) a1).1, PUnit.unit)) else some (false, PUnit.unit)) else some (false, PUnit.unit)) else some (false, PUnit.unit))
noncomputable def Sp.p_20 (a0 : (Int × (Int × (Int × ((Int × (Int × ((List Int) × ((Int × ((List (List Int)) × ((List (List Int)) × Unit))) × Unit)))) × Unit))))) (a1 : (((List Int) × ((List Int) × (Int × Unit))) × ((List Int) × Unit))) (a2 : (Int × (Int × Unit))) : Bool := (F_20 a0 a1 a2).isSome
noncomputable def Sp.v_20 (a0 : (Int × (Int × (Int × ((Int × (Int × ((List Int) × ((Int × ((List (List Int)) × ((List (List Int)) × Unit))) × Unit)))) × Unit))))) (a1 : (((List Int) × ((List Int) × (Int × Unit))) × ((List Int) × Unit))) (a2 : (Int × (Int × Unit))) : Bool × Unit := (F_20 a0 a1 a2).getD (dfH R_20)
noncomputable def s_20 : Summ := shN A_20 R_20 (fun x => p_20 x.1 x.2.1 x.2.2.1) (fun x => v_20 x.1 x.2.1 x.2.2.1)
theorem pv_20 (a0 : (Int × (Int × (Int × ((Int × (Int × ((List Int) × ((Int × ((List (List Int)) × ((List (List Int)) × Unit))) × Unit)))) × Unit))))) (a1 : (((List Int) × ((List Int) × (Int × Unit))) × ((List Int) × Unit))) (a2 : (Int × (Int × Unit))) {y : Bool × Unit} (h : F_20 a0 a1 a2 = some y) : p_20 a0 a1 a2 = true ∧ v_20 a0 a1 a2 = y := pvG h
theorem run_20 (x : HDen A_20) (y : HDen R_20) (h : F_20 x.1 x.2.1 x.2.2.1 = some y) : rnF sm_20 1 20 A_20 R_20 x y := runG noO_ok (os := []) trivial (Eq.trans (by kernel_rfl) h)
end
noncomputable section
abbrev A_30 : List Ty := [(.pair (.pair (.slice (.int .u32)) (.pair (.slice (.int .i64)) (.pair (.int .i64) .unit))) (.pair (.arr 32 (.int .u8)) .unit)), (.int .i64)]
abbrev R_30 : List Ty := [(.slice (.int .u32))]
noncomputable def sm_30 : Nat → Option Summ := smL []
noncomputable def F_30 (a0 : (((List Int) × ((List Int) × (Int × Unit))) × ((List Int) × Unit))) (a1 : Int) : Option ((List Int) × Unit) :=
 gd (sl3 (wrap i64 (a1 * wrap i64 (Int.tdiv (↑(length (a0.1.1)) : Int) 2))) (wrap i64 (wrap i64 (a1 + 1) * wrap i64 (Int.tdiv (↑(length (a0.1.1)) : Int) 2))) (↑(length (a0.1.1)) : Int)) (some (take (toNat (wrap i64 (wrap i64 (a1 + 1) * wrap i64 (Int.tdiv (↑(length (a0.1.1)) : Int) 2))) - toNat (wrap i64 (a1 * wrap i64 (Int.tdiv (↑(length (a0.1.1)) : Int) 2)))) (drop (toNat (wrap i64 (a1 * wrap i64 (Int.tdiv (↑(length (a0.1.1)) : Int) 2)))) (a0.1.1)), PUnit.unit))
noncomputable def Sp.p_30 (a0 : (((List Int) × ((List Int) × (Int × Unit))) × ((List Int) × Unit))) (a1 : Int) : Bool := (F_30 a0 a1).isSome
noncomputable def Sp.v_30 (a0 : (((List Int) × ((List Int) × (Int × Unit))) × ((List Int) × Unit))) (a1 : Int) : (List Int) × Unit := (F_30 a0 a1).getD (dfH R_30)
noncomputable def s_30 : Summ := shS A_30 R_30 (fun x => p_30 x.1 x.2.1) (fun x => v_30 x.1 x.2.1)
theorem pv_30 (a0 : (((List Int) × ((List Int) × (Int × Unit))) × ((List Int) × Unit))) (a1 : Int) {y : (List Int) × Unit} (h : F_30 a0 a1 = some y) : p_30 a0 a1 = true ∧ v_30 a0 a1 = y := pvG h
theorem run_30 (x : HDen A_30) (y : HDen R_30) (h : F_30 x.1 x.2.1 = some y) : rnF sm_30 1 30 A_30 R_30 x y := runG noO_ok (os := []) trivial (Eq.trans (by kernel_rfl) h)
end
noncomputable section
abbrev A_97 : List Ty := [(.arr 32 (.int .u8))]
abbrev R_97 : List Ty := [(.slice (.int .i64))]
noncomputable def sm_97 : Nat → Option Summ := smL []
noncomputable def T_97_0 : PS := ⟨44, [(1, .kc (.ptr 0 [])), (3, .kc (.whole 1)), (4, .hv (.int .i64)), (5, .hv (.int .i64))], [.mem (.hv (.arr 32 (.int .u8))), .vec 3 (.int .i64)], 0⟩
inductive Sp.E_97_0 where
 | e0 (p0 : Int) (p3 : List Int)
noncomputable def Sp.B_97_0 {R : Type} (r : Option E_97_0) (k0 : Int → List Int → Option R) : Option R := match r with
 | none => none
 | some (.e0 p0 p3) => k0 p0 p3
noncomputable def Y_97_0 {R : Type} (k : Ex → St → Option R) : E_97_0 → Option R
 | .e0 p0 p3 => k (Ex.exit 0) (sx 44 [(3, CV.whole 0), (4, CV.int i64 p0)] [Blk.vec 3 (Ty.int i64) p3])
noncomputable def Sp.S_97_0 {R : Type} (K : Int → Int → List Int → List Int → Option R) (k : E_97_0 → Option R) (p0 p1 : Int) (p2 p3 : List Int) : Option R :=
 bif decide (p1 < 64) then gd (inB (wrap i64 (Int.tdiv p1 2)) 32) (gd (decide (toNat (wrap i64 (Int.tdiv p1 2)) < 32) && true) (bif Int.tmod p1 (2 :Int) == (1 :Int) then gd (inB (wrap i64 (Int.tdiv p1 2)) 32) (gd (decide (toNat (wrap i64 (Int.tdiv p1 2)) < 32) && true) (gd (room (length p3 + 1) 8) (K (wrap i64 (wrap i64 (p0 + 15) - wrap i64 (Sp.andI u8 (getD p2 (toNat (wrap i64 (Int.tdiv p1 2))) 0) 15))) (wrap i64 (p1 + 1)) p2 (p3 ++ [wrap i64 (Sp.andI u8 (getD p2 (toNat (wrap i64 (Int.tdiv p1 2))) 0) 15)])))) else gd (room (length p3 + 1) 8) (K (wrap i64 (wrap i64 (p0 + 15) - wrap i64 (Int.fdiv (getD p2 (toNat (wrap i64 (Int.tdiv p1 2))) 0) 16))) (wrap i64 (p1 + 1)) p2 (p3 ++ [wrap i64 (Int.fdiv (getD p2 (toNat (wrap i64 (Int.tdiv p1 2))) 0) 16)])))) else k (E_97_0.e0 p0 p3)
noncomputable def Sp.L_97_0 : Nat → Int → Int → List Int → List Int → Option E_97_0
 | 0, _, _, _, _ => none
 | m + 1, p0, p1, p2, p3 => S_97_0 (L_97_0 m) some p0 p1 p2 p3
noncomputable def l_97_0 (m : Nat) (a : T_97_0.E) : Option E_97_0 := L_97_0 m a.1 a.2.1 a.2.2.1 a.2.2.2.1
noncomputable def O_97_0 {R : Type} : Orc R := orL T_97_0 (l_97_0 FU) Y_97_0
theorem OK_97_0 {R : Type} : okF (R := R) sm_97 0 (nf 97 0) O_97_0 := lp0 T_97_0 l_97_0 (fun R K k a => S_97_0 (fun p0 p1 p2 p3 => K (p0, p1, p2, p3, ())) k a.1 a.2.1 a.2.2.1 a.2.2.2.1) Y_97_0 (fun _ _ _ => by kernel_rfl) (fun _ _ _ => by
 unfold S_97_0
 repeat' first | apply gdN | apply condN | rfl) (ok0 _)
noncomputable def F_97 (a0 : (List Int)) : Option ((List Int) × Unit) :=
 B_97_0 (L_97_0 4611686018427387904 0 0 a0 []) fun y2 y3 => gd (room (length y3 + 3) 8) (some (y3 ++ [wrap i64 (Int.tdiv y2 256), Int.tmod (wrap i64 (Int.tdiv y2 16)) 16, Int.tmod y2 16], PUnit.unit))
noncomputable def Sp.p_97 (a0 : (List Int)) : Bool := (F_97 a0).isSome
noncomputable def Sp.v_97 (a0 : (List Int)) : (List Int) × Unit := (F_97 a0).getD (dfH R_97)
noncomputable def s_97 : Summ := shS A_97 R_97 (fun x => p_97 x.1) (fun x => v_97 x.1)
theorem pv_97 (a0 : (List Int)) {y : (List Int) × Unit} (h : F_97 a0 = some y) : p_97 a0 = true ∧ v_97 a0 = y := pvG h
theorem run_97 (x : HDen A_97) (y : HDen R_97) (h : F_97 x.1 = some y) : rnF sm_97 1 97 A_97 R_97 x y := runG noO_ok (os := [O_97_0]) ⟨OK_97_0, trivial⟩ (Eq.trans (by kernel_rfl) h)
end
noncomputable section
abbrev A_131 : List Ty := [(.slice (.int .u8))]
abbrev R_131 : List Ty := [(.slice (.int .u8))]
noncomputable def sm_131 : Nat → Option Summ := smL []
noncomputable def T_131_0 : PS := ⟨36, [(0, .hv (.slice (.int .u8))), (3, .kc (.whole 0))], [.vec 5 (.int .u8)], 0⟩
inductive Sp.E_131_0 where
 | e0 (p0 p1 : List Int)
noncomputable def Sp.B_131_0 {R : Type} (r : Option E_131_0) (k0 : List Int → List Int → Option R) : Option R := match r with
 | none => none
 | some (.e0 p0 p1) => k0 p0 p1
noncomputable def Y_131_0 {R : Type} (k : Ex → St → Option R) : E_131_0 → Option R
 | .e0 p0 p1 => k (Ex.exit 0) (sx 36 [(0, CV.pure (Ty.slice (Ty.int u8)) p0), (3, CV.whole 0)] [Blk.vec 5 (Ty.int u8) p1])
noncomputable def Sp.S_131_0 {R : Type} (K : List Int → List Int → Option R) (k : E_131_0 → Option R) (p0 p1 : List Int) : Option R :=
 bif Int.tmod (↑(length p1) : Int) (64 :Int) != (56 :Int) then gd (room (length p1 + 1) 1) (K p0 (p1 ++ [0])) else k (E_131_0.e0 p0 p1)
noncomputable def Sp.L_131_0 : Nat → List Int → List Int → Option E_131_0
 | 0, _, _ => none
 | m + 1, p0, p1 => S_131_0 (L_131_0 m) some p0 p1
noncomputable def l_131_0 (m : Nat) (a : T_131_0.E) : Option E_131_0 := L_131_0 m a.1 a.2.1
noncomputable def O_131_0 {R : Type} : Orc R := orL T_131_0 (l_131_0 FU) Y_131_0
theorem OK_131_0 {R : Type} : okF (R := R) sm_131 0 (nf 131 0) O_131_0 := lp0 T_131_0 l_131_0 (fun R K k a => S_131_0 (fun p0 p1 => K (p0, p1, ())) k a.1 a.2.1) Y_131_0 (fun _ _ _ => by kernel_rfl) (fun _ _ _ => by
 unfold S_131_0
 repeat' first | apply gdN | apply condN | rfl) (ok0 _)
noncomputable def T_131_1 : PS := ⟨36, [(3, .kc (.whole 0)), (4, .hv (.int .u64)), (5, .hv (.int .i64))], [.vec 5 (.int .u8)], 0⟩
inductive Sp.E_131_1 where
 | e0 (p2 : List Int)
noncomputable def Sp.B_131_1 {R : Type} (r : Option E_131_1) (k0 : List Int → Option R) : Option R := match r with
 | none => none
 | some (.e0 p2) => k0 p2
noncomputable def Y_131_1 {R : Type} (k : Ex → St → Option R) : E_131_1 → Option R
 | .e0 p2 => k (Ex.exit 2) (sx 36 [(3, CV.whole 0)] [Blk.vec 5 (Ty.int u8) p2])
noncomputable def Sp.S_131_1 {R : Type} (K : Int → Int → List Int → Option R) (k : E_131_1 → Option R) (p0 p1 : Int) (p2 : List Int) : Option R :=
 bif decide (p1 ≥ 0) then gd (decide (0 ≤ wrap u64 p1)) (gd (room (length p2 + 1) 1) (K p0 (wrap i64 (p1 - 8)) (p2 ++ [wrap u8 (Int.fdiv p0 (2 ^ Nat.min (toNat (wrap u64 p1)) 64))]))) else k (E_131_1.e0 p2)
noncomputable def Sp.L_131_1 : Nat → Int → Int → List Int → Option E_131_1
 | 0, _, _, _ => none
 | m + 1, p0, p1, p2 => S_131_1 (L_131_1 m) some p0 p1 p2
noncomputable def l_131_1 (m : Nat) (a : T_131_1.E) : Option E_131_1 := L_131_1 m a.1 a.2.1 a.2.2.1
noncomputable def O_131_1 {R : Type} : Orc R := orL T_131_1 (l_131_1 FU) Y_131_1
theorem OK_131_1 {R : Type} : okF (R := R) sm_131 0 (nf 131 1) O_131_1 := lp0 T_131_1 l_131_1 (fun R K k a => S_131_1 (fun p0 p1 p2 => K (p0, p1, p2, ())) k a.1 a.2.1 a.2.2.1) Y_131_1 (fun _ _ _ => by kernel_rfl) (fun _ _ _ => by
 unfold S_131_1
 repeat' first | apply gdN | apply condN | rfl) (ok0 _)
noncomputable def F_131 (a0 : (List Int)) : Option ((List Int) × Unit) :=
 gd (room (0 + length a0) 1) (gd (room (length ([] ++ a0) + 1) 1) (B_131_0 (L_131_0 4611686018427387904 a0 ([] ++ a0 ++ [128])) fun y3 y4 => B_131_1 (L_131_1 4611686018427387904 (wrap u64 (wrap u64 (↑(length y3) : Int) * 8)) 56 y4) fun y5 => some (y5, PUnit.unit)))
noncomputable def Sp.p_131 (a0 : (List Int)) : Bool := (F_131 a0).isSome
noncomputable def Sp.v_131 (a0 : (List Int)) : (List Int) × Unit := (F_131 a0).getD (dfH R_131)
noncomputable def s_131 : Summ := shS A_131 R_131 (fun x => p_131 x.1) (fun x => v_131 x.1)
theorem pv_131 (a0 : (List Int)) {y : (List Int) × Unit} (h : F_131 a0 = some y) : p_131 a0 = true ∧ v_131 a0 = y := pvG h
theorem run_131 (x : HDen A_131) (y : HDen R_131) (h : F_131 x.1 = some y) : rnF sm_131 1 131 A_131 R_131 x y := runG noO_ok (os := [O_131_0, O_131_1]) ⟨OK_131_0, OK_131_1, trivial⟩ (Eq.trans (by kernel_rfl) h)
end
noncomputable section
abbrev A_141 : List Ty := [(.int .u32), (.int .u64)]
abbrev R_141 : List Ty := [(.int .u32)]
noncomputable def sm_141 : Nat → Option Summ := smL []
noncomputable def F_141 (a0 a1 : Int) : Option (Int × Unit) :=
 gd (decide (0 ≤ a1)) (gd (decide (0 ≤ wrap u64 (32 - a1))) (some (Sp.orI u32 (Int.fdiv a0 (2 ^ Nat.min (toNat a1) 32)) (wrap u32 (a0 * 2 ^ Nat.min (toNat (wrap u64 (32 - a1))) 32)), PUnit.unit)))
noncomputable def Sp.p_141 (a0 a1 : Int) : Bool := (F_141 a0 a1).isSome
noncomputable def Sp.v_141 (a0 a1 : Int) : Int × Unit := (F_141 a0 a1).getD (dfH R_141)
noncomputable def s_141 : Summ := shN A_141 R_141 (fun x => p_141 x.1 x.2.1) (fun x => v_141 x.1 x.2.1)
theorem pv_141 (a0 a1 : Int) {y : Int × Unit} (h : F_141 a0 a1 = some y) : p_141 a0 a1 = true ∧ v_141 a0 a1 = y := pvG h
theorem run_141 (x : HDen A_141) (y : HDen R_141) (h : F_141 x.1 x.2.1 = some y) : rnF sm_141 1 141 A_141 R_141 x y := runG noO_ok (os := []) trivial (Eq.trans (by kernel_rfl) h)
end
noncomputable section
abbrev A_142 : List Ty := []
abbrev R_142 : List Ty := [(.arr 64 (.int .u32))]
noncomputable def sm_142 : Nat → Option Summ := smL []
noncomputable def F_142  : Option ((List Int) × Unit) :=
 some ([1116352408, 1899447441, 3049323471, 3921009573, 961987163, 1508970993, 2453635748, 2870763221, 3624381080, 310598401, 607225278, 1426881987, 1925078388, 2162078206, 2614888103, 3248222580, 3835390401, 4022224774, 264347078, 604807628, 770255983, 1249150122, 1555081692, 1996064986, 2554220882, 2821834349, 2952996808, 3210313671, 3336571891, 3584528711, 113926993, 338241895, 666307205, 773529912, 1294757372, 1396182291, 1695183700, 1986661051, 2177026350, 2456956037, 2730485921, 2820302411, 3259730800, 3345764771, 3516065817, 3600352804, 4094571909, 275423344, 430227734, 506948616, 659060556, 883997877, 958139571, 1322822218, 1537002063, 1747873779, 1955562222, 2024104815, 2227730452, 2361852424, 2428436474, 2756734187, 3204031479, 3329325298], PUnit.unit)
noncomputable def Sp.p_142  : Bool := (F_142 ).isSome
noncomputable def Sp.v_142  : (List Int) × Unit := (F_142 ).getD (dfH R_142)
noncomputable def s_142 : Summ := shN A_142 R_142 (fun x => p_142 ) (fun x => v_142 )
theorem run_142 (x : HDen A_142) (y : HDen R_142) (h : F_142  = some y) : rnF sm_142 1 142 A_142 R_142 x y := runG noO_ok (os := []) trivial (Eq.trans (by kernel_rfl) h)
end
noncomputable section
abbrev A_132 : List Ty := [(.arr 8 (.int .u32)), (.slice (.int .u8))]
abbrev R_132 : List Ty := [(.arr 8 (.int .u32))]
noncomputable def sm_132 : Nat → Option Summ := smL [(141, s_141), (142, s_142)]
noncomputable def T_132_0 : PS := ⟨196, [(1, .hv (.slice (.int .u8))), (2, .kc (.ptr 0 [])), (4, .kc (.ptr 1 [])), (5, .kc (.ptr 2 [])), (6, .hv (.int .i64))], [.mem (.hv (.arr 8 (.int .u32))), .mem (.hv (.arr 8 (.int .u32))), .mem (.hv (.arr 64 (.int .u32)))], 0⟩
inductive Sp.E_132_0 where
 | e0 (p2 p3 p4 : List Int)
noncomputable def Sp.B_132_0 {R : Type} (r : Option E_132_0) (k0 : List Int → List Int → List Int → Option R) : Option R := match r with
 | none => none
 | some (.e0 p2 p3 p4) => k0 p2 p3 p4
noncomputable def Y_132_0 {R : Type} (k : Ex → St → Option R) : E_132_0 → Option R
 | .e0 p2 p3 p4 => k (Ex.exit 0) (sx 196 [(2, CV.ptr 0 []), (4, CV.ptr 1 []), (5, CV.ptr 2 [])] [Blk.mem (CV.pure (Ty.arr 8 (Ty.int u32)) p2), Blk.mem (CV.pure (Ty.arr 8 (Ty.int u32)) p3), Blk.mem (CV.pure (Ty.arr 64 (Ty.int u32)) p4)])
noncomputable def Sp.S_132_0 {R : Type} (K : List Int → Int → List Int → List Int → List Int → Option R) (k : E_132_0 → Option R) (p0 : List Int) (p1 : Int) (p2 p3 p4 : List Int) : Option R :=
 bif decide (p1 < 16) then gd (inB (wrap i64 (4 * p1)) (length p0)) (gd (inB (wrap i64 (wrap i64 (4 * p1) + 1)) (length p0)) (gd (inB (wrap i64 (wrap i64 (4 * p1) + 2)) (length p0)) (gd (inB (wrap i64 (wrap i64 (4 * p1) + 3)) (length p0)) (gd (inB p1 64) (gd (decide (toNat p1 < 64) && true) (K p0 (wrap i64 (p1 + 1)) p2 p3 (List.set p4 (toNat p1) (Sp.orI u32 (Sp.orI u32 (Sp.orI u32 (wrap u32 (wrap u32 (getD p0 (toNat (wrap i64 (4 * p1))) 0) * 16777216)) (wrap u32 (wrap u32 (getD p0 (toNat (wrap i64 (wrap i64 (4 * p1) + 1))) 0) * 65536))) (wrap u32 (wrap u32 (getD p0 (toNat (wrap i64 (wrap i64 (4 * p1) + 2))) 0) * 256))) (wrap u32 (getD p0 (toNat (wrap i64 (wrap i64 (4 * p1) + 3))) 0)))))))))) else k (E_132_0.e0 p2 p3 p4)
noncomputable def Sp.L_132_0 : Nat → List Int → Int → List Int → List Int → List Int → Option E_132_0
 | 0, _, _, _, _, _ => none
 | m + 1, p0, p1, p2, p3, p4 => S_132_0 (L_132_0 m) some p0 p1 p2 p3 p4
noncomputable def l_132_0 (m : Nat) (a : T_132_0.E) : Option E_132_0 := L_132_0 m a.1 a.2.1 a.2.2.1 a.2.2.2.1 a.2.2.2.2.1
noncomputable def O_132_0 {R : Type} : Orc R := orL T_132_0 (l_132_0 FU) Y_132_0
theorem OK_132_0 {R : Type} : okF (R := R) sm_132 0 (nf 132 0) O_132_0 := lp0 T_132_0 l_132_0 (fun R K k a => S_132_0 (fun p0 p1 p2 p3 p4 => K (p0, p1, p2, p3, p4, ())) k a.1 a.2.1 a.2.2.1 a.2.2.2.1 a.2.2.2.2.1) Y_132_0 (fun _ _ _ => by kernel_rfl) (fun _ _ _ => by
 unfold S_132_0
 repeat' first | apply gdN | apply condN | rfl) (ok0 _)
noncomputable def T_132_1 : PS := ⟨196, [(2, .kc (.ptr 0 [])), (4, .kc (.ptr 1 [])), (5, .kc (.ptr 2 [])), (7, .hv (.int .i64))], [.mem (.hv (.arr 8 (.int .u32))), .mem (.hv (.arr 8 (.int .u32))), .mem (.hv (.arr 64 (.int .u32)))], 0⟩
inductive Sp.E_132_1 where
 | e0 (p1 p2 p3 : List Int)
noncomputable def Sp.B_132_1 {R : Type} (r : Option E_132_1) (k0 : List Int → List Int → List Int → Option R) : Option R := match r with
 | none => none
 | some (.e0 p1 p2 p3) => k0 p1 p2 p3
noncomputable def Y_132_1 {R : Type} (k : Ex → St → Option R) : E_132_1 → Option R
 | .e0 p1 p2 p3 => k (Ex.exit 2) (sx 196 [(2, CV.ptr 0 []), (4, CV.ptr 1 []), (5, CV.ptr 2 [])] [Blk.mem (CV.pure (Ty.arr 8 (Ty.int u32)) p1), Blk.mem (CV.pure (Ty.arr 8 (Ty.int u32)) p2), Blk.mem (CV.pure (Ty.arr 64 (Ty.int u32)) p3)])
noncomputable def Sp.S_132_1 {R : Type} (K : Int → List Int → List Int → List Int → Option R) (k : E_132_1 → Option R) (p0 : Int) (p1 p2 p3 : List Int) : Option R :=
 bif decide (p0 < 64) then gd (inB (wrap i64 (p0 - 15)) 64) (gd (decide (toNat (wrap i64 (p0 - 15)) < 64) && true) (gd (inB (wrap i64 (p0 - 2)) 64) (gd (decide (toNat (wrap i64 (p0 - 2)) < 64) && true) (gd (p_141 (getD p3 (toNat (wrap i64 (p0 - 2))) 0) 17) (gd (p_141 (getD p3 (toNat (wrap i64 (p0 - 2))) 0) 19) (gd (inB (wrap i64 (p0 - 7)) 64) (gd (decide (toNat (wrap i64 (p0 - 7)) < 64) && true) (gd (p_141 (getD p3 (toNat (wrap i64 (p0 - 15))) 0) 7) (gd (p_141 (getD p3 (toNat (wrap i64 (p0 - 15))) 0) 18) (gd (inB (wrap i64 (p0 - 16)) 64) (gd (decide (toNat (wrap i64 (p0 - 16)) < 64) && true) (gd (inB p0 64) (gd (decide (toNat p0 < 64) && true) (K (wrap i64 (p0 + 1)) p1 p2 (List.set p3 (toNat p0) (wrap u32 (wrap u32 (wrap u32 (Sp.xorI u32 (Sp.xorI u32 ((v_141 (getD p3 (toNat (wrap i64 (p0 - 2))) 0) 17).1) ((v_141 (getD p3 (toNat (wrap i64 (p0 - 2))) 0) 19).1)) (Int.fdiv (getD p3 (toNat (wrap i64 (p0 - 2))) 0) 1024) + getD p3 (toNat (wrap i64 (p0 - 7))) 0) + Sp.xorI u32 (Sp.xorI u32 ((v_141 (getD p3 (toNat (wrap i64 (p0 - 15))) 0) 7).1) ((v_141 (getD p3 (toNat (wrap i64 (p0 - 15))) 0) 18).1)) (Int.fdiv (getD p3 (toNat (wrap i64 (p0 - 15))) 0) 8)) + getD p3 (toNat (wrap i64 (p0 - 16))) 0))))))))))))))))) else k (E_132_1.e0 p1 p2 p3)
noncomputable def Sp.L_132_1 : Nat → Int → List Int → List Int → List Int → Option E_132_1
 | 0, _, _, _, _ => none
 | m + 1, p0, p1, p2, p3 => S_132_1 (L_132_1 m) some p0 p1 p2 p3
noncomputable def l_132_1 (m : Nat) (a : T_132_1.E) : Option E_132_1 := L_132_1 m a.1 a.2.1 a.2.2.1 a.2.2.2.1
noncomputable def O_132_1 {R : Type} : Orc R := orL T_132_1 (l_132_1 FU) Y_132_1
theorem OK_132_1 {R : Type} : okF (R := R) sm_132 0 (nf 132 1) O_132_1 := lp0 T_132_1 l_132_1 (fun R K k a => S_132_1 (fun p0 p1 p2 p3 => K (p0, p1, p2, p3, ())) k a.1 a.2.1 a.2.2.1 a.2.2.2.1) Y_132_1 (fun _ _ _ => by kernel_rfl) (fun _ _ _ => by
 unfold S_132_1
 repeat' first | apply gdN | apply condN | rfl) (ok0 _)
noncomputable def T_132_2 : PS := ⟨196, [(2, .kc (.ptr 0 [])), (4, .kc (.ptr 1 [])), (5, .kc (.ptr 2 [])), (10, .kc (.ptr 3 [])), (11, .kc (.ptr 4 [])), (12, .hv (.int .i64))], [.mem (.hv (.arr 8 (.int .u32))), .mem (.hv (.arr 8 (.int .u32))), .mem (.hv (.arr 64 (.int .u32))), .mem (.hv (.arr 64 (.int .u32))), .mem (.hv (.arr 8 (.int .u32)))], 0⟩
inductive Sp.E_132_2 where
 | e0 (p1 p2 p5 : List Int)
noncomputable def Sp.B_132_2 {R : Type} (r : Option E_132_2) (k0 : List Int → List Int → List Int → Option R) : Option R := match r with
 | none => none
 | some (.e0 p1 p2 p5) => k0 p1 p2 p5
noncomputable def Y_132_2 {R : Type} (k : Ex → St → Option R) : E_132_2 → Option R
 | .e0 p1 p2 p5 => k (Ex.exit 4) (sx 196 [(2, CV.ptr 0 []), (4, CV.ptr 1 []), (11, CV.ptr 2 [])] [Blk.mem (CV.pure (Ty.arr 8 (Ty.int u32)) p1), Blk.mem (CV.pure (Ty.arr 8 (Ty.int u32)) p2), Blk.mem (CV.pure (Ty.arr 8 (Ty.int u32)) p5)])
noncomputable def Sp.S_132_2 {R : Type} (K : Int → List Int → List Int → List Int → List Int → List Int → Option R) (k : E_132_2 → Option R) (p0 : Int) (p1 p2 p3 p4 p5 : List Int) : Option R :=
 bif decide (p0 < 64) then gd (p_141 (getD p5 4 0) 6) (gd (p_141 (getD p5 4 0) 11) (gd (p_141 (getD p5 4 0) 25) (gd (inB p0 64) (gd (decide (toNat p0 < 64) && true) (gd (inB p0 64) (gd (decide (toNat p0 < 64) && true) (gd (p_141 (getD p5 0 0) 2) (gd (p_141 (getD p5 0 0) 13) (gd (p_141 (getD p5 0 0) 22) (K (wrap i64 (p0 + 1)) p1 p2 p3 p4 [wrap u32 (wrap u32 (wrap u32 (wrap u32 (wrap u32 (getD p5 7 0 + Sp.xorI u32 (Sp.xorI u32 ((v_141 (getD p5 4 0) 6).1) ((v_141 (getD p5 4 0) 11).1)) ((v_141 (getD p5 4 0) 25).1)) + Sp.xorI u32 (Sp.andI u32 (getD p5 4 0) (getD p5 5 0)) (Sp.andI u32 (Sp.xorI u32 4294967295 (getD p5 4 0)) (getD p5 6 0))) + getD p4 (toNat p0) 0) + getD p3 (toNat p0) 0) + wrap u32 (Sp.xorI u32 (Sp.xorI u32 ((v_141 (getD p5 0 0) 2).1) ((v_141 (getD p5 0 0) 13).1)) ((v_141 (getD p5 0 0) 22).1) + Sp.xorI u32 (Sp.xorI u32 (Sp.andI u32 (getD p5 0 0) (getD p5 1 0)) (Sp.andI u32 (getD p5 0 0) (getD p5 2 0))) (Sp.andI u32 (getD p5 1 0) (getD p5 2 0)))), getD p5 0 0, getD p5 1 0, getD p5 2 0, wrap u32 (getD p5 3 0 + wrap u32 (wrap u32 (wrap u32 (wrap u32 (getD p5 7 0 + Sp.xorI u32 (Sp.xorI u32 ((v_141 (getD p5 4 0) 6).1) ((v_141 (getD p5 4 0) 11).1)) ((v_141 (getD p5 4 0) 25).1)) + Sp.xorI u32 (Sp.andI u32 (getD p5 4 0) (getD p5 5 0)) (Sp.andI u32 (Sp.xorI u32 4294967295 (getD p5 4 0)) (getD p5 6 0))) + getD p4 (toNat p0) 0) + getD p3 (toNat p0) 0)), getD p5 4 0, getD p5 5 0, getD p5 6 0])))))))))) else k (E_132_2.e0 p1 p2 p5)
noncomputable def Sp.L_132_2 : Nat → Int → List Int → List Int → List Int → List Int → List Int → Option E_132_2
 | 0, _, _, _, _, _, _ => none
 | m + 1, p0, p1, p2, p3, p4, p5 => S_132_2 (L_132_2 m) some p0 p1 p2 p3 p4 p5
noncomputable def l_132_2 (m : Nat) (a : T_132_2.E) : Option E_132_2 := L_132_2 m a.1 a.2.1 a.2.2.1 a.2.2.2.1 a.2.2.2.2.1 a.2.2.2.2.2.1
noncomputable def O_132_2 {R : Type} : Orc R := orL T_132_2 (l_132_2 FU) Y_132_2
theorem OK_132_2 {R : Type} : okF (R := R) sm_132 0 (nf 132 2) O_132_2 := lp0 T_132_2 l_132_2 (fun R K k a => S_132_2 (fun p0 p1 p2 p3 p4 p5 => K (p0, p1, p2, p3, p4, p5, ())) k a.1 a.2.1 a.2.2.1 a.2.2.2.1 a.2.2.2.2.1 a.2.2.2.2.2.1) Y_132_2 (fun _ _ _ => by kernel_rfl) (fun _ _ _ => by
 unfold S_132_2
 repeat' first | apply gdN | apply condN | rfl) (ok0 _)
noncomputable def T_132_3 : PS := ⟨196, [(2, .kc (.ptr 0 [])), (4, .kc (.ptr 1 [])), (11, .kc (.ptr 2 [])), (21, .hv (.int .i64))], [.mem (.hv (.arr 8 (.int .u32))), .mem (.hv (.arr 8 (.int .u32))), .mem (.hv (.arr 8 (.int .u32)))], 0⟩
inductive Sp.E_132_3 where
 | e0 (p1 p2 : List Int)
noncomputable def Sp.B_132_3 {R : Type} (r : Option E_132_3) (k0 : List Int → List Int → Option R) : Option R := match r with
 | none => none
 | some (.e0 p1 p2) => k0 p1 p2
noncomputable def Y_132_3 {R : Type} (k : Ex → St → Option R) : E_132_3 → Option R
 | .e0 p1 p2 => k (Ex.exit 6) (sx 196 [(2, CV.ptr 0 []), (4, CV.ptr 1 [])] [Blk.mem (CV.pure (Ty.arr 8 (Ty.int u32)) p1), Blk.mem (CV.pure (Ty.arr 8 (Ty.int u32)) p2)])
noncomputable def Sp.S_132_3 {R : Type} (K : Int → List Int → List Int → List Int → Option R) (k : E_132_3 → Option R) (p0 : Int) (p1 p2 p3 : List Int) : Option R :=
 bif decide (p0 < 8) then gd (inB p0 8) (gd (decide (toNat p0 < 8) && true) (gd (inB p0 8) (gd (decide (toNat p0 < 8) && true) (gd (inB p0 8) (gd (decide (toNat p0 < 8) && true) (K (wrap i64 (p0 + 1)) (List.set p1 (toNat p0) (wrap u32 (getD p1 (toNat p0) 0 + getD p3 (toNat p0) 0))) p2 p3)))))) else k (E_132_3.e0 p1 p2)
noncomputable def Sp.L_132_3 : Nat → Int → List Int → List Int → List Int → Option E_132_3
 | 0, _, _, _, _ => none
 | m + 1, p0, p1, p2, p3 => S_132_3 (L_132_3 m) some p0 p1 p2 p3
noncomputable def l_132_3 (m : Nat) (a : T_132_3.E) : Option E_132_3 := L_132_3 m a.1 a.2.1 a.2.2.1 a.2.2.2.1
noncomputable def O_132_3 {R : Type} : Orc R := orL T_132_3 (l_132_3 FU) Y_132_3
theorem OK_132_3 {R : Type} : okF (R := R) sm_132 0 (nf 132 3) O_132_3 := lp0 T_132_3 l_132_3 (fun R K k a => S_132_3 (fun p0 p1 p2 p3 => K (p0, p1, p2, p3, ())) k a.1 a.2.1 a.2.2.1 a.2.2.2.1) Y_132_3 (fun _ _ _ => by kernel_rfl) (fun _ _ _ => by
 unfold S_132_3
 repeat' first | apply gdN | apply condN | rfl) (ok0 _)
noncomputable def F_132 (a0 a1 : (List Int)) : Option ((List Int) × Unit) :=
 B_132_0 (L_132_0 4611686018427387904 a1 0 a0 (replicate 8 (0 :Int)) (replicate 64 (0 :Int))) fun y11 y12 y13 => B_132_1 (L_132_1 4611686018427387904 16 y11 y12 y13) fun y14 y15 y16 => gd p_142 (B_132_2 (L_132_2 4611686018427387904 0 y14 y15 y16 (v_142.1) y14) fun y17 y18 y19 => B_132_3 (L_132_3 4611686018427387904 0 y17 y18 y19) fun y20 y21 => some (y20, PUnit.unit))
noncomputable def Sp.p_132 (a0 a1 : (List Int)) : Bool := (F_132 a0 a1).isSome
noncomputable def Sp.v_132 (a0 a1 : (List Int)) : (List Int) × Unit := (F_132 a0 a1).getD (dfH R_132)
noncomputable def s_132 : Summ := shN A_132 R_132 (fun x => p_132 x.1 x.2.1) (fun x => v_132 x.1 x.2.1)
theorem pv_132 (a0 a1 : (List Int)) {y : (List Int) × Unit} (h : F_132 a0 a1 = some y) : p_132 a0 a1 = true ∧ v_132 a0 a1 = y := pvG h
theorem run_132 (x : HDen A_132) (y : HDen R_132) (h : F_132 x.1 x.2.1 = some y) : rnF sm_132 1 132 A_132 R_132 x y := runG noO_ok (os := [O_132_0, O_132_1, O_132_2, O_132_3]) ⟨OK_132_0, OK_132_1, OK_132_2, OK_132_3, trivial⟩ (Eq.trans (by kernel_rfl) h)
end
noncomputable section
abbrev A_116 : List Ty := [(.slice (.int .u8))]
abbrev R_116 : List Ty := [(.arr 32 (.int .u8))]
noncomputable def sm_116 : Nat → Option Summ := smL [(131, s_131), (132, s_132)]
noncomputable def T_116_0 : PS := ⟨42, [(2, .kc (.ptr 0 [])), (3, .kc (.ptr 1 [])), (4, .hv (.slice (.int .u8))), (5, .hv (.int .i64))], [.mem (.hv (.arr 32 (.int .u8))), .mem (.hv (.arr 8 (.int .u32)))], 0⟩
inductive Sp.E_116_0 where
 | e0 (p2 p3 : List Int)
noncomputable def Sp.B_116_0 {R : Type} (r : Option E_116_0) (k0 : List Int → List Int → Option R) : Option R := match r with
 | none => none
 | some (.e0 p2 p3) => k0 p2 p3
noncomputable def Y_116_0 {R : Type} (k : Ex → St → Option R) : E_116_0 → Option R
 | .e0 p2 p3 => k (Ex.exit 0) (sx 42 [(2, CV.ptr 0 []), (3, CV.ptr 1 [])] [Blk.mem (CV.pure (Ty.arr 32 (Ty.int u8)) p2), Blk.mem (CV.pure (Ty.arr 8 (Ty.int u32)) p3)])
noncomputable def Sp.S_116_0 {R : Type} (K : List Int → Int → List Int → List Int → Option R) (k : E_116_0 → Option R) (p0 : List Int) (p1 : Int) (p2 p3 : List Int) : Option R :=
 bif decide (p1 < (↑(length p0) : Int)) then gd (sl3 p1 (wrap i64 (p1 + 64)) (↑(length p0) : Int)) (gd (p_132 p3 (take (toNat (wrap i64 (p1 + 64)) - toNat p1) (drop (toNat p1) p0))) (K p0 (wrap i64 (p1 + 64)) p2 ((v_132 p3 (take (toNat (wrap i64 (p1 + 64)) - toNat p1) (drop (toNat p1) p0))).1))) else k (E_116_0.e0 p2 p3)
noncomputable def Sp.L_116_0 : Nat → List Int → Int → List Int → List Int → Option E_116_0
 | 0, _, _, _, _ => none
 | m + 1, p0, p1, p2, p3 => S_116_0 (L_116_0 m) some p0 p1 p2 p3
noncomputable def l_116_0 (m : Nat) (a : T_116_0.E) : Option E_116_0 := L_116_0 m a.1 a.2.1 a.2.2.1 a.2.2.2.1
noncomputable def O_116_0 {R : Type} : Orc R := orL T_116_0 (l_116_0 FU) Y_116_0
theorem OK_116_0 {R : Type} : okF (R := R) sm_116 0 (nf 116 0) O_116_0 := lp0 T_116_0 l_116_0 (fun R K k a => S_116_0 (fun p0 p1 p2 p3 => K (p0, p1, p2, p3, ())) k a.1 a.2.1 a.2.2.1 a.2.2.2.1) Y_116_0 (fun _ _ _ => by kernel_rfl) (fun _ _ _ => by
 unfold S_116_0
 repeat' first | apply gdN | apply condN | rfl) (ok0 _)
noncomputable def T_116_1 : PS := ⟨42, [(2, .kc (.ptr 0 [])), (3, .kc (.ptr 1 [])), (6, .kc (.ptr 2 [])), (7, .hv (.int .i64))], [.mem (.hv (.arr 32 (.int .u8))), .mem (.hv (.arr 8 (.int .u32))), .mem (.hv (.arr 32 (.int .u8)))], 0⟩
inductive Sp.E_116_1 where
 | e0 (p1 p3 : List Int)
noncomputable def Sp.B_116_1 {R : Type} (r : Option E_116_1) (k0 : List Int → List Int → Option R) : Option R := match r with
 | none => none
 | some (.e0 p1 p3) => k0 p1 p3
noncomputable def Y_116_1 {R : Type} (k : Ex → St → Option R) : E_116_1 → Option R
 | .e0 p1 p3 => k (Ex.exit 2) (sx 42 [(2, CV.ptr 0 []), (6, CV.ptr 1 [])] [Blk.mem (CV.pure (Ty.arr 32 (Ty.int u8)) p1), Blk.mem (CV.pure (Ty.arr 32 (Ty.int u8)) p3)])
noncomputable def Sp.S_116_1 {R : Type} (K : Int → List Int → List Int → List Int → Option R) (k : E_116_1 → Option R) (p0 : Int) (p1 p2 p3 : List Int) : Option R :=
 bif decide (p0 < 32) then gd (inB (wrap i64 (Int.tdiv p0 4)) 8) (gd (decide (toNat (wrap i64 (Int.tdiv p0 4)) < 8) && true) (gd (decide (0 ≤ wrap u64 (wrap i64 (24 - wrap i64 (Int.tmod p0 (4 :Int) * (8 :Int)))))) (gd (inB p0 32) (gd (decide (toNat p0 < 32) && true) (K (wrap i64 (p0 + 1)) p1 p2 (List.set p3 (toNat p0) (wrap u8 (Int.fdiv (getD p2 (toNat (wrap i64 (Int.tdiv p0 4))) 0) (2 ^ Nat.min (toNat (wrap u64 (wrap i64 (24 - wrap i64 (Int.tmod p0 (4 :Int) * (8 :Int)))))) 32))))))))) else k (E_116_1.e0 p1 p3)
noncomputable def Sp.L_116_1 : Nat → Int → List Int → List Int → List Int → Option E_116_1
 | 0, _, _, _, _ => none
 | m + 1, p0, p1, p2, p3 => S_116_1 (L_116_1 m) some p0 p1 p2 p3
noncomputable def l_116_1 (m : Nat) (a : T_116_1.E) : Option E_116_1 := L_116_1 m a.1 a.2.1 a.2.2.1 a.2.2.2.1
noncomputable def O_116_1 {R : Type} : Orc R := orL T_116_1 (l_116_1 FU) Y_116_1
theorem OK_116_1 {R : Type} : okF (R := R) sm_116 0 (nf 116 1) O_116_1 := lp0 T_116_1 l_116_1 (fun R K k a => S_116_1 (fun p0 p1 p2 p3 => K (p0, p1, p2, p3, ())) k a.1 a.2.1 a.2.2.1 a.2.2.2.1) Y_116_1 (fun _ _ _ => by kernel_rfl) (fun _ _ _ => by
 unfold S_116_1
 repeat' first | apply gdN | apply condN | rfl) (ok0 _)
noncomputable def F_116 (a0 : (List Int)) : Option ((List Int) × Unit) :=
 gd (p_131 a0) (B_116_0 (L_116_0 4611686018427387904 ((v_131 a0).1) 0 (replicate 32 (0 :Int)) [1779033703, 3144134277, 1013904242, 2773480762, 1359893119, 2600822924, 528734635, 1541459225]) fun y4 y5 => B_116_1 (L_116_1 4611686018427387904 0 y4 y5 (replicate 32 (0 :Int))) fun y6 y7 => some (y7, PUnit.unit))
noncomputable def Sp.p_116 (a0 : (List Int)) : Bool := (F_116 a0).isSome
noncomputable def Sp.v_116 (a0 : (List Int)) : (List Int) × Unit := (F_116 a0).getD (dfH R_116)
noncomputable def s_116 : Summ := shN A_116 R_116 (fun x => p_116 x.1) (fun x => v_116 x.1)
theorem pv_116 (a0 : (List Int)) {y : (List Int) × Unit} (h : F_116 a0 = some y) : p_116 a0 = true ∧ v_116 a0 = y := pvG h
theorem run_116 (x : HDen A_116) (y : HDen R_116) (h : F_116 x.1 = some y) : rnF sm_116 1 116 A_116 R_116 x y := runG noO_ok (os := [O_116_0, O_116_1]) ⟨OK_116_0, OK_116_1, trivial⟩ (Eq.trans (by kernel_rfl) h)
end
noncomputable section
abbrev A_98 : List Ty := [(.arr 32 (.int .u8)), (.int .i64), (.int .i64)]
abbrev R_98 : List Ty := [(.arr 32 (.int .u8))]
noncomputable def sm_98 : Nat → Option Summ := smL [(116, s_116)]
noncomputable def T_98_0 : PS := ⟨21, [(2, .hv (.int .i64)), (3, .kc (.ptr 0 [])), (6, .kc (.ptr 1 [])), (7, .hv (.int .i64))], [.mem (.hv (.arr 32 (.int .u8))), .mem (.hv (.arr 32 (.int .u8)))], 0⟩
inductive Sp.E_98_0 where
 | e0 (p2 p3 : List Int)
noncomputable def Sp.B_98_0 {R : Type} (r : Option E_98_0) (k0 : List Int → List Int → Option R) : Option R := match r with
 | none => none
 | some (.e0 p2 p3) => k0 p2 p3
noncomputable def Y_98_0 {R : Type} (k : Ex → St → Option R) : E_98_0 → Option R
 | .e0 p2 p3 => k (Ex.exit 0) (sx 21 [(3, CV.ptr 0 []), (6, CV.ptr 1 [])] [Blk.mem (CV.pure (Ty.arr 32 (Ty.int u8)) p2), Blk.mem (CV.pure (Ty.arr 32 (Ty.int u8)) p3)])
noncomputable def Sp.S_98_0 {R : Type} (K : Int → Int → List Int → List Int → Option R) (k : E_98_0 → Option R) (p0 p1 : Int) (p2 p3 : List Int) : Option R :=
 bif decide (p1 < p0) then gd (room (1 + length (take 32 (drop 0 p2))) 1) (gd (p_116 ([wrap u8 p1] ++ take 32 (drop 0 p2))) (K p0 (wrap i64 (p1 + 1)) ((v_116 ([wrap u8 p1] ++ take 32 (drop 0 p2))).1) p3)) else k (E_98_0.e0 p2 p3)
noncomputable def Sp.L_98_0 : Nat → Int → Int → List Int → List Int → Option E_98_0
 | 0, _, _, _, _ => none
 | m + 1, p0, p1, p2, p3 => S_98_0 (L_98_0 m) some p0 p1 p2 p3
noncomputable def l_98_0 (m : Nat) (a : T_98_0.E) : Option E_98_0 := L_98_0 m a.1 a.2.1 a.2.2.1 a.2.2.2.1
noncomputable def O_98_0 {R : Type} : Orc R := orL T_98_0 (l_98_0 FU) Y_98_0
theorem OK_98_0 {R : Type} : okF (R := R) sm_98 0 (nf 98 0) O_98_0 := lp0 T_98_0 l_98_0 (fun R K k a => S_98_0 (fun p0 p1 p2 p3 => K (p0, p1, p2, p3, ())) k a.1 a.2.1 a.2.2.1 a.2.2.2.1) Y_98_0 (fun _ _ _ => by kernel_rfl) (fun _ _ _ => by
 unfold S_98_0
 repeat' first | apply gdN | apply condN | rfl) (ok0 _)
noncomputable def F_98 (a0 : (List Int)) (a1 a2 : Int) : Option ((List Int) × Unit) :=
 B_98_0 (L_98_0 4611686018427387904 a2 a1 a0 (replicate 32 (0 :Int))) fun y2 y3 => some (y2, PUnit.unit)
noncomputable def Sp.p_98 (a0 : (List Int)) (a1 a2 : Int) : Bool := (F_98 a0 a1 a2).isSome
noncomputable def Sp.v_98 (a0 : (List Int)) (a1 a2 : Int) : (List Int) × Unit := (F_98 a0 a1 a2).getD (dfH R_98)
noncomputable def s_98 : Summ := shN A_98 R_98 (fun x => p_98 x.1 x.2.1 x.2.2.1) (fun x => v_98 x.1 x.2.1 x.2.2.1)
theorem pv_98 (a0 : (List Int)) (a1 a2 : Int) {y : (List Int) × Unit} (h : F_98 a0 a1 a2 = some y) : p_98 a0 a1 a2 = true ∧ v_98 a0 a1 a2 = y := pvG h
theorem run_98 (x : HDen A_98) (y : HDen R_98) (h : F_98 x.1 x.2.1 x.2.2.1 = some y) : rnF sm_98 1 98 A_98 R_98 x y := runG noO_ok (os := [O_98_0]) ⟨OK_98_0, trivial⟩ (Eq.trans (by kernel_rfl) h)
end
noncomputable section
abbrev A_99 : List Ty := [(.slice (.arr 32 (.int .u8)))]
abbrev R_99 : List Ty := [(.arr 32 (.int .u8))]
noncomputable def sm_99 : Nat → Option Summ := smL [(116, s_116)]
noncomputable def T_99_0 : PS := ⟨19, [(0, .hv (.slice (.arr 32 (.int .u8)))), (2, .kc (.ptr 0 [])), (3, .kc (.whole 1)), (4, .hv (.int .i64))], [.mem (.hv (.arr 32 (.int .u8))), .vec 5 (.int .u8)], 0⟩
inductive Sp.E_99_0 where
 | e0 (p2 p3 : List Int)
noncomputable def Sp.B_99_0 {R : Type} (r : Option E_99_0) (k0 : List Int → List Int → Option R) : Option R := match r with
 | none => none
 | some (.e0 p2 p3) => k0 p2 p3
noncomputable def Y_99_0 {R : Type} (k : Ex → St → Option R) : E_99_0 → Option R
 | .e0 p2 p3 => k (Ex.exit 0) (sx 19 [(2, CV.ptr 0 []), (3, CV.whole 1)] [Blk.mem (CV.pure (Ty.arr 32 (Ty.int u8)) p2), Blk.vec 5 (Ty.int u8) p3])
noncomputable def Sp.S_99_0 {R : Type} (K : List (List Int) → Int → List Int → List Int → Option R) (k : E_99_0 → Option R) (p0 : List (List Int)) (p1 : Int) (p2 p3 : List Int) : Option R :=
 bif decide (p1 < (↑(length p0) : Int)) then gd (inB p1 (length p0)) (gd (room (length p3 + length (take 32 (drop 0 (getD p0 (toNat p1) (Ty.dflt (Ty.arr 32 (Ty.int u8))))))) 1) (K p0 (wrap i64 (p1 + 1)) p2 (p3 ++ take 32 (drop 0 (getD p0 (toNat p1) (Ty.dflt (Ty.arr 32 (Ty.int u8)))))))) else k (E_99_0.e0 p2 p3)
noncomputable def Sp.L_99_0 : Nat → List (List Int) → Int → List Int → List Int → Option E_99_0
 | 0, _, _, _, _ => none
 | m + 1, p0, p1, p2, p3 => S_99_0 (L_99_0 m) some p0 p1 p2 p3
noncomputable def l_99_0 (m : Nat) (a : T_99_0.E) : Option E_99_0 := L_99_0 m a.1 a.2.1 a.2.2.1 a.2.2.2.1
noncomputable def O_99_0 {R : Type} : Orc R := orL T_99_0 (l_99_0 FU) Y_99_0
theorem OK_99_0 {R : Type} : okF (R := R) sm_99 0 (nf 99 0) O_99_0 := lp0 T_99_0 l_99_0 (fun R K k a => S_99_0 (fun p0 p1 p2 p3 => K (p0, p1, p2, p3, ())) k a.1 a.2.1 a.2.2.1 a.2.2.2.1) Y_99_0 (fun _ _ _ => by kernel_rfl) (fun _ _ _ => by
 unfold S_99_0
 repeat' first | apply gdN | apply condN | rfl) (ok0 _)
noncomputable def F_99 (a0 : (List (List Int))) : Option ((List Int) × Unit) :=
 B_99_0 (L_99_0 4611686018427387904 a0 0 (replicate 32 (0 :Int)) []) fun y2 y3 => gd (p_116 y3) (some ((v_116 y3).1, PUnit.unit))
noncomputable def Sp.p_99 (a0 : (List (List Int))) : Bool := (F_99 a0).isSome
noncomputable def Sp.v_99 (a0 : (List (List Int))) : (List Int) × Unit := (F_99 a0).getD (dfH R_99)
noncomputable def s_99 : Summ := shN A_99 R_99 (fun x => p_99 x.1) (fun x => v_99 x.1)
theorem pv_99 (a0 : (List (List Int))) {y : (List Int) × Unit} (h : F_99 a0 = some y) : p_99 a0 = true ∧ v_99 a0 = y := pvG h
theorem run_99 (x : HDen A_99) (y : HDen R_99) (h : F_99 x.1 = some y) : rnF sm_99 1 99 A_99 R_99 x y := runG noO_ok (os := [O_99_0]) ⟨OK_99_0, trivial⟩ (Eq.trans (by kernel_rfl) h)
end
noncomputable section
abbrev A_100 : List Ty := [(.arr 32 (.int .u8)), (.arr 32 (.int .u8))]
abbrev R_100 : List Ty := [(.arr 32 (.int .u8))]
noncomputable def sm_100 : Nat → Option Summ := smL [(116, s_116)]
noncomputable def F_100 (a0 a1 : (List Int)) : Option ((List Int) × Unit) :=
 gd (room (1 + length (take 32 (drop 0 a0))) 1) (gd (room (length ([255] ++ take 32 (drop 0 a0)) + length (take 32 (drop 0 a1))) 1) (gd (p_116 ([255] ++ take 32 (drop 0 a0) ++ take 32 (drop 0 a1))) (some ((v_116 ([255] ++ take 32 (drop 0 a0) ++ take 32 (drop 0 a1))).1, PUnit.unit))))
noncomputable def Sp.p_100 (a0 a1 : (List Int)) : Bool := (F_100 a0 a1).isSome
noncomputable def Sp.v_100 (a0 a1 : (List Int)) : (List Int) × Unit := (F_100 a0 a1).getD (dfH R_100)
noncomputable def s_100 : Summ := shN A_100 R_100 (fun x => p_100 x.1 x.2.1) (fun x => v_100 x.1 x.2.1)
theorem pv_100 (a0 a1 : (List Int)) {y : (List Int) × Unit} (h : F_100 a0 a1 = some y) : p_100 a0 a1 = true ∧ v_100 a0 a1 = y := pvG h
theorem run_100 (x : HDen A_100) (y : HDen R_100) (h : F_100 x.1 x.2.1 = some y) : rnF sm_100 1 100 A_100 R_100 x y := runG noO_ok (os := []) trivial (Eq.trans (by kernel_rfl) h)
end
noncomputable section
abbrev Zt57_0 : Type := Int × List (List Int) × List (List Int) × Unit
abbrev Zy57_1 : Ty := (.pair (.int .i64) (.pair (.slice (.arr 32 (.int .u8))) (.pair (.slice (.arr 32 (.int .u8))) .unit)))
abbrev A_57 : List Ty := [(.arr 32 (.int .u8)), (.arr 32 (.int .u8)), (.pair (.int .i64) (.pair (.slice (.arr 32 (.int .u8))) (.pair (.slice (.arr 32 (.int .u8))) .unit)))]
abbrev R_57 : List Ty := [.bool]
noncomputable def sm_57 : Nat → Option Summ := smL [(95, s_95), (97, s_97), (98, s_98), (99, s_99), (100, s_100)]
noncomputable def T_57_0 : PS := ⟨70, [(3, .kc (.ptr 0 [])), (5, .kc (.ptr 1 [])), (7, .hv (.slice (.int .i64))), (8, .kc (.whole 2)), (9, .hv (.int .i64))], [.mem (.hv (.arr 32 (.int .u8))), .mem (.hv Zy57_1), .vec 23 (.arr 32 (.int .u8))], 0⟩
inductive Sp.E_57_0 where
 | e0 (p2 : List Int) (p3 : Zt57_0) (p4 : List (List Int))
noncomputable def Sp.B_57_0 {R : Type} (r : Option E_57_0) (k0 : List Int → Zt57_0 → List (List Int) → Option R) : Option R := match r with
 | none => none
 | some (.e0 p2 p3 p4) => k0 p2 p3 p4
noncomputable def Y_57_0 {R : Type} (k : Ex → St → Option R) : E_57_0 → Option R
 | .e0 p2 p3 p4 => k (Ex.exit 0) (sx 70 [(3, CV.ptr 0 []), (5, CV.ptr 1 []), (8, CV.whole 2)] [Blk.mem (CV.pure (Ty.arr 32 (Ty.int u8)) p2), Blk.mem (CV.pure (Ty.pair (Ty.int i64) (Ty.pair (Ty.slice (Ty.arr 32 (Ty.int u8))) (Ty.pair (Ty.slice (Ty.arr 32 (Ty.int u8))) Ty.unit))) p3), Blk.vec 23 (Ty.arr 32 (Ty.int u8)) p4])
noncomputable def Sp.S_57_0 {R : Type} (K : List Int → Int → List Int → (Int × List (List Int) × List (List Int) × Unit) → List (List Int) → Option R) (k : E_57_0 → Option R) (p0 : List Int) (p1 : Int) (p2 : List Int) (p3 : Int × List (List Int) × List (List Int) × Unit) (p4 : List (List Int)) : Option R :=
 bif decide (p1 < 67) then gd (inB p1 (length (p3.2.1))) (gd (inB p1 (length p0)) (gd (p_98 (getD (p3.2.1) (toNat p1) (Ty.dflt (Ty.arr 32 (Ty.int u8)))) (getD p0 (toNat p1) 0) 15) (gd (room (length p4 + 1) 32) (K p0 (wrap i64 (p1 + 1)) p2 p3 (p4 ++ [(v_98 (getD (p3.2.1) (toNat p1) (Ty.dflt (Ty.arr 32 (Ty.int u8)))) (getD p0 (toNat p1) 0) 15).1]))))) else k (E_57_0.e0 p2 p3 p4)
noncomputable def Sp.L_57_0 : Nat → List Int → Int → List Int → (Int × List (List Int) × List (List Int) × Unit) → List (List Int) → Option E_57_0
 | 0, _, _, _, _, _ => none
 | m + 1, p0, p1, p2, p3, p4 => S_57_0 (L_57_0 m) some p0 p1 p2 p3 p4
noncomputable def l_57_0 (m : Nat) (a : T_57_0.E) : Option E_57_0 := L_57_0 m a.1 a.2.1 a.2.2.1 a.2.2.2.1 a.2.2.2.2.1
noncomputable def O_57_0 {R : Type} : Orc R := orL T_57_0 (l_57_0 FU) Y_57_0
theorem OK_57_0 {R : Type} : okF (R := R) sm_57 0 (nf 57 0) O_57_0 := lp0 T_57_0 l_57_0 (fun R K k a => S_57_0 (fun p0 p1 p2 p3 p4 => K (p0, p1, p2, p3, p4, ())) k a.1 a.2.1 a.2.2.1 a.2.2.2.1 a.2.2.2.2.1) Y_57_0 (fun _ _ _ => by kernel_rfl) (fun _ _ _ => by
 unfold S_57_0
 repeat' first | apply gdN | apply condN | rfl) (ok0 _)
noncomputable def T_57_1 : PS := ⟨70, [(3, .kc (.ptr 0 [])), (5, .kc (.ptr 1 [])), (10, .kc (.ptr 2 []))], [.mem (.hv (.arr 32 (.int .u8))), .mem (.hv Zy57_1), .mem (.hv (.arr 32 (.int .u8)))], 0⟩
inductive Sp.E_57_1 where
 | e0 (p0 : List Int) (p1 : Zt57_0) (p2 : List Int)
 | e1 (p0 : List Int) (p1 : Zt57_0) (p2 : List Int)
noncomputable def Sp.B_57_1 {R : Type} (r : Option E_57_1) (k0 k1 : List Int → Zt57_0 → List Int → Option R) : Option R := match r with
 | none => none
 | some (.e0 p0 p1 p2) => k0 p0 p1 p2
 | some (.e1 p0 p1 p2) => k1 p0 p1 p2
noncomputable def Y_57_1 {R : Type} (k : Ex → St → Option R) : E_57_1 → Option R
 | .e0 p0 p1 p2 => k Ex.ret (sx 70 [(6, CV.bool (Ty.beq (Ty.arr 32 (Ty.int u8)) ((v_100 (getD (p1.2.2.1) 1 (Ty.dflt (Ty.arr 32 (Ty.int u8)))) p2).1) p0))] [])
 | .e1 p0 p1 p2 => k Ex.ret (sx 70 [(6, CV.bool (Ty.beq (Ty.arr 32 (Ty.int u8)) ((v_100 p2 (getD (p1.2.2.1) 1 (Ty.dflt (Ty.arr 32 (Ty.int u8))))).1) p0))] [])
noncomputable def Sp.S_57_1 {R : Type} (k : E_57_1 → Option R) (p0 : List Int) (p1 : Int × List (List Int) × List (List Int) × Unit) (p2 : List Int) : Option R :=
 bif wrap i64 (Int.tdiv (p1.1) 2) == 1 then gd (inB 1 (length (p1.2.2.1))) (gd (p_100 (getD (p1.2.2.1) 1 (Ty.dflt (Ty.arr 32 (Ty.int u8)))) p2) (k (E_57_1.e0 p0 p1 p2))) else gd (inB 1 (length (p1.2.2.1))) (gd (p_100 p2 (getD (p1.2.2.1) 1 (Ty.dflt (Ty.arr 32 (Ty.int u8))))) (k (E_57_1.e1 p0 p1 p2)))
noncomputable def Sp.J_57_1 (p0 : List Int) (p1 : Int × List (List Int) × List (List Int) × Unit) (p2 : List Int) : Option E_57_1 := S_57_1 some p0 p1 p2
noncomputable def O_57_1 {R : Type} : Orc R := orL T_57_1 (fun a => J_57_1 a.1 a.2.1 a.2.2.1) Y_57_1
theorem OK_57_1 {R : Type} : okF (R := R) sm_57 0 (nf 57 1) O_57_1 := jp noO_ok (os := []) trivial T_57_1 (fun R k a => S_57_1 k a.1 a.2.1 a.2.2.1) Y_57_1 (fun k a => by kernel_rfl) (fun Y a => by
 unfold S_57_1
 repeat' first | apply gdN | apply condN | rfl) (ok0 _)
noncomputable def F_57 (a0 a1 : (List Int)) (a2 : (Int × ((List (List Int)) × ((List (List Int)) × Unit)))) : Option (Bool × Unit) :=
 gd (p_95 a2) (bif !(v_95 a2).1 then some (false, PUnit.unit) else gd (p_97 a1) (B_57_0 (L_57_0 4611686018427387904 ((v_97 a1).1) 0 a0 a2 []) fun y15 y16 y17 => gd (p_99 y17) (bif Int.tmod (y16.1) (2 :Int) == (1 :Int) then gd (inB 0 (length (y16.2.2.1))) (gd (p_100 (getD (y16.2.2.1) 0 (Ty.dflt (Ty.arr 32 (Ty.int u8)))) ((v_99 y17).1)) (B_57_1 (J_57_1 y15 y16 ((v_100 (getD (y16.2.2.1) 0 (Ty.dflt (Ty.arr 32 (Ty.int u8)))) ((v_99 y17).1)).1)) (fun y18 y19 y20 => some (Ty.beq (Ty.arr 32 (Ty.int u8)) ((v_100 (getD (y19.2.2.1) 1 (Ty.dflt (Ty.arr 32 (Ty.int u8)))) y20).1) y18, PUnit.unit)) fun y21 y22 y23 => some (Ty.beq (Ty.arr 32 (Ty.int u8)) ((v_100 y23 (getD (y22.2.2.1) 1 (Ty.dflt (Ty.arr 32 (Ty.int u8))))).1) y21, PUnit.unit))) else gd (inB 0 (length (y16.2.2.1))) (gd (p_100 ((v_99 y17).1) (getD (y16.2.2.1) 0 (Ty.dflt (Ty.arr 32 (Ty.int u8))))) (B_57_1 (J_57_1 y15 y16 ((v_100 ((v_99 y17).1) (getD (y16.2.2.1) 0 (Ty.dflt (Ty.arr 32 (Ty.int u8))))).1)) (fun y24 y25 y26 => some (Ty.beq (Ty.arr 32 (Ty.int u8)) ((v_100 (getD (y25.2.2.1) 1 (Ty.dflt (Ty.arr 32 (Ty.int u8)))) y26).1) y24, PUnit.unit)) fun y27 y28 y29 => some (Ty.beq (Ty.arr 32 (Ty.int u8)) ((v_100 y29 (getD (y28.2.2.1) 1 (Ty.dflt (Ty.arr 32 (Ty.int u8))))).1) y27, PUnit.unit))))))
noncomputable def Sp.p_57 (a0 a1 : (List Int)) (a2 : (Int × ((List (List Int)) × ((List (List Int)) × Unit)))) : Bool := (F_57 a0 a1 a2).isSome
noncomputable def Sp.v_57 (a0 a1 : (List Int)) (a2 : (Int × ((List (List Int)) × ((List (List Int)) × Unit)))) : Bool × Unit := (F_57 a0 a1 a2).getD (dfH R_57)
noncomputable def s_57 : Summ := shN A_57 R_57 (fun x => p_57 x.1 x.2.1 x.2.2.1) (fun x => v_57 x.1 x.2.1 x.2.2.1)
theorem pv_57 (a0 a1 : (List Int)) (a2 : (Int × ((List (List Int)) × ((List (List Int)) × Unit)))) {y : Bool × Unit} (h : F_57 a0 a1 a2 = some y) : p_57 a0 a1 a2 = true ∧ v_57 a0 a1 a2 = y := pvG h
theorem run_57 (x : HDen A_57) (y : HDen R_57) (h : F_57 x.1 x.2.1 x.2.2.1 = some y) : rnF sm_57 1 57 A_57 R_57 x y := runG noO_ok (os := [O_57_0, O_57_1]) ⟨OK_57_0, OK_57_1, trivial⟩ (Eq.trans (by kernel_rfl) h)
end
noncomputable section
abbrev A_107 : List Ty := [(.int .i64)]
abbrev R_107 : List Ty := [.bool]
noncomputable def sm_107 : Nat → Option Summ := smL []
noncomputable def F_107 (a0 : Int) : Option (Bool × Unit) :=
 bif a0 == 0 then some (true, PUnit.unit) else some (a0 == 1, PUnit.unit)
noncomputable def Sp.p_107 (a0 : Int) : Bool := (F_107 a0).isSome
noncomputable def Sp.v_107 (a0 : Int) : Bool × Unit := (F_107 a0).getD (dfH R_107)
noncomputable def s_107 : Summ := shN A_107 R_107 (fun x => p_107 x.1) (fun x => v_107 x.1)
theorem pv_107 (a0 : Int) {y : Bool × Unit} (h : F_107 a0 = some y) : p_107 a0 = true ∧ v_107 a0 = y := pvG h
theorem run_107 (x : HDen A_107) (y : HDen R_107) (h : F_107 x.1 = some y) : rnF sm_107 1 107 A_107 R_107 x y := runG noO_ok (os := []) trivial (Eq.trans (by kernel_rfl) h)
end
noncomputable section
abbrev A_113 : List Ty := [(.slice (.int .u32))]
abbrev R_113 : List Ty := [(.arr 32 (.int .u8))]
noncomputable def sm_113 : Nat → Option Summ := smL []
noncomputable def T_113_1 : PS := ⟨29, [(0, .hv (.slice (.int .u32))), (2, .kc (.ptr 0 [])), (3, .kc (.ptr 1 [])), (4, .hv (.int .i64)), (5, .hv (.int .i64))], [.mem (.hv (.arr 32 (.int .u8))), .mem (.hv (.arr 32 (.int .u8)))], 0⟩
inductive Sp.E_113_1 where
 | e0 (p0 : List Int) (p1 : Int) (p3 p4 : List Int)
noncomputable def Sp.B_113_1 {R : Type} (r : Option E_113_1) (k0 : List Int → Int → List Int → List Int → Option R) : Option R := match r with
 | none => none
 | some (.e0 p0 p1 p3 p4) => k0 p0 p1 p3 p4
theorem Bn_113_1 {A R : Type} {r : Option E_113_1} {f : A → Option R} {k0 : List Int → Int → List Int → List Int → Option A} {l0 : List Int → Int → List Int → List Int → Option R} (h0 : ∀ p0 p1 p3 p4, (k0 p0 p1 p3 p4).bind f = l0 p0 p1 p3 p4) : (B_113_1 r k0).bind f = B_113_1 r l0 := by
 cases r with
 | none => rfl
 | some e => cases e <;> first | apply h0
noncomputable def Y_113_1 {R : Type} (k : Ex → St → Option R) : E_113_1 → Option R
 | .e0 p0 p1 p3 p4 => k (Ex.exit 2) (sx 29 [(0, CV.pure (Ty.slice (Ty.int u32)) p0), (2, CV.ptr 0 []), (3, CV.ptr 1 []), (4, CV.int i64 p1)] [Blk.mem (CV.pure (Ty.arr 32 (Ty.int u8)) p3), Blk.mem (CV.pure (Ty.arr 32 (Ty.int u8)) p4)])
noncomputable def Sp.S_113_1 {R : Type} (K : List Int → Int → Int → List Int → List Int → Option R) (k : E_113_1 → Option R) (p0 : List Int) (p1 p2 : Int) (p3 p4 : List Int) : Option R :=
 bif decide (p2 < 4) then gd (inB p1 (length p0)) (gd (decide (0 ≤ wrap i64 (24 - wrap i64 (8 * p2)))) (gd (inB (wrap i64 (wrap i64 (4 * p1) + p2)) 32) (gd (decide (toNat (wrap i64 (wrap i64 (4 * p1) + p2)) < 32) && true) (K p0 p1 (wrap i64 (p2 + 1)) p3 (List.set p4 (toNat (wrap i64 (wrap i64 (4 * p1) + p2))) (wrap u8 (Int.fdiv (getD p0 (toNat p1) 0) (2 ^ Nat.min (toNat (wrap i64 (24 - wrap i64 (8 * p2)))) 32)))))))) else k (E_113_1.e0 p0 p1 p3 p4)
noncomputable def Sp.L_113_1 : Nat → List Int → Int → Int → List Int → List Int → Option E_113_1
 | 0, _, _, _, _, _ => none
 | m + 1, p0, p1, p2, p3, p4 => S_113_1 (L_113_1 m) some p0 p1 p2 p3 p4
noncomputable def l_113_1 (m : Nat) (a : T_113_1.E) : Option E_113_1 := L_113_1 m a.1 a.2.1 a.2.2.1 a.2.2.2.1 a.2.2.2.2.1
noncomputable def O_113_1 {R : Type} : Orc R := orL T_113_1 (l_113_1 FU) Y_113_1
theorem OK_113_1 {R : Type} : okF (R := R) sm_113 0 (ni (nf 113 0) 0) O_113_1 := lp0 T_113_1 l_113_1 (fun R K k a => S_113_1 (fun p0 p1 p2 p3 p4 => K (p0, p1, p2, p3, p4, ())) k a.1 a.2.1 a.2.2.1 a.2.2.2.1 a.2.2.2.2.1) Y_113_1 (fun _ _ _ => by kernel_rfl) (fun _ _ _ => by
 unfold S_113_1
 repeat' first | apply gdN | apply condN | rfl) (ok0 _)
noncomputable def T_113_0 : PS := ⟨29, [(0, .hv (.slice (.int .u32))), (2, .kc (.ptr 0 [])), (3, .kc (.ptr 1 [])), (4, .hv (.int .i64))], [.mem (.hv (.arr 32 (.int .u8))), .mem (.hv (.arr 32 (.int .u8)))], 0⟩
inductive Sp.E_113_0 where
 | e0 (p2 p3 : List Int)
noncomputable def Sp.B_113_0 {R : Type} (r : Option E_113_0) (k0 : List Int → List Int → Option R) : Option R := match r with
 | none => none
 | some (.e0 p2 p3) => k0 p2 p3
noncomputable def Y_113_0 {R : Type} (k : Ex → St → Option R) : E_113_0 → Option R
 | .e0 p2 p3 => k (Ex.exit 0) (sx 29 [(2, CV.ptr 0 []), (3, CV.ptr 1 [])] [Blk.mem (CV.pure (Ty.arr 32 (Ty.int u8)) p2), Blk.mem (CV.pure (Ty.arr 32 (Ty.int u8)) p3)])
noncomputable def Sp.S_113_0 {R : Type} (K : List Int → Int → List Int → List Int → Option R) (k : E_113_0 → Option R) (p0 : List Int) (p1 : Int) (p2 p3 : List Int) : Option R :=
 bif decide (p1 < 8) then B_113_1 (L_113_1 4611686018427387904 p0 p1 0 p2 p3) fun y4 y5 y6 y7 => K y4 (wrap i64 (y5 + 1)) y6 y7 else k (E_113_0.e0 p2 p3)
noncomputable def Sp.L_113_0 : Nat → List Int → Int → List Int → List Int → Option E_113_0
 | 0, _, _, _, _ => none
 | m + 1, p0, p1, p2, p3 => S_113_0 (L_113_0 m) some p0 p1 p2 p3
noncomputable def l_113_0 (m : Nat) (a : T_113_0.E) : Option E_113_0 := L_113_0 m a.1 a.2.1 a.2.2.1 a.2.2.2.1
noncomputable def O_113_0 {R : Type} : Orc R := orL T_113_0 (l_113_0 FU) Y_113_0
theorem OK_113_0 {R : Type} : okF (R := R) sm_113 0 (nf 113 0) O_113_0 := lp noO_ok (os := [O_113_1]) ⟨OK_113_1, trivial⟩ T_113_0 l_113_0 (fun R K k a => S_113_0 (fun p0 p1 p2 p3 => K (p0, p1, p2, p3, ())) k a.1 a.2.1 a.2.2.1 a.2.2.2.1) Y_113_0 (fun _ => rfl) (fun _ _ => rfl) (fun k K a => by kernel_rfl) (fun Y K a => by
 unfold S_113_0
 repeat' first | apply gdN | apply condN | (apply Bn_113_1 <;> intros) | rfl) (ok0 _)
noncomputable def F_113 (a0 : (List Int)) : Option ((List Int) × Unit) :=
 B_113_0 (L_113_0 4611686018427387904 a0 0 (replicate 32 (0 :Int)) (replicate 32 (0 :Int))) fun y2 y3 => some (y3, PUnit.unit)
noncomputable def Sp.p_113 (a0 : (List Int)) : Bool := (F_113 a0).isSome
noncomputable def Sp.v_113 (a0 : (List Int)) : (List Int) × Unit := (F_113 a0).getD (dfH R_113)
noncomputable def s_113 : Summ := shN A_113 R_113 (fun x => p_113 x.1) (fun x => v_113 x.1)
theorem pv_113 (a0 : (List Int)) {y : (List Int) × Unit} (h : F_113 a0 = some y) : p_113 a0 = true ∧ v_113 a0 = y := pvG h
theorem run_113 (x : HDen A_113) (y : HDen R_113) (h : F_113 x.1 = some y) : rnF sm_113 1 113 A_113 R_113 x y := runG noO_ok (os := [O_113_0]) ⟨OK_113_0, trivial⟩ (Eq.trans (by kernel_rfl) h)
end
noncomputable section
abbrev Zt114_0 : Type := List (List Int)
abbrev A_114 : List Ty := [(.slice (.int .u32))]
abbrev R_114 : List Ty := [(.pair (.int .i64) (.pair (.slice (.arr 32 (.int .u8))) (.pair (.slice (.arr 32 (.int .u8))) .unit))), .bool]
noncomputable def sm_114 : Nat → Option Summ := smL []
noncomputable def T_114_1 : PS := ⟨64, [(0, .hv (.slice (.int .u32))), (2, .kc (.ptr 0 [])), (4, .kc (.ptr 3 [])), (5, .hv (.int .i64)), (6, .kc (.ptr 6 [])), (7, .hv (.int .i64))], [.mem (.pr (.hv (.int .i64)) (.kc (.pair (.whole 1) (.pair (.whole 2) (.pure .unit PUnit.unit))))), .vec 23 (.arr 32 (.int .u8)), .vec 23 (.arr 32 (.int .u8)), .mem (.pr (.hv (.int .i64)) (.kc (.pair (.whole 4) (.pair (.whole 5) (.pure .unit PUnit.unit))))), .vec 23 (.arr 32 (.int .u8)), .vec 23 (.arr 32 (.int .u8)), .mem (.hv (.arr 32 (.int .u8)))], 0⟩
inductive Sp.E_114_1 where
 | e0 (p0 : List Int) (p1 p3 : Int) (p4 p5 : Zt114_0) (p6 : Int) (p7 p8 : Zt114_0) (p9 : List Int)
noncomputable def Sp.B_114_1 {R : Type} (r : Option E_114_1) (k0 : List Int → Int → Int → Zt114_0 → Zt114_0 → Int → Zt114_0 → Zt114_0 → List Int → Option R) : Option R := match r with
 | none => none
 | some (.e0 p0 p1 p3 p4 p5 p6 p7 p8 p9) => k0 p0 p1 p3 p4 p5 p6 p7 p8 p9
theorem Bn_114_1 {A R : Type} {r : Option E_114_1} {f : A → Option R} {k0 : List Int → Int → Int → Zt114_0 → Zt114_0 → Int → Zt114_0 → Zt114_0 → List Int → Option A} {l0 : List Int → Int → Int → Zt114_0 → Zt114_0 → Int → Zt114_0 → Zt114_0 → List Int → Option R} (h0 : ∀ p0 p1 p3 p4 p5 p6 p7 p8 p9, (k0 p0 p1 p3 p4 p5 p6 p7 p8 p9).bind f = l0 p0 p1 p3 p4 p5 p6 p7 p8 p9) : (B_114_1 r k0).bind f = B_114_1 r l0 := by
 cases r with
 | none => rfl
 | some e => cases e <;> first | apply h0
noncomputable def Y_114_1 {R : Type} (k : Ex → St → Option R) : E_114_1 → Option R
 | .e0 p0 p1 p3 p4 p5 p6 p7 p8 p9 => k (Ex.exit 2) (sx 64 [(0, CV.pure (Ty.slice (Ty.int u32)) p0), (2, CV.ptr 0 []), (4, CV.ptr 3 []), (5, CV.int i64 p1), (6, CV.ptr 6 [])] [Blk.mem (CV.pair (CV.int i64 p3) (CV.pair (CV.whole 1) (CV.pair (CV.whole 2) (CV.pure Ty.unit PUnit.unit)))), Blk.vec 23 (Ty.arr 32 (Ty.int u8)) p4, Blk.vec 23 (Ty.arr 32 (Ty.int u8)) p5, Blk.mem (CV.pair (CV.int i64 p6) (CV.pair (CV.whole 4) (CV.pair (CV.whole 5) (CV.pure Ty.unit PUnit.unit)))), Blk.vec 23 (Ty.arr 32 (Ty.int u8)) p7, Blk.vec 23 (Ty.arr 32 (Ty.int u8)) p8, Blk.mem (CV.pure (Ty.arr 32 (Ty.int u8)) p9)])
noncomputable def Sp.S_114_1 {R : Type} (K : List Int → Int → Int → Int → List (List Int) → List (List Int) → Int → List (List Int) → List (List Int) → List Int → Option R) (k : E_114_1 → Option R) (p0 : List Int) (p1 p2 p3 : Int) (p4 p5 : List (List Int)) (p6 : Int) (p7 p8 : List (List Int)) (p9 : List Int) : Option R :=
 bif decide (p2 < 32) then gd (inB (wrap i64 (wrap i64 (1 + wrap i64 (8 * p1)) + wrap i64 (Int.tdiv p2 4))) (length p0)) (gd (decide (0 ≤ wrap u64 (wrap i64 (24 - wrap i64 (Int.tmod p2 (4 :Int) * (8 :Int)))))) (gd (inB p2 32) (gd (decide (toNat p2 < 32) && true) (K p0 p1 (wrap i64 (p2 + 1)) p3 p4 p5 p6 p7 p8 (List.set p9 (toNat p2) (wrap u8 (Int.fdiv (getD p0 (toNat (wrap i64 (wrap i64 (1 + wrap i64 (8 * p1)) + wrap i64 (Int.tdiv p2 4)))) 0) (2 ^ Nat.min (toNat (wrap u64 (wrap i64 (24 - wrap i64 (Int.tmod p2 (4 :Int) * (8 :Int)))))) 32)))))))) else k (E_114_1.e0 p0 p1 p3 p4 p5 p6 p7 p8 p9)
noncomputable def Sp.L_114_1 : Nat → List Int → Int → Int → Int → List (List Int) → List (List Int) → Int → List (List Int) → List (List Int) → List Int → Option E_114_1
 | 0, _, _, _, _, _, _, _, _, _, _ => none
 | m + 1, p0, p1, p2, p3, p4, p5, p6, p7, p8, p9 => S_114_1 (L_114_1 m) some p0 p1 p2 p3 p4 p5 p6 p7 p8 p9
noncomputable def l_114_1 (m : Nat) (a : T_114_1.E) : Option E_114_1 := L_114_1 m a.1 a.2.1 a.2.2.1 a.2.2.2.1 a.2.2.2.2.1 a.2.2.2.2.2.1 a.2.2.2.2.2.2.1 a.2.2.2.2.2.2.2.1 a.2.2.2.2.2.2.2.2.1 a.2.2.2.2.2.2.2.2.2.1
noncomputable def O_114_1 {R : Type} : Orc R := orL T_114_1 (l_114_1 FU) Y_114_1
theorem OK_114_1 {R : Type} : okF (R := R) sm_114 0 (ni (nf 114 0) 0) O_114_1 := lp0 T_114_1 l_114_1 (fun R K k a => S_114_1 (fun p0 p1 p2 p3 p4 p5 p6 p7 p8 p9 => K (p0, p1, p2, p3, p4, p5, p6, p7, p8, p9, ())) k a.1 a.2.1 a.2.2.1 a.2.2.2.1 a.2.2.2.2.1 a.2.2.2.2.2.1 a.2.2.2.2.2.2.1 a.2.2.2.2.2.2.2.1 a.2.2.2.2.2.2.2.2.1 a.2.2.2.2.2.2.2.2.2.1) Y_114_1 (fun _ _ _ => by kernel_rfl) (fun _ _ _ => by
 unfold S_114_1
 repeat' first | apply gdN | apply condN | rfl) (ok0 _)
noncomputable def T_114_0 : PS := ⟨64, [(0, .hv (.slice (.int .u32))), (2, .kc (.ptr 0 [])), (4, .kc (.ptr 3 [])), (5, .hv (.int .i64))], [.mem (.pr (.hv (.int .i64)) (.kc (.pair (.whole 1) (.pair (.whole 2) (.pure .unit PUnit.unit))))), .vec 23 (.arr 32 (.int .u8)), .vec 23 (.arr 32 (.int .u8)), .mem (.pr (.hv (.int .i64)) (.kc (.pair (.whole 4) (.pair (.whole 5) (.pure .unit PUnit.unit))))), .vec 23 (.arr 32 (.int .u8)), .vec 23 (.arr 32 (.int .u8))], 0⟩
inductive Sp.E_114_0 where
 | e0 (p2 : Int) (p3 p4 : Zt114_0) (p5 : Int) (p6 p7 : Zt114_0)
noncomputable def Sp.B_114_0 {R : Type} (r : Option E_114_0) (k0 : Int → Zt114_0 → Zt114_0 → Int → Zt114_0 → Zt114_0 → Option R) : Option R := match r with
 | none => none
 | some (.e0 p2 p3 p4 p5 p6 p7) => k0 p2 p3 p4 p5 p6 p7
noncomputable def Y_114_0 {R : Type} (k : Ex → St → Option R) : E_114_0 → Option R
 | .e0 p2 p3 p4 p5 p6 p7 => k (Ex.exit 0) (sx 64 [(2, CV.ptr 0 []), (4, CV.ptr 3 [])] [Blk.mem (CV.pair (CV.int i64 p2) (CV.pair (CV.whole 1) (CV.pair (CV.whole 2) (CV.pure Ty.unit PUnit.unit)))), Blk.vec 23 (Ty.arr 32 (Ty.int u8)) p3, Blk.vec 23 (Ty.arr 32 (Ty.int u8)) p4, Blk.mem (CV.pair (CV.int i64 p5) (CV.pair (CV.whole 4) (CV.pair (CV.whole 5) (CV.pure Ty.unit PUnit.unit)))), Blk.vec 23 (Ty.arr 32 (Ty.int u8)) p6, Blk.vec 23 (Ty.arr 32 (Ty.int u8)) p7])
noncomputable def Sp.S_114_0 {R : Type} (K : List Int → Int → Int → List (List Int) → List (List Int) → Int → List (List Int) → List (List Int) → Option R) (k : E_114_0 → Option R) (p0 : List Int) (p1 p2 : Int) (p3 p4 : List (List Int)) (p5 : Int) (p6 p7 : List (List Int)) : Option R :=
 bif decide (p1 < 69) then B_114_1 (L_114_1 4611686018427387904 p0 p1 0 p2 p3 p4 p5 p6 p7 (replicate 32 (0 :Int))) fun y9 y10 y11 y12 y13 y14 y15 y16 y17 => bif decide (y10 < 67) then gd (room (length y15 + 1) 32) (K y9 (wrap i64 (y10 + 1)) y11 y12 y13 y14 (y15 ++ [y17]) y16) else gd (room (length y16 + 1) 32) (K y9 (wrap i64 (y10 + 1)) y11 y12 y13 y14 y15 (y16 ++ [y17])) else k (E_114_0.e0 p2 p3 p4 p5 p6 p7)
noncomputable def Sp.L_114_0 : Nat → List Int → Int → Int → List (List Int) → List (List Int) → Int → List (List Int) → List (List Int) → Option E_114_0
 | 0, _, _, _, _, _, _, _, _ => none
 | m + 1, p0, p1, p2, p3, p4, p5, p6, p7 => S_114_0 (L_114_0 m) some p0 p1 p2 p3 p4 p5 p6 p7
noncomputable def l_114_0 (m : Nat) (a : T_114_0.E) : Option E_114_0 := L_114_0 m a.1 a.2.1 a.2.2.1 a.2.2.2.1 a.2.2.2.2.1 a.2.2.2.2.2.1 a.2.2.2.2.2.2.1 a.2.2.2.2.2.2.2.1
noncomputable def O_114_0 {R : Type} : Orc R := orL T_114_0 (l_114_0 FU) Y_114_0
theorem OK_114_0 {R : Type} : okF (R := R) sm_114 0 (nf 114 0) O_114_0 := lp noO_ok (os := [O_114_1]) ⟨OK_114_1, trivial⟩ T_114_0 l_114_0 (fun R K k a => S_114_0 (fun p0 p1 p2 p3 p4 p5 p6 p7 => K (p0, p1, p2, p3, p4, p5, p6, p7, ())) k a.1 a.2.1 a.2.2.1 a.2.2.2.1 a.2.2.2.2.1 a.2.2.2.2.2.1 a.2.2.2.2.2.2.1 a.2.2.2.2.2.2.2.1) Y_114_0 (fun _ => rfl) (fun _ _ => rfl) (fun k K a => by kernel_rfl) (fun Y K a => by
 unfold S_114_0
 repeat' first | apply gdN | apply condN | (apply Bn_114_1 <;> intros) | rfl) (ok0 _)
noncomputable def F_114 (a0 : (List Int)) : Option ((Int × ((List (List Int)) × ((List (List Int)) × Unit))) × Bool × Unit) :=
 bif (↑(length a0) : Int) != 553 then some ((0, [], [], PUnit.unit), false, PUnit.unit) else gd (inB 0 (length a0)) (bif decide (getD a0 0 (0 :Int) > (3 :Int)) then some ((0, [], [], PUnit.unit), false, PUnit.unit) else gd (inB 0 (length a0)) (B_114_0 (L_114_0 4611686018427387904 a0 0 0 [] [] (wrap i64 (getD a0 0 0)) [] []) fun y6 y7 y8 y9 y10 y11 => some ((y9, y10, y11, PUnit.unit), true, PUnit.unit)))
noncomputable def Sp.p_114 (a0 : (List Int)) : Bool := (F_114 a0).isSome
noncomputable def Sp.v_114 (a0 : (List Int)) : (Int × ((List (List Int)) × ((List (List Int)) × Unit))) × Bool × Unit := (F_114 a0).getD (dfH R_114)
noncomputable def s_114 : Summ := shS A_114 R_114 (fun x => p_114 x.1) (fun x => v_114 x.1)
theorem pv_114 (a0 : (List Int)) {y : (Int × ((List (List Int)) × ((List (List Int)) × Unit))) × Bool × Unit} (h : F_114 a0 = some y) : p_114 a0 = true ∧ v_114 a0 = y := pvG h
theorem run_114 (x : HDen A_114) (y : HDen R_114) (h : F_114 x.1 = some y) : rnF sm_114 1 114 A_114 R_114 x y := runG noO_ok (os := [O_114_0]) ⟨OK_114_0, trivial⟩ (Eq.trans (by kernel_rfl) h)
end
noncomputable section
abbrev A_77 : List Ty := [(.pair (.pair (.slice (.int .u32)) (.pair (.slice (.int .i64)) (.pair (.int .i64) .unit))) (.pair (.arr 32 (.int .u8)) .unit)), (.int .i64)]
abbrev R_77 : List Ty := [(.pair (.int .i64) (.pair (.int .i64) (.pair (.arr 32 (.int .u8)) (.pair (.pair (.int .i64) (.pair (.slice (.arr 32 (.int .u8))) (.pair (.slice (.arr 32 (.int .u8))) .unit))) .unit)))), .bool]
noncomputable def sm_77 : Nat → Option Summ := smL [(12, s_12), (30, s_30), (107, s_107), (113, s_113), (114, s_114)]
noncomputable def F_77 (a0 : (((List Int) × ((List Int) × (Int × Unit))) × ((List Int) × Unit))) (a1 : Int) : Option ((Int × (Int × ((List Int) × ((Int × ((List (List Int)) × ((List (List Int)) × Unit))) × Unit)))) × Bool × Unit) :=
 gd (p_12 a0) (bif !(v_12 a0).1 then some ((0, 0, replicate 32 (0 :Int), (0, [], [], PUnit.unit), PUnit.unit), false, PUnit.unit) else gd (p_107 a1) (bif !(v_107 a1).1 then some ((0, 0, replicate 32 (0 :Int), (0, [], [], PUnit.unit), PUnit.unit), false, PUnit.unit) else gd (p_30 a0 a1) (gd (inB 1 (length ((v_30 a0 a1).1))) (gd (inB 2 (length ((v_30 a0 a1).1))) (gd (sl3 3 11 (↑(length ((v_30 a0 a1).1)) : Int)) (gd (p_113 (take 8 (drop 3 ((v_30 a0 a1).1)))) (bif decide (wrap i64 (getD ((v_30 a0 a1).1) 1 0) < 1) then some ((0, 0, replicate 32 (0 :Int), (0, [], [], PUnit.unit), PUnit.unit), false, PUnit.unit) else bif decide (wrap i64 (getD ((v_30 a0 a1).1) 1 0) ≥ 2147483648) then some ((0, 0, replicate 32 (0 :Int), (0, [], [], PUnit.unit), PUnit.unit), false, PUnit.unit) else bif decide (wrap i64 (getD ((v_30 a0 a1).1) 2 0) < 1) then some ((0, 0, replicate 32 (0 :Int), (0, [], [], PUnit.unit), PUnit.unit), false, PUnit.unit) else bif decide (wrap i64 (getD ((v_30 a0 a1).1) 2 0) > wrap i64 ((↑(length ((v_30 a0 a1).1)) : Int) - 564)) then some ((0, 0, replicate 32 (0 :Int), (0, [], [], PUnit.unit), PUnit.unit), false, PUnit.unit) else gd (sl3 11 564 (↑(length ((v_30 a0 a1).1)) : Int)) (gd (p_114 (take 553 (drop 11 ((v_30 a0 a1).1)))) (bif !(v_114 (take 553 (drop 11 ((v_30 a0 a1).1)))).2.1 then some ((0, 0, replicate 32 (0 :Int), (0, [], [], PUnit.unit), PUnit.unit), false, PUnit.unit) else some ((wrap i64 (getD ((v_30 a0 a1).1) 1 0), wrap i64 (getD ((v_30 a0 a1).1) 2 0), (v_113 (take 8 (drop 3 ((v_30 a0 a1).1)))).1, (v_114 (take 553 (drop 11 ((v_30 a0 a1).1)))).1, PUnit.unit), true, PUnit.unit))))))))))
noncomputable def Sp.p_77 (a0 : (((List Int) × ((List Int) × (Int × Unit))) × ((List Int) × Unit))) (a1 : Int) : Bool := (F_77 a0 a1).isSome
noncomputable def Sp.v_77 (a0 : (((List Int) × ((List Int) × (Int × Unit))) × ((List Int) × Unit))) (a1 : Int) : (Int × (Int × ((List Int) × ((Int × ((List (List Int)) × ((List (List Int)) × Unit))) × Unit)))) × Bool × Unit := (F_77 a0 a1).getD (dfH R_77)
noncomputable def s_77 : Summ := shS A_77 R_77 (fun x => p_77 x.1 x.2.1) (fun x => v_77 x.1 x.2.1)
theorem pv_77 (a0 : (((List Int) × ((List Int) × (Int × Unit))) × ((List Int) × Unit))) (a1 : Int) {y : (Int × (Int × ((List Int) × ((Int × ((List (List Int)) × ((List (List Int)) × Unit))) × Unit)))) × Bool × Unit} (h : F_77 a0 a1 = some y) : p_77 a0 a1 = true ∧ v_77 a0 a1 = y := pvG h
theorem run_77 (x : HDen A_77) (y : HDen R_77) (h : F_77 x.1 x.2.1 = some y) : rnF sm_77 1 77 A_77 R_77 x y := runG noO_ok (os := []) trivial (Eq.trans (by kernel_rfl) h)
end
noncomputable section
abbrev A_78 : List Ty := [(.int .i64), (.slice (.int .u32))]
abbrev R_78 : List Ty := [(.arr 32 (.int .u8))]
noncomputable def sm_78 : Nat → Option Summ := smL [(116, s_116)]
noncomputable def T_78_115_1_0 : PS := ⟨30, [(0, .kc (.whole 2)), (1, .kc (.whole 1)), (5, .hv (.int .i64)), (6, .hv (.int .i64))], [.mem (.hv (.arr 32 (.int .u8))), .vec 37 (.int .u32), .vec 5 (.int .u8)], 2⟩
inductive Sp.E_78_115_1_0 where
 | e0 (p0 : Int) (p2 p3 p4 : List Int)
noncomputable def Sp.B_78_115_1_0 {R : Type} (r : Option E_78_115_1_0) (k0 : Int → List Int → List Int → List Int → Option R) : Option R := match r with
 | none => none
 | some (.e0 p0 p2 p3 p4) => k0 p0 p2 p3 p4
theorem Bn_78_115_1_0 {A R : Type} {r : Option E_78_115_1_0} {f : A → Option R} {k0 : Int → List Int → List Int → List Int → Option A} {l0 : Int → List Int → List Int → List Int → Option R} (h0 : ∀ p0 p2 p3 p4, (k0 p0 p2 p3 p4).bind f = l0 p0 p2 p3 p4) : (B_78_115_1_0 r k0).bind f = B_78_115_1_0 r l0 := by
 cases r with
 | none => rfl
 | some e => cases e <;> first | apply h0
noncomputable def Y_78_115_1_0 {R : Type} (k : Ex → St → Option R) : E_78_115_1_0 → Option R
 | .e0 p0 p2 p3 p4 => k (Ex.exit 2) (sx 30 [(0, CV.whole 2), (1, CV.whole 1), (5, CV.int i64 p0)] [Blk.mem (CV.pure (Ty.arr 32 (Ty.int u8)) p2), Blk.vec 37 (Ty.int u32) p3, Blk.vec 5 (Ty.int u8) p4] 2)
noncomputable def Sp.S_78_115_1_0 {R : Type} (K : Int → Int → List Int → List Int → List Int → Option R) (k : E_78_115_1_0 → Option R) (p0 p1 : Int) (p2 p3 p4 : List Int) : Option R :=
 bif decide (p1 < 4) then gd (inB p0 (length p3)) (gd (decide (toNat p0 < length p3) && true) (gd (decide (0 ≤ wrap i64 (24 - wrap i64 (8 * p1)))) (gd (room (length p4 + 1) 1) (K p0 (wrap i64 (p1 + 1)) p2 p3 (p4 ++ [wrap u8 (Int.fdiv (getD p3 (toNat p0) 0) (2 ^ Nat.min (toNat (wrap i64 (24 - wrap i64 (8 * p1)))) 32))]))))) else k (E_78_115_1_0.e0 p0 p2 p3 p4)
noncomputable def Sp.L_78_115_1_0 : Nat → Int → Int → List Int → List Int → List Int → Option E_78_115_1_0
 | 0, _, _, _, _, _ => none
 | m + 1, p0, p1, p2, p3, p4 => S_78_115_1_0 (L_78_115_1_0 m) some p0 p1 p2 p3 p4
noncomputable def l_78_115_1_0 (m : Nat) (a : T_78_115_1_0.E) : Option E_78_115_1_0 := L_78_115_1_0 m a.1 a.2.1 a.2.2.1 a.2.2.2.1 a.2.2.2.2.1
noncomputable def O_78_115_1_0 {R : Type} : Orc R := orL T_78_115_1_0 (l_78_115_1_0 FU) Y_78_115_1_0
theorem OK_78_115_1_0 {R : Type} : okF (R := R) sm_78 0 (ni (nf 115 0) 0) O_78_115_1_0 := lp0 T_78_115_1_0 l_78_115_1_0 (fun R K k a => S_78_115_1_0 (fun p0 p1 p2 p3 p4 => K (p0, p1, p2, p3, p4, ())) k a.1 a.2.1 a.2.2.1 a.2.2.2.1 a.2.2.2.2.1) Y_78_115_1_0 (fun _ _ _ => by kernel_rfl) (fun _ _ _ => by
 unfold S_78_115_1_0
 repeat' first | apply gdN | apply condN | rfl) (ok0 _)
noncomputable def T_78_115_1_2 : PS := ⟨30, [(0, .kc (.whole 3)), (1, .hv (.slice (.int .u32))), (5, .hv (.int .i64)), (6, .hv (.int .i64))], [.mem (.hv (.arr 32 (.int .u8))), .vec 37 (.int .u32), .dead, .vec 5 (.int .u8)], 3⟩
inductive Sp.E_78_115_1_2 where
 | e0 (p0 : List Int) (p1 : Int) (p3 p4 p5 : List Int)
noncomputable def Sp.B_78_115_1_2 {R : Type} (r : Option E_78_115_1_2) (k0 : List Int → Int → List Int → List Int → List Int → Option R) : Option R := match r with
 | none => none
 | some (.e0 p0 p1 p3 p4 p5) => k0 p0 p1 p3 p4 p5
theorem Bn_78_115_1_2 {A R : Type} {r : Option E_78_115_1_2} {f : A → Option R} {k0 : List Int → Int → List Int → List Int → List Int → Option A} {l0 : List Int → Int → List Int → List Int → List Int → Option R} (h0 : ∀ p0 p1 p3 p4 p5, (k0 p0 p1 p3 p4 p5).bind f = l0 p0 p1 p3 p4 p5) : (B_78_115_1_2 r k0).bind f = B_78_115_1_2 r l0 := by
 cases r with
 | none => rfl
 | some e => cases e <;> first | apply h0
noncomputable def Y_78_115_1_2 {R : Type} (k : Ex → St → Option R) : E_78_115_1_2 → Option R
 | .e0 p0 p1 p3 p4 p5 => k (Ex.exit 2) (sx 30 [(0, CV.whole 3), (1, CV.pure (Ty.slice (Ty.int u32)) p0), (5, CV.int i64 p1)] [Blk.mem (CV.pure (Ty.arr 32 (Ty.int u8)) p3), Blk.vec 37 (Ty.int u32) p4, Blk.dead, Blk.vec 5 (Ty.int u8) p5] 3)
noncomputable def Sp.S_78_115_1_2 {R : Type} (K : List Int → Int → Int → List Int → List Int → List Int → Option R) (k : E_78_115_1_2 → Option R) (p0 : List Int) (p1 p2 : Int) (p3 p4 p5 : List Int) : Option R :=
 bif decide (p2 < 4) then gd (inB p1 (length p0)) (gd (decide (0 ≤ wrap i64 (24 - wrap i64 (8 * p2)))) (gd (room (length p5 + 1) 1) (K p0 p1 (wrap i64 (p2 + 1)) p3 p4 (p5 ++ [wrap u8 (Int.fdiv (getD p0 (toNat p1) 0) (2 ^ Nat.min (toNat (wrap i64 (24 - wrap i64 (8 * p2)))) 32))])))) else k (E_78_115_1_2.e0 p0 p1 p3 p4 p5)
noncomputable def Sp.L_78_115_1_2 : Nat → List Int → Int → Int → List Int → List Int → List Int → Option E_78_115_1_2
 | 0, _, _, _, _, _, _ => none
 | m + 1, p0, p1, p2, p3, p4, p5 => S_78_115_1_2 (L_78_115_1_2 m) some p0 p1 p2 p3 p4 p5
noncomputable def l_78_115_1_2 (m : Nat) (a : T_78_115_1_2.E) : Option E_78_115_1_2 := L_78_115_1_2 m a.1 a.2.1 a.2.2.1 a.2.2.2.1 a.2.2.2.2.1 a.2.2.2.2.2.1
noncomputable def O_78_115_1_2 {R : Type} : Orc R := orL T_78_115_1_2 (l_78_115_1_2 FU) Y_78_115_1_2 O_78_115_1_0
theorem loop_78_115_1_2 {R : Type} (k : Ex → St → Option R) : ∀ m a, evLoopN (evCodeL sm_78 FU (ovr noO (evFn sm_78 fns FU 0)) (mkT (inner (ni (nf 115 0) 0)) []) (inner (ni (nf 115 0) 0))) (St.norm (lv (ni (nf 115 0) 0))) m (T_78_115_1_2.inst a) k = (l_78_115_1_2 m a).bind (Y_78_115_1_2 k) := lpN l_78_115_1_2 (fun R K k a => S_78_115_1_2 (fun p0 p1 p2 p3 p4 p5 => K (p0, p1, p2, p3, p4, p5, ())) k a.1 a.2.1 a.2.2.1 a.2.2.2.1 a.2.2.2.2.1 a.2.2.2.2.2.1) (fun _ => rfl) (fun _ _ => rfl) (fun K a => by kernel_rfl) (fun K a => by
 unfold S_78_115_1_2
 repeat' first | apply gdN | apply condN | rfl)
theorem OK_78_115_1_2 {R : Type} : okF (R := R) sm_78 0 (ni (nf 115 0) 0) O_78_115_1_2 := lp0 T_78_115_1_2 l_78_115_1_2 (fun R K k a => S_78_115_1_2 (fun p0 p1 p2 p3 p4 p5 => K (p0, p1, p2, p3, p4, p5, ())) k a.1 a.2.1 a.2.2.1 a.2.2.2.1 a.2.2.2.2.1 a.2.2.2.2.2.1) Y_78_115_1_2 (fun _ _ _ => by kernel_rfl) (fun _ _ _ => by
 unfold S_78_115_1_2
 repeat' first | apply gdN | apply condN | rfl) OK_78_115_1_0
noncomputable def T_78_115_1_1 : PS := ⟨30, [(0, .kc (.whole 2)), (1, .hv (.slice (.int .u32))), (5, .hv (.int .i64)), (6, .hv (.int .i64))], [.mem (.hv (.arr 32 (.int .u8))), .vec 37 (.int .u32), .vec 5 (.int .u8)], 3⟩
inductive Sp.E_78_115_1_1 where
 | e0 (p0 : List Int) (p1 : Int) (p3 p4 p5 : List Int)
 | e1 (p0 : List Int) (p1 : Int) (p3 p4 p5 : List Int)
noncomputable def Sp.B_78_115_1_1 {R : Type} (r : Option E_78_115_1_1) (k0 k1 : List Int → Int → List Int → List Int → List Int → Option R) : Option R := match r with
 | none => none
 | some (.e0 p0 p1 p3 p4 p5) => k0 p0 p1 p3 p4 p5
 | some (.e1 p0 p1 p3 p4 p5) => k1 p0 p1 p3 p4 p5
theorem Bn_78_115_1_1 {A R : Type} {r : Option E_78_115_1_1} {f : A → Option R} {k0 : List Int → Int → List Int → List Int → List Int → Option A} {k1 : List Int → Int → List Int → List Int → List Int → Option A} {l0 : List Int → Int → List Int → List Int → List Int → Option R} {l1 : List Int → Int → List Int → List Int → List Int → Option R} (h0 : ∀ p0 p1 p3 p4 p5, (k0 p0 p1 p3 p4 p5).bind f = l0 p0 p1 p3 p4 p5) (h1 : ∀ p0 p1 p3 p4 p5, (k1 p0 p1 p3 p4 p5).bind f = l1 p0 p1 p3 p4 p5) : (B_78_115_1_1 r k0 k1).bind f = B_78_115_1_1 r l0 l1 := by
 cases r with
 | none => rfl
 | some e => cases e <;> first | apply h0 | apply h1
noncomputable def Y_78_115_1_1 {R : Type} (k : Ex → St → Option R) : E_78_115_1_1 → Option R
 | .e0 p0 p1 p3 p4 p5 => k (Ex.exit 2) (sx 30 [(0, CV.whole 2), (1, CV.pure (Ty.slice (Ty.int u32)) p0), (5, CV.int i64 p1)] [Blk.mem (CV.pure (Ty.arr 32 (Ty.int u8)) p3), Blk.vec 37 (Ty.int u32) p4, Blk.vec 5 (Ty.int u8) p5] 3)
 | .e1 p0 p1 p3 p4 p5 => k (Ex.exit 2) (sx 30 [(0, CV.whole 3), (1, CV.pure (Ty.slice (Ty.int u32)) p0), (5, CV.int i64 p1)] [Blk.mem (CV.pure (Ty.arr 32 (Ty.int u8)) p3), Blk.vec 37 (Ty.int u32) p4, Blk.dead, Blk.vec 5 (Ty.int u8) p5] 3)
noncomputable def Sp.S_78_115_1_1 {R : Type} (K KB : List Int → Int → Int → List Int → List Int → List Int → Option R) (k : E_78_115_1_1 → Option R) (p0 : List Int) (p1 p2 : Int) (p3 p4 p5 : List Int) : Option R :=
 bif decide (p2 < 4) then gd (inB p1 (length p0)) (gd (decide (0 ≤ wrap i64 (24 - wrap i64 (8 * p2)))) (gd (room (length p5 + 1) 1) (KB p0 p1 (wrap i64 (p2 + 1)) p3 p4 (p5 ++ [wrap u8 (Int.fdiv (getD p0 (toNat p1) 0) (2 ^ Nat.min (toNat (wrap i64 (24 - wrap i64 (8 * p2)))) 32))])))) else k (E_78_115_1_1.e0 p0 p1 p3 p4 p5)
noncomputable def C_78_115_1_1 : E_78_115_1_2 → E_78_115_1_1
 | .e0 p0 p1 p3 p4 p5 => .e1 p0 p1 p3 p4 p5
theorem BC_78_115_1_1 (r : Option E_78_115_1_2) : B_78_115_1_2 r (fun p0 p1 p3 p4 p5 => some (E_78_115_1_1.e1 p0 p1 p3 p4 p5)) = r.bind fun e => some (C_78_115_1_1 e) := by
 cases r with
 | none => rfl
 | some e => cases e <;> rfl
noncomputable def Sp.L_78_115_1_1 : Nat → List Int → Int → Int → List Int → List Int → List Int → Option E_78_115_1_1
 | 0, _, _, _, _, _, _ => none
 | m + 1, p0, p1, p2, p3, p4, p5 => S_78_115_1_1 (L_78_115_1_1 m) (fun q0 q1 q2 q3 q4 q5 => B_78_115_1_2 (L_78_115_1_2 m q0 q1 q2 q3 q4 q5) (fun p0 p1 p3 p4 p5 => some (E_78_115_1_1.e1 p0 p1 p3 p4 p5))) some p0 p1 p2 p3 p4 p5
noncomputable def l_78_115_1_1 (m : Nat) (a : T_78_115_1_1.E) : Option E_78_115_1_1 := L_78_115_1_1 m a.1 a.2.1 a.2.2.1 a.2.2.2.1 a.2.2.2.2.1 a.2.2.2.2.2.1
noncomputable def O_78_115_1_1 {R : Type} : Orc R := orL T_78_115_1_1 (l_78_115_1_1 FU) Y_78_115_1_1 O_78_115_1_2
theorem OK_78_115_1_1 {R : Type} : okF (R := R) sm_78 0 (ni (nf 115 0) 0) O_78_115_1_1 := lp2 noO_ok (os := []) trivial T_78_115_1_1 T_78_115_1_2 l_78_115_1_1 l_78_115_1_2 (fun R K KB k a => S_78_115_1_1 (fun p0 p1 p2 p3 p4 p5 => K (p0, p1, p2, p3, p4, p5, ())) (fun q0 q1 q2 q3 q4 q5 => KB (q0, q1, q2, q3, q4, q5, ())) k a.1 a.2.1 a.2.2.1 a.2.2.2.1 a.2.2.2.2.1 a.2.2.2.2.2.1) Y_78_115_1_1 Y_78_115_1_2 C_78_115_1_1 (fun _ => rfl) (fun m a => by
 unfold l_78_115_1_1
 rw [L_78_115_1_1]
 simp only [BC_78_115_1_1]
 rfl) (fun k e => by cases e <;> rfl) (fun k => loop_78_115_1_2 k) (fun k K a => by kernel_rfl) (fun Y K KB a => by
 unfold S_78_115_1_1
 repeat' first | apply gdN | apply condN | rfl) OK_78_115_1_2
noncomputable def T_78_115_0_0 : PS := ⟨30, [(0, .kc (.whole 2)), (1, .kc (.whole 1)), (5, .hv (.int .i64))], [.mem (.hv (.arr 32 (.int .u8))), .vec 37 (.int .u32), .vec 5 (.int .u8)], 2⟩
inductive Sp.E_78_115_0_0 where
 | e0 (p1 p2 p3 : List Int)
noncomputable def Sp.B_78_115_0_0 {R : Type} (r : Option E_78_115_0_0) (k0 : List Int → List Int → List Int → Option R) : Option R := match r with
 | none => none
 | some (.e0 p1 p2 p3) => k0 p1 p2 p3
noncomputable def Y_78_115_0_0 {R : Type} (k : Ex → St → Option R) : E_78_115_0_0 → Option R
 | .e0 p1 p2 p3 => k (Ex.exit 0) (sx 30 [(0, CV.whole 2)] [Blk.mem (CV.pure (Ty.arr 32 (Ty.int u8)) p1), Blk.vec 37 (Ty.int u32) p2, Blk.vec 5 (Ty.int u8) p3] 2)
noncomputable def Sp.S_78_115_0_0 {R : Type} (K : Int → List Int → List Int → List Int → Option R) (k : E_78_115_0_0 → Option R) (p0 : Int) (p1 p2 p3 : List Int) : Option R :=
 bif decide (p0 < (↑(length p2) : Int)) then B_78_115_1_0 (L_78_115_1_0 4611686018427387904 p0 0 p1 p2 p3) fun y8 y9 y10 y11 => K (wrap i64 (y8 + 1)) y9 y10 y11 else k (E_78_115_0_0.e0 p1 p2 p3)
noncomputable def Sp.L_78_115_0_0 : Nat → Int → List Int → List Int → List Int → Option E_78_115_0_0
 | 0, _, _, _, _ => none
 | m + 1, p0, p1, p2, p3 => S_78_115_0_0 (L_78_115_0_0 m) some p0 p1 p2 p3
noncomputable def l_78_115_0_0 (m : Nat) (a : T_78_115_0_0.E) : Option E_78_115_0_0 := L_78_115_0_0 m a.1 a.2.1 a.2.2.1 a.2.2.2.1
noncomputable def O_78_115_0_0 {R : Type} : Orc R := orL T_78_115_0_0 (l_78_115_0_0 FU) Y_78_115_0_0
theorem OK_78_115_0_0 {R : Type} : okF (R := R) sm_78 0 (nf 115 0) O_78_115_0_0 := lp noO_ok (os := [O_78_115_1_1]) ⟨OK_78_115_1_1, trivial⟩ T_78_115_0_0 l_78_115_0_0 (fun R K k a => S_78_115_0_0 (fun p0 p1 p2 p3 => K (p0, p1, p2, p3, ())) k a.1 a.2.1 a.2.2.1 a.2.2.2.1) Y_78_115_0_0 (fun _ => rfl) (fun _ _ => rfl) (fun k K a => by kernel_rfl) (fun Y K a => by
 unfold S_78_115_0_0
 repeat' first | apply gdN | apply condN | (apply Bn_78_115_1_0 <;> intros) | rfl) (ok0 _)
noncomputable def T_78_115_0_2 : PS := ⟨30, [(0, .kc (.whole 3)), (1, .hv (.slice (.int .u32))), (5, .hv (.int .i64))], [.mem (.hv (.arr 32 (.int .u8))), .vec 37 (.int .u32), .dead, .vec 5 (.int .u8)], 3⟩
inductive Sp.E_78_115_0_2 where
 | e0 (p2 p3 p4 : List Int)
noncomputable def Sp.B_78_115_0_2 {R : Type} (r : Option E_78_115_0_2) (k0 : List Int → List Int → List Int → Option R) : Option R := match r with
 | none => none
 | some (.e0 p2 p3 p4) => k0 p2 p3 p4
noncomputable def Y_78_115_0_2 {R : Type} (k : Ex → St → Option R) : E_78_115_0_2 → Option R
 | .e0 p2 p3 p4 => k (Ex.exit 0) (sx 30 [(0, CV.whole 3)] [Blk.mem (CV.pure (Ty.arr 32 (Ty.int u8)) p2), Blk.vec 37 (Ty.int u32) p3, Blk.dead, Blk.vec 5 (Ty.int u8) p4] 3)
noncomputable def Sp.S_78_115_0_2 {R : Type} (K : List Int → Int → List Int → List Int → List Int → Option R) (k : E_78_115_0_2 → Option R) (p0 : List Int) (p1 : Int) (p2 p3 p4 : List Int) : Option R :=
 bif decide (p1 < (↑(length p0) : Int)) then B_78_115_1_2 (L_78_115_1_2 4611686018427387904 p0 p1 0 p2 p3 p4) fun y9 y10 y11 y12 y13 => K y9 (wrap i64 (y10 + 1)) y11 y12 y13 else k (E_78_115_0_2.e0 p2 p3 p4)
noncomputable def Sp.L_78_115_0_2 : Nat → List Int → Int → List Int → List Int → List Int → Option E_78_115_0_2
 | 0, _, _, _, _, _ => none
 | m + 1, p0, p1, p2, p3, p4 => S_78_115_0_2 (L_78_115_0_2 m) some p0 p1 p2 p3 p4
noncomputable def l_78_115_0_2 (m : Nat) (a : T_78_115_0_2.E) : Option E_78_115_0_2 := L_78_115_0_2 m a.1 a.2.1 a.2.2.1 a.2.2.2.1 a.2.2.2.2.1
noncomputable def O_78_115_0_2 {R : Type} : Orc R := orL T_78_115_0_2 (l_78_115_0_2 FU) Y_78_115_0_2 O_78_115_0_0
theorem loop_78_115_0_2 {R : Type} (k : Ex → St → Option R) : ∀ m a, evLoopN (evCodeL sm_78 FU (ovr noO (evFn sm_78 fns FU 0)) (mkT (inner (nf 115 0)) [O_78_115_1_1]) (inner (nf 115 0))) (St.norm (lv (nf 115 0))) m (T_78_115_0_2.inst a) k = (l_78_115_0_2 m a).bind (Y_78_115_0_2 k) := lpN l_78_115_0_2 (fun R K k a => S_78_115_0_2 (fun p0 p1 p2 p3 p4 => K (p0, p1, p2, p3, p4, ())) k a.1 a.2.1 a.2.2.1 a.2.2.2.1 a.2.2.2.2.1) (fun _ => rfl) (fun _ _ => rfl) (fun K a => by kernel_rfl) (fun K a => by
 unfold S_78_115_0_2
 repeat' first | apply gdN | apply condN | (apply Bn_78_115_1_2 <;> intros) | rfl)
theorem OK_78_115_0_2 {R : Type} : okF (R := R) sm_78 0 (nf 115 0) O_78_115_0_2 := lp noO_ok (os := [O_78_115_1_1]) ⟨OK_78_115_1_1, trivial⟩ T_78_115_0_2 l_78_115_0_2 (fun R K k a => S_78_115_0_2 (fun p0 p1 p2 p3 p4 => K (p0, p1, p2, p3, p4, ())) k a.1 a.2.1 a.2.2.1 a.2.2.2.1 a.2.2.2.2.1) Y_78_115_0_2 (fun _ => rfl) (fun _ _ => rfl) (fun k K a => by kernel_rfl) (fun Y K a => by
 unfold S_78_115_0_2
 repeat' first | apply gdN | apply condN | (apply Bn_78_115_1_2 <;> intros) | rfl) OK_78_115_0_0
noncomputable def T_78_115_0_1 : PS := ⟨30, [(0, .kc (.whole 2)), (1, .hv (.slice (.int .u32))), (5, .hv (.int .i64))], [.mem (.hv (.arr 32 (.int .u8))), .vec 37 (.int .u32), .vec 5 (.int .u8)], 3⟩
inductive Sp.E_78_115_0_1 where
 | e0 (p2 p3 p4 : List Int)
 | e1 (p2 p3 p4 : List Int)
noncomputable def Sp.B_78_115_0_1 {R : Type} (r : Option E_78_115_0_1) (k0 k1 : List Int → List Int → List Int → Option R) : Option R := match r with
 | none => none
 | some (.e0 p2 p3 p4) => k0 p2 p3 p4
 | some (.e1 p2 p3 p4) => k1 p2 p3 p4
noncomputable def Y_78_115_0_1 {R : Type} (k : Ex → St → Option R) : E_78_115_0_1 → Option R
 | .e0 p2 p3 p4 => k (Ex.exit 0) (sx 30 [(0, CV.whole 2)] [Blk.mem (CV.pure (Ty.arr 32 (Ty.int u8)) p2), Blk.vec 37 (Ty.int u32) p3, Blk.vec 5 (Ty.int u8) p4] 3)
 | .e1 p2 p3 p4 => k (Ex.exit 0) (sx 30 [(0, CV.whole 3)] [Blk.mem (CV.pure (Ty.arr 32 (Ty.int u8)) p2), Blk.vec 37 (Ty.int u32) p3, Blk.dead, Blk.vec 5 (Ty.int u8) p4] 3)
noncomputable def Sp.S_78_115_0_1 {R : Type} (K KB : List Int → Int → List Int → List Int → List Int → Option R) (k : E_78_115_0_1 → Option R) (p0 : List Int) (p1 : Int) (p2 p3 p4 : List Int) : Option R :=
 bif decide (p1 < (↑(length p0) : Int)) then B_78_115_1_1 (L_78_115_1_1 4611686018427387904 p0 p1 0 p2 p3 p4) (fun y14 y15 y16 y17 y18 => K y14 (wrap i64 (y15 + 1)) y16 y17 y18) fun y19 y20 y21 y22 y23 => KB y19 (wrap i64 (y20 + 1)) y21 y22 y23 else k (E_78_115_0_1.e0 p2 p3 p4)
noncomputable def C_78_115_0_1 : E_78_115_0_2 → E_78_115_0_1
 | .e0 p2 p3 p4 => .e1 p2 p3 p4
theorem BC_78_115_0_1 (r : Option E_78_115_0_2) : B_78_115_0_2 r (fun p2 p3 p4 => some (E_78_115_0_1.e1 p2 p3 p4)) = r.bind fun e => some (C_78_115_0_1 e) := by
 cases r with
 | none => rfl
 | some e => cases e <;> rfl
noncomputable def Sp.L_78_115_0_1 : Nat → List Int → Int → List Int → List Int → List Int → Option E_78_115_0_1
 | 0, _, _, _, _, _ => none
 | m + 1, p0, p1, p2, p3, p4 => S_78_115_0_1 (L_78_115_0_1 m) (fun q0 q1 q2 q3 q4 => B_78_115_0_2 (L_78_115_0_2 m q0 q1 q2 q3 q4) (fun p2 p3 p4 => some (E_78_115_0_1.e1 p2 p3 p4))) some p0 p1 p2 p3 p4
noncomputable def l_78_115_0_1 (m : Nat) (a : T_78_115_0_1.E) : Option E_78_115_0_1 := L_78_115_0_1 m a.1 a.2.1 a.2.2.1 a.2.2.2.1 a.2.2.2.2.1
noncomputable def O_78_115_0_1 {R : Type} : Orc R := orL T_78_115_0_1 (l_78_115_0_1 FU) Y_78_115_0_1 O_78_115_0_2
theorem OK_78_115_0_1 {R : Type} : okF (R := R) sm_78 0 (nf 115 0) O_78_115_0_1 := lp2 noO_ok (os := [O_78_115_1_1]) ⟨OK_78_115_1_1, trivial⟩ T_78_115_0_1 T_78_115_0_2 l_78_115_0_1 l_78_115_0_2 (fun R K KB k a => S_78_115_0_1 (fun p0 p1 p2 p3 p4 => K (p0, p1, p2, p3, p4, ())) (fun q0 q1 q2 q3 q4 => KB (q0, q1, q2, q3, q4, ())) k a.1 a.2.1 a.2.2.1 a.2.2.2.1 a.2.2.2.2.1) Y_78_115_0_1 Y_78_115_0_2 C_78_115_0_1 (fun _ => rfl) (fun m a => by
 unfold l_78_115_0_1
 rw [L_78_115_0_1]
 simp only [BC_78_115_0_1]
 rfl) (fun k e => by cases e <;> rfl) (fun k => loop_78_115_0_2 k) (fun k K a => by kernel_rfl) (fun Y K KB a => by
 unfold S_78_115_0_1
 repeat' first | apply gdN | apply condN | (apply Bn_78_115_1_1 <;> intros) | rfl) OK_78_115_0_2
noncomputable def g_78_115 {R : Type} : List CV → List Blk → (CV → List Blk → Option R) → Option R := evFnL sm_78 FU (ovr noO (evFn sm_78 fns FU 0)) (mkT (fB fns 115) [O_78_115_0_1]) (fO fns 115)
theorem g_78_115_ok {R : Type} (args : List CV) (hp : List Blk) (k : CV → List Blk → Option R) (r : R) (h : g_78_115 args hp k = some r) : evFn sm_78 fns FU 1 115 args hp k = some r := runG noO_ok (os := [O_78_115_0_1]) ⟨OK_78_115_0_1, trivial⟩ h
noncomputable def ov_78_78 {R : Type} : Nat → Option (List CV → List Blk → (CV → List Blk → Option R) → Option R) := fun f' => bif Nat.beq f' 115 then some g_78_115 else none
theorem ov_78_78_ok {R : Type} : OvrOK (R := R) ov_78_78 (evFn sm_78 fns FU 1) := by
 intro f' g h args hp k r hg
 dsimp only [ov_78_78] at h
 by_cases h115 : f' = 115
 · subst h115
   injection h with h
   subst h
   exact evFn_le 0 (g_78_115_ok _ _ _ _ hg)
 rw [nbeq_ne h115, cond_false] at h
 cases h
noncomputable def F_78 (a0 : Int) (a1 : (List Int)) : Option ((List Int) × Unit) :=
 B_78_115_0_0 (L_78_115_0_0 4611686018427387904 0 (replicate 32 (0 :Int)) [wrap u32 a0, wrap u32 (↑(length a1) : Int)] []) fun y9 y10 y11 => B_78_115_0_1 (L_78_115_0_1 4611686018427387904 a1 0 y9 y10 y11) (fun y12 y13 y14 => gd (p_116 y14) (some ((v_116 y14).1, PUnit.unit))) fun y15 y16 y17 => gd (p_116 y17) (some ((v_116 y17).1, PUnit.unit))
noncomputable def Sp.p_78 (a0 : Int) (a1 : (List Int)) : Bool := (F_78 a0 a1).isSome
noncomputable def Sp.v_78 (a0 : Int) (a1 : (List Int)) : (List Int) × Unit := (F_78 a0 a1).getD (dfH R_78)
noncomputable def s_78 : Summ := shN A_78 R_78 (fun x => p_78 x.1 x.2.1) (fun x => v_78 x.1 x.2.1)
theorem pv_78 (a0 : Int) (a1 : (List Int)) {y : (List Int) × Unit} (h : F_78 a0 a1 = some y) : p_78 a0 a1 = true ∧ v_78 a0 a1 = y := pvG h
theorem run_78 (x : HDen A_78) (y : HDen R_78) (h : F_78 x.1 x.2.1 = some y) : rnF sm_78 2 78 A_78 R_78 x y := runG ov_78_78_ok (os := []) trivial (Eq.trans (by kernel_rfl) h)
end
noncomputable section
abbrev A_32 : List Ty := [(.pair (.pair (.slice (.int .u32)) (.pair (.slice (.int .i64)) (.pair (.int .i64) .unit))) (.pair (.arr 32 (.int .u8)) .unit)), (.int .i64)]
abbrev R_32 : List Ty := [.bool]
noncomputable def sm_32 : Nat → Option Summ := smL [(30, s_30), (57, s_57), (77, s_77), (78, s_78)]
noncomputable def F_32 (a0 : (((List Int) × ((List Int) × (Int × Unit))) × ((List Int) × Unit))) (a1 : Int) : Option (Bool × Unit) :=
 gd (p_77 a0 a1) (bif !(v_77 a0 a1).2.1 then some (false, PUnit.unit) else gd (p_30 a0 a1) (gd (sl3 564 (wrap i64 (564 + (v_77 a0 a1).1.2.1)) (↑(length ((v_30 a0 a1).1)) : Int)) (gd (p_78 ((v_77 a0 a1).1.1) (take (toNat (wrap i64 (564 + (v_77 a0 a1).1.2.1)) - 564) (drop 564 ((v_30 a0 a1).1)))) (bif Ty.beq (Ty.arr 32 (Ty.int u8)) ((v_78 ((v_77 a0 a1).1.1) (take (toNat (wrap i64 (564 + (v_77 a0 a1).1.2.1)) - 564) (drop 564 ((v_30 a0 a1).1)))).1) ((v_77 a0 a1).1.2.2.1) then gd (p_57 (a0.2.1) ((v_77 a0 a1).1.2.2.1) ((v_77 a0 a1).1.2.2.2.1)) (some ((v_57 (a0.2.1) ((v_77 a0 a1).1.2.2.1) ((v_77 a0 a1).1.2.2.2.1)).1, PUnit.unit)) else some (false, PUnit.unit)))))
noncomputable def Sp.p_32 (a0 : (((List Int) × ((List Int) × (Int × Unit))) × ((List Int) × Unit))) (a1 : Int) : Bool := (F_32 a0 a1).isSome
noncomputable def Sp.v_32 (a0 : (((List Int) × ((List Int) × (Int × Unit))) × ((List Int) × Unit))) (a1 : Int) : Bool × Unit := (F_32 a0 a1).getD (dfH R_32)
noncomputable def s_32 : Summ := shN A_32 R_32 (fun x => p_32 x.1 x.2.1) (fun x => v_32 x.1 x.2.1)
theorem run_32 (x : HDen A_32) (y : HDen R_32) (h : F_32 x.1 x.2.1 = some y) : rnF sm_32 1 32 A_32 R_32 x y := runG noO_ok (os := []) trivial (Eq.trans (by kernel_rfl) h)
end
noncomputable section
abbrev A_104 : List Ty := [(.pair (.pair (.slice (.int .u32)) (.pair (.slice (.int .i64)) (.pair (.int .i64) .unit))) (.pair (.arr 32 (.int .u8)) .unit)), (.int .i64)]
abbrev R_104 : List Ty := [.bool]
noncomputable def sm_104 : Nat → Option Summ := smL [(30, s_30), (32, s_32)]
noncomputable def F_104 (a0 : (((List Int) × ((List Int) × (Int × Unit))) × ((List Int) × Unit))) (a1 : Int) : Option (Bool × Unit) :=
 gd (p_30 a0 a1) (gd (inB 0 (length ((v_30 a0 a1).1))) (bif getD ((v_30 a0 a1).1) 0 (0 :Int) == (0 :Int) then gd (p_32 a0 a1) (some ((v_32 a0 a1).1, PUnit.unit)) else some (false, PUnit.unit)))
noncomputable def Sp.p_104 (a0 : (((List Int) × ((List Int) × (Int × Unit))) × ((List Int) × Unit))) (a1 : Int) : Bool := (F_104 a0 a1).isSome
noncomputable def Sp.v_104 (a0 : (((List Int) × ((List Int) × (Int × Unit))) × ((List Int) × Unit))) (a1 : Int) : Bool × Unit := (F_104 a0 a1).getD (dfH R_104)
noncomputable def s_104 : Summ := shN A_104 R_104 (fun x => p_104 x.1 x.2.1) (fun x => v_104 x.1 x.2.1)
theorem pv_104 (a0 : (((List Int) × ((List Int) × (Int × Unit))) × ((List Int) × Unit))) (a1 : Int) {y : Bool × Unit} (h : F_104 a0 a1 = some y) : p_104 a0 a1 = true ∧ v_104 a0 a1 = y := pvG h
theorem run_104 (x : HDen A_104) (y : HDen R_104) (h : F_104 x.1 x.2.1 = some y) : rnF sm_104 1 104 A_104 R_104 x y := runG noO_ok (os := []) trivial (Eq.trans (by kernel_rfl) h)
end
noncomputable section
abbrev A_63 : List Ty := [(.pair (.pair (.slice (.int .u32)) (.pair (.slice (.int .i64)) (.pair (.int .i64) .unit))) (.pair (.arr 32 (.int .u8)) .unit))]
abbrev R_63 : List Ty := [(.int .i64), (.int .i64)]
noncomputable def sm_63 : Nat → Option Summ := smL [(12, s_12), (30, s_30), (104, s_104)]
noncomputable def T_63_0 : PS := ⟨35, [(1, .kc (.ptr 0 [])), (4, .hv .bool), (5, .hv .bool)], [.mem (.hv (.pair (.pair (.slice (.int .u32)) (.pair (.slice (.int .i64)) (.pair (.int .i64) .unit))) (.pair (.arr 32 (.int .u8)) .unit)))], 0⟩
inductive Sp.E_63_0 where
 | e0
 | e1
noncomputable def Sp.B_63_0 {R : Type} (r : Option E_63_0) (k0 k1 : Option R) : Option R := match r with
 | none => none
 | some (.e0) => k0
 | some (.e1) => k1
noncomputable def Y_63_0 {R : Type} (k : Ex → St → Option R) : E_63_0 → Option R
 | .e0 => k Ex.ret (sx 35 [(2, CV.int i64 1), (3, CV.int i64 0)] [])
 | .e1 => k Ex.ret (sx 35 [(2, CV.int i64 0), (3, CV.int i64 0)] [])
noncomputable def Sp.S_63_0 {R : Type} (k : E_63_0 → Option R) (p0 p1 : Bool) (p2 : (List Int × List Int × Int × Unit) × List Int × Unit) : Option R :=
 bif p1 then bif !p0 then k (E_63_0.e0) else gd (p_30 p2 1) (gd (inB 1 (length ((v_30 p2 1).1))) (gd (p_30 p2 0) (gd (inB 1 (length ((v_30 p2 0).1))) (bif decide (getD ((v_30 p2 1).1) 1 0 > getD ((v_30 p2 0).1) 1 0) then k (E_63_0.e0) else k (E_63_0.e1))))) else k (E_63_0.e1)
noncomputable def Sp.J_63_0 (p0 p1 : Bool) (p2 : (List Int × List Int × Int × Unit) × List Int × Unit) : Option E_63_0 := S_63_0 some p0 p1 p2
noncomputable def O_63_0 {R : Type} : Orc R := orL T_63_0 (fun a => J_63_0 a.1 a.2.1 a.2.2.1) Y_63_0
theorem OK_63_0 {R : Type} : okF (R := R) sm_63 0 (nf 63 0) O_63_0 := jp noO_ok (os := []) trivial T_63_0 (fun R k a => S_63_0 k a.1 a.2.1 a.2.2.1) Y_63_0 (fun k a => by kernel_rfl) (fun Y a => by
 unfold S_63_0
 repeat' first | apply gdN | apply condN | rfl) (ok0 _)
noncomputable def F_63 (a0 : (((List Int) × ((List Int) × (Int × Unit))) × ((List Int) × Unit))) : Option (Int × Int × Unit) :=
 gd (p_12 a0) (bif !(v_12 a0).1 then some (0, 1, PUnit.unit) else gd (p_104 a0 0) (gd (p_104 a0 1) (bif !(v_104 a0 0).1 then bif !(v_104 a0 1).1 then some (0, 7, PUnit.unit) else B_63_0 (J_63_0 ((v_104 a0 0).1) ((v_104 a0 1).1) a0) (some (1, 0, PUnit.unit)) (some (0, 0, PUnit.unit)) else B_63_0 (J_63_0 ((v_104 a0 0).1) ((v_104 a0 1).1) a0) (some (1, 0, PUnit.unit)) (some (0, 0, PUnit.unit)))))
noncomputable def Sp.p_63 (a0 : (((List Int) × ((List Int) × (Int × Unit))) × ((List Int) × Unit))) : Bool := (F_63 a0).isSome
noncomputable def Sp.v_63 (a0 : (((List Int) × ((List Int) × (Int × Unit))) × ((List Int) × Unit))) : Int × Int × Unit := (F_63 a0).getD (dfH R_63)
noncomputable def s_63 : Summ := shN A_63 R_63 (fun x => p_63 x.1) (fun x => v_63 x.1)
theorem pv_63 (a0 : (((List Int) × ((List Int) × (Int × Unit))) × ((List Int) × Unit))) {y : Int × Int × Unit} (h : F_63 a0 = some y) : p_63 a0 = true ∧ v_63 a0 = y := pvG h
theorem run_63 (x : HDen A_63) (y : HDen R_63) (h : F_63 x.1 = some y) : rnF sm_63 1 63 A_63 R_63 x y := runG noO_ok (os := [O_63_0]) ⟨OK_63_0, trivial⟩ (Eq.trans (by kernel_rfl) h)
end
noncomputable section
abbrev A_56 : List Ty := [(.pair (.pair (.slice (.int .u32)) (.pair (.slice (.int .i64)) (.pair (.int .i64) .unit))) (.pair (.arr 32 (.int .u8)) .unit))]
abbrev R_56 : List Ty := [(.int .i64)]
noncomputable def sm_56 : Nat → Option Summ := smL [(30, s_30), (63, s_63)]
noncomputable def F_56 (a0 : (((List Int) × ((List Int) × (Int × Unit))) × ((List Int) × Unit))) : Option (Int × Unit) :=
 gd (p_63 a0) (bif (v_63 a0).2.1 != 0 then some (0, PUnit.unit) else gd (p_30 a0 ((v_63 a0).1)) (gd (inB 1 (length ((v_30 a0 ((v_63 a0).1)).1))) (some (wrap i64 (getD ((v_30 a0 ((v_63 a0).1)).1) 1 0), PUnit.unit))))
noncomputable def Sp.p_56 (a0 : (((List Int) × ((List Int) × (Int × Unit))) × ((List Int) × Unit))) : Bool := (F_56 a0).isSome
noncomputable def Sp.v_56 (a0 : (((List Int) × ((List Int) × (Int × Unit))) × ((List Int) × Unit))) : Int × Unit := (F_56 a0).getD (dfH R_56)
noncomputable def s_56 : Summ := shN A_56 R_56 (fun x => p_56 x.1) (fun x => v_56 x.1)
theorem pv_56 (a0 : (((List Int) × ((List Int) × (Int × Unit))) × ((List Int) × Unit))) {y : Int × Unit} (h : F_56 a0 = some y) : p_56 a0 = true ∧ v_56 a0 = y := pvG h
theorem run_56 (x : HDen A_56) (y : HDen R_56) (h : F_56 x.1 = some y) : rnF sm_56 1 56 A_56 R_56 x y := runG noO_ok (os := []) trivial (Eq.trans (by kernel_rfl) h)
end
noncomputable section
abbrev A_101 : List Ty := [(.pair (.int .i64) (.pair (.int .u32) .unit))]
abbrev R_101 : List Ty := [(.int .u32), (.pair (.int .i64) (.pair (.int .u32) .unit)), (.int .i64)]
noncomputable def sm_101 : Nat → Option Summ := smL []
noncomputable def T_101_0 : PS := ⟨23, [(1, .kc (.ptr 0 [])), (3, .kc (.ptr 1 [])), (5, .hv (.int .u32)), (6, .hv (.int .i64))], [.mem (.hv (.pair (.int .i64) (.pair (.int .u32) .unit))), .mem (.hv (.pair (.int .i64) (.pair (.int .u32) .unit)))], 0⟩
inductive Sp.E_101_0 where
 | e0 (p1 : Int) (p2 : Int × Int × Unit)
 | e1 (p0 p1 : Int) (p2 : Int × Int × Unit)
noncomputable def Sp.B_101_0 {R : Type} (r : Option E_101_0) (k0 : Int → (Int × Int × Unit) → Option R) (k1 : Int → Int → (Int × Int × Unit) → Option R) : Option R := match r with
 | none => none
 | some (.e0 p1 p2) => k0 p1 p2
 | some (.e1 p0 p1 p2) => k1 p0 p1 p2
noncomputable def Y_101_0 {R : Type} (k : Ex → St → Option R) : E_101_0 → Option R
 | .e0 p1 p2 => k Ex.ret (sx 23 [(2, CV.int u32 0), (3, CV.ptr 0 []), (4, CV.int i64 p1)] [Blk.mem (CV.pure (Ty.pair (Ty.int i64) (Ty.pair (Ty.int u32) Ty.unit)) ((if wrap i64 (p2.1 - 1) > 0 then wrap i64 (p2.1 - 1) else 0, p2.2) : (Int × (Int × Unit))))])
 | .e1 p0 p1 p2 => k Ex.ret (sx 23 [(2, CV.int u32 p0), (3, CV.ptr 0 []), (4, CV.int i64 p1)] [Blk.mem (CV.pure (Ty.pair (Ty.int i64) (Ty.pair (Ty.int u32) Ty.unit)) ((if wrap i64 (p2.1 - 1) > 0 then wrap i64 (p2.1 - 1) else 0, p2.2) : (Int × (Int × Unit))))])
noncomputable def Sp.S_101_0 {R : Type} (k : E_101_0 → Option R) (p0 p1 : Int) (p2 p3 : Int × Int × Unit) : Option R :=
 bif decide (p2.1 < 1) then k (E_101_0.e0 p1 p2) else k (E_101_0.e1 p0 p1 p2)
noncomputable def Sp.J_101_0 (p0 p1 : Int) (p2 p3 : Int × Int × Unit) : Option E_101_0 := S_101_0 some p0 p1 p2 p3
noncomputable def O_101_0 {R : Type} : Orc R := orL T_101_0 (fun a => J_101_0 a.1 a.2.1 a.2.2.1 a.2.2.2.1) Y_101_0
theorem OK_101_0 {R : Type} : okF (R := R) sm_101 0 (nf 101 0) O_101_0 := jp noO_ok (os := []) trivial T_101_0 (fun R k a => S_101_0 k a.1 a.2.1 a.2.2.1 a.2.2.2.1) Y_101_0 (fun k a => by kernel_rfl) (fun Y a => by
 unfold S_101_0
 repeat' first | apply gdN | apply condN | rfl) (ok0 _)
noncomputable def F_101 (a0 : (Int × (Int × Unit))) : Option (Int × (Int × (Int × Unit)) × Int × Unit) :=
 bif decide (a0.1 < 2) then B_101_0 (J_101_0 (a0.2.1) 18 a0 (0, 0, PUnit.unit)) (fun y12 y13 => some (0, (if wrap i64 (y13.1 - 1) > 0 then wrap i64 (y13.1 - 1) else 0, y13.2), y12, PUnit.unit)) fun y14 y15 y16 => some (y14, (if wrap i64 (y16.1 - 1) > 0 then wrap i64 (y16.1 - 1) else 0, y16.2), y15, PUnit.unit) else B_101_0 (J_101_0 4294967295 0 a0 (0, 0, PUnit.unit)) (fun y17 y18 => some (0, (if wrap i64 (y18.1 - 1) > 0 then wrap i64 (y18.1 - 1) else 0, y18.2), y17, PUnit.unit)) fun y19 y20 y21 => some (y19, (if wrap i64 (y21.1 - 1) > 0 then wrap i64 (y21.1 - 1) else 0, y21.2), y20, PUnit.unit)
noncomputable def Sp.p_101 (a0 : (Int × (Int × Unit))) : Bool := (F_101 a0).isSome
noncomputable def Sp.v_101 (a0 : (Int × (Int × Unit))) : Int × (Int × (Int × Unit)) × Int × Unit := (F_101 a0).getD (dfH R_101)
noncomputable def s_101 : Summ := shN A_101 R_101 (fun x => p_101 x.1) (fun x => v_101 x.1)
theorem pv_101 (a0 : (Int × (Int × Unit))) {y : Int × (Int × (Int × Unit)) × Int × Unit} (h : F_101 a0 = some y) : p_101 a0 = true ∧ v_101 a0 = y := pvG h
theorem run_101 (x : HDen A_101) (y : HDen R_101) (h : F_101 x.1 = some y) : rnF sm_101 1 101 A_101 R_101 x y := runG noO_ok (os := [O_101_0]) ⟨OK_101_0, trivial⟩ (Eq.trans (by kernel_rfl) h)
end
noncomputable section
abbrev Zt103_0 : Type := List Int × List Int × Int × Unit
abbrev Zt103_1 : Type := Int × Int × Unit
abbrev Zy103_2 : Ty := (.pair (.slice (.int .u32)) (.pair (.slice (.int .i64)) (.pair (.int .i64) .unit)))
abbrev Zy103_3 : Ty := (.pair (.int .i64) (.pair (.int .u32) .unit))
abbrev A_103 : List Ty := [(.pair (.slice (.int .u32)) (.pair (.slice (.int .i64)) (.pair (.int .i64) .unit))), (.int .i64), (.int .u32), (.pair (.int .i64) (.pair (.int .u32) .unit))]
abbrev R_103 : List Ty := [(.pair (.slice (.int .u32)) (.pair (.slice (.int .i64)) (.pair (.int .i64) .unit))), (.pair (.int .i64) (.pair (.int .u32) .unit)), (.int .i64)]
noncomputable def sm_103 : Nat → Option Summ := smL [(13, s_13), (54, s_54), (101, s_101)]
noncomputable def T_103_102_0_0 : PS := ⟨44, [(1, .kc (.ptr 5 [])), (2, .kc (.ptr 6 [])), (3, .kc (.ptr 9 [])), (4, .hv (.int .i64))], [.mem (.hv Zy103_2), .mem (.hv Zy103_3), .mem (.pr (.kc (.nil 37 (.int .u32))) (.pr (.kc (.nil 3 (.int .i64))) (.hv (.pair (.int .i64) .unit)))), .mem (.hv Zy103_3), .mem (.hv Zy103_3), .mem (.hv Zy103_2), .mem (.pr (.kc (.whole 7)) (.pr (.kc (.whole 8)) (.hv (.pair (.int .i64) .unit)))), .vec 37 (.int .u32), .vec 3 (.int .i64), .mem (.pr (.kc (.whole 10)) (.pr (.kc (.whole 11)) (.hv (.pair (.int .i64) .unit)))), .vec 37 (.int .u32), .vec 3 (.int .i64)], 5⟩
inductive Sp.E_103_102_0_0 where
 | e0 (p1 : Zt103_0) (p2 : Zt103_1) (p3 : Int × Unit) (p4 p5 : Zt103_1) (p6 : Zt103_0) (p7 : Int × Unit) (p8 p9 : List Int) (p10 : Int × Unit) (p11 p12 : List Int)
noncomputable def Sp.B_103_102_0_0 {R : Type} (r : Option E_103_102_0_0) (k0 : Zt103_0 → Zt103_1 → (Int × Unit) → Zt103_1 → Zt103_1 → Zt103_0 → (Int × Unit) → List Int → List Int → (Int × Unit) → List Int → List Int → Option R) : Option R := match r with
 | none => none
 | some (.e0 p1 p2 p3 p4 p5 p6 p7 p8 p9 p10 p11 p12) => k0 p1 p2 p3 p4 p5 p6 p7 p8 p9 p10 p11 p12
noncomputable def Y_103_102_0_0 {R : Type} (k : Ex → St → Option R) : E_103_102_0_0 → Option R
 | .e0 p1 p2 p3 p4 p5 p6 p7 p8 p9 p10 p11 p12 => k (Ex.exit 0) (sx 44 [(1, CV.ptr 5 []), (2, CV.ptr 6 []), (3, CV.ptr 9 [])] [Blk.mem (CV.pure (Ty.pair (Ty.slice (Ty.int u32)) (Ty.pair (Ty.slice (Ty.int i64)) (Ty.pair (Ty.int i64) Ty.unit))) p1), Blk.mem (CV.pure (Ty.pair (Ty.int i64) (Ty.pair (Ty.int u32) Ty.unit)) p2), Blk.mem (CV.pair (CV.nil 37 (Ty.int u32)) (CV.pair (CV.nil 3 (Ty.int i64)) (CV.pure (Ty.pair (Ty.int i64) Ty.unit) p3))), Blk.mem (CV.pure (Ty.pair (Ty.int i64) (Ty.pair (Ty.int u32) Ty.unit)) p4), Blk.mem (CV.pure (Ty.pair (Ty.int i64) (Ty.pair (Ty.int u32) Ty.unit)) p5), Blk.mem (CV.pure (Ty.pair (Ty.slice (Ty.int u32)) (Ty.pair (Ty.slice (Ty.int i64)) (Ty.pair (Ty.int i64) Ty.unit))) p6), Blk.mem (CV.pair (CV.whole 7) (CV.pair (CV.whole 8) (CV.pure (Ty.pair (Ty.int i64) Ty.unit) p7))), Blk.vec 37 (Ty.int u32) p8, Blk.vec 3 (Ty.int i64) p9, Blk.mem (CV.pair (CV.whole 10) (CV.pair (CV.whole 11) (CV.pure (Ty.pair (Ty.int i64) Ty.unit) p10))), Blk.vec 37 (Ty.int u32) p11, Blk.vec 3 (Ty.int i64) p12] 5)
noncomputable def Sp.S_103_102_0_0 {R : Type} (K : Int → (List Int × List Int × Int × Unit) → (Int × Int × Unit) → (Int × Unit) → (Int × Int × Unit) → (Int × Int × Unit) → (List Int × List Int × Int × Unit) → (Int × Unit) → List Int → List Int → (Int × Unit) → List Int → List Int → Option R) (k : E_103_102_0_0 → Option R) (p0 : Int) (p1 : List Int × List Int × Int × Unit) (p2 : Int × Int × Unit) (p3 : Int × Unit) (p4 p5 : Int × Int × Unit) (p6 : List Int × List Int × Int × Unit) (p7 : Int × Unit) (p8 p9 : List Int) (p10 : Int × Unit) (p11 p12 : List Int) : Option R :=
 bif decide (p0 < (↑(length (p6.1)) : Int)) then gd (inB p0 (length (p6.1))) (gd (room (length p11 + 1) 4) (K (wrap i64 (p0 + 1)) p1 p2 p3 p4 p5 p6 p7 p8 p9 p10 (p11 ++ [getD (p6.1) (toNat p0) 0]) p12)) else k (E_103_102_0_0.e0 p1 p2 p3 p4 p5 p6 p7 p8 p9 p10 p11 p12)
noncomputable def Sp.L_103_102_0_0 : Nat → Int → (List Int × List Int × Int × Unit) → (Int × Int × Unit) → (Int × Unit) → (Int × Int × Unit) → (Int × Int × Unit) → (List Int × List Int × Int × Unit) → (Int × Unit) → List Int → List Int → (Int × Unit) → List Int → List Int → Option E_103_102_0_0
 | 0, _, _, _, _, _, _, _, _, _, _, _, _, _ => none
 | m + 1, p0, p1, p2, p3, p4, p5, p6, p7, p8, p9, p10, p11, p12 => S_103_102_0_0 (L_103_102_0_0 m) some p0 p1 p2 p3 p4 p5 p6 p7 p8 p9 p10 p11 p12
noncomputable def l_103_102_0_0 (m : Nat) (a : T_103_102_0_0.E) : Option E_103_102_0_0 := L_103_102_0_0 m a.1 a.2.1 a.2.2.1 a.2.2.2.1 a.2.2.2.2.1 a.2.2.2.2.2.1 a.2.2.2.2.2.2.1 a.2.2.2.2.2.2.2.1 a.2.2.2.2.2.2.2.2.1 a.2.2.2.2.2.2.2.2.2.1 a.2.2.2.2.2.2.2.2.2.2.1 a.2.2.2.2.2.2.2.2.2.2.2.1 a.2.2.2.2.2.2.2.2.2.2.2.2.1
noncomputable def O_103_102_0_0 {R : Type} : Orc R := orL T_103_102_0_0 (l_103_102_0_0 FU) Y_103_102_0_0
theorem OK_103_102_0_0 {R : Type} : okF (R := R) sm_103 0 (nf 102 0) O_103_102_0_0 := lp0 T_103_102_0_0 l_103_102_0_0 (fun R K k a => S_103_102_0_0 (fun p0 p1 p2 p3 p4 p5 p6 p7 p8 p9 p10 p11 p12 => K (p0, p1, p2, p3, p4, p5, p6, p7, p8, p9, p10, p11, p12, ())) k a.1 a.2.1 a.2.2.1 a.2.2.2.1 a.2.2.2.2.1 a.2.2.2.2.2.1 a.2.2.2.2.2.2.1 a.2.2.2.2.2.2.2.1 a.2.2.2.2.2.2.2.2.1 a.2.2.2.2.2.2.2.2.2.1 a.2.2.2.2.2.2.2.2.2.2.1 a.2.2.2.2.2.2.2.2.2.2.2.1 a.2.2.2.2.2.2.2.2.2.2.2.2.1) Y_103_102_0_0 (fun _ _ _ => by kernel_rfl) (fun _ _ _ => by
 unfold S_103_102_0_0
 repeat' first | apply gdN | apply condN | rfl) (ok0 _)
noncomputable def T_103_102_1_0 : PS := ⟨44, [(1, .kc (.ptr 5 [])), (2, .kc (.ptr 6 [])), (3, .kc (.ptr 9 [])), (5, .hv (.int .i64))], [.mem (.hv Zy103_2), .mem (.hv Zy103_3), .mem (.pr (.kc (.nil 37 (.int .u32))) (.pr (.kc (.nil 3 (.int .i64))) (.hv (.pair (.int .i64) .unit)))), .mem (.hv Zy103_3), .mem (.hv Zy103_3), .mem (.hv Zy103_2), .mem (.pr (.kc (.whole 7)) (.pr (.kc (.whole 8)) (.hv (.pair (.int .i64) .unit)))), .vec 37 (.int .u32), .vec 3 (.int .i64), .mem (.pr (.kc (.whole 10)) (.pr (.kc (.whole 11)) (.hv (.pair (.int .i64) .unit)))), .vec 37 (.int .u32), .vec 3 (.int .i64)], 5⟩
inductive Sp.E_103_102_1_0 where
 | e0 (p1 : Zt103_0) (p2 : Zt103_1) (p3 : Int × Unit) (p4 p5 : Zt103_1) (p7 : Int × Unit) (p8 p9 : List Int) (p10 : Int × Unit) (p11 p12 : List Int)
noncomputable def Sp.B_103_102_1_0 {R : Type} (r : Option E_103_102_1_0) (k0 : Zt103_0 → Zt103_1 → (Int × Unit) → Zt103_1 → Zt103_1 → (Int × Unit) → List Int → List Int → (Int × Unit) → List Int → List Int → Option R) : Option R := match r with
 | none => none
 | some (.e0 p1 p2 p3 p4 p5 p7 p8 p9 p10 p11 p12) => k0 p1 p2 p3 p4 p5 p7 p8 p9 p10 p11 p12
noncomputable def Y_103_102_1_0 {R : Type} (k : Ex → St → Option R) : E_103_102_1_0 → Option R
 | .e0 p1 p2 p3 p4 p5 p7 p8 p9 p10 p11 p12 => k (Ex.exit 2) (sx 44 [(2, CV.ptr 5 []), (3, CV.ptr 8 [])] [Blk.mem (CV.pure (Ty.pair (Ty.slice (Ty.int u32)) (Ty.pair (Ty.slice (Ty.int i64)) (Ty.pair (Ty.int i64) Ty.unit))) p1), Blk.mem (CV.pure (Ty.pair (Ty.int i64) (Ty.pair (Ty.int u32) Ty.unit)) p2), Blk.mem (CV.pair (CV.nil 37 (Ty.int u32)) (CV.pair (CV.nil 3 (Ty.int i64)) (CV.pure (Ty.pair (Ty.int i64) Ty.unit) p3))), Blk.mem (CV.pure (Ty.pair (Ty.int i64) (Ty.pair (Ty.int u32) Ty.unit)) p4), Blk.mem (CV.pure (Ty.pair (Ty.int i64) (Ty.pair (Ty.int u32) Ty.unit)) p5), Blk.mem (CV.pair (CV.whole 6) (CV.pair (CV.whole 7) (CV.pure (Ty.pair (Ty.int i64) Ty.unit) p7))), Blk.vec 37 (Ty.int u32) p8, Blk.vec 3 (Ty.int i64) p9, Blk.mem (CV.pair (CV.whole 9) (CV.pair (CV.whole 10) (CV.pure (Ty.pair (Ty.int i64) Ty.unit) p10))), Blk.vec 37 (Ty.int u32) p11, Blk.vec 3 (Ty.int i64) p12] 5)
noncomputable def Sp.S_103_102_1_0 {R : Type} (K : Int → (List Int × List Int × Int × Unit) → (Int × Int × Unit) → (Int × Unit) → (Int × Int × Unit) → (Int × Int × Unit) → (List Int × List Int × Int × Unit) → (Int × Unit) → List Int → List Int → (Int × Unit) → List Int → List Int → Option R) (k : E_103_102_1_0 → Option R) (p0 : Int) (p1 : List Int × List Int × Int × Unit) (p2 : Int × Int × Unit) (p3 : Int × Unit) (p4 p5 : Int × Int × Unit) (p6 : List Int × List Int × Int × Unit) (p7 : Int × Unit) (p8 p9 : List Int) (p10 : Int × Unit) (p11 p12 : List Int) : Option R :=
 bif decide (p0 < (↑(length (p6.2.1)) : Int)) then gd (inB p0 (length (p6.2.1))) (gd (room (length p12 + 1) 8) (K (wrap i64 (p0 + 1)) p1 p2 p3 p4 p5 p6 p7 p8 p9 p10 p11 (p12 ++ [getD (p6.2.1) (toNat p0) 0]))) else k (E_103_102_1_0.e0 p1 p2 p3 p4 p5 p7 p8 p9 p10 p11 p12)
noncomputable def Sp.L_103_102_1_0 : Nat → Int → (List Int × List Int × Int × Unit) → (Int × Int × Unit) → (Int × Unit) → (Int × Int × Unit) → (Int × Int × Unit) → (List Int × List Int × Int × Unit) → (Int × Unit) → List Int → List Int → (Int × Unit) → List Int → List Int → Option E_103_102_1_0
 | 0, _, _, _, _, _, _, _, _, _, _, _, _, _ => none
 | m + 1, p0, p1, p2, p3, p4, p5, p6, p7, p8, p9, p10, p11, p12 => S_103_102_1_0 (L_103_102_1_0 m) some p0 p1 p2 p3 p4 p5 p6 p7 p8 p9 p10 p11 p12
noncomputable def l_103_102_1_0 (m : Nat) (a : T_103_102_1_0.E) : Option E_103_102_1_0 := L_103_102_1_0 m a.1 a.2.1 a.2.2.1 a.2.2.2.1 a.2.2.2.2.1 a.2.2.2.2.2.1 a.2.2.2.2.2.2.1 a.2.2.2.2.2.2.2.1 a.2.2.2.2.2.2.2.2.1 a.2.2.2.2.2.2.2.2.2.1 a.2.2.2.2.2.2.2.2.2.2.1 a.2.2.2.2.2.2.2.2.2.2.2.1 a.2.2.2.2.2.2.2.2.2.2.2.2.1
noncomputable def O_103_102_1_0 {R : Type} : Orc R := orL T_103_102_1_0 (l_103_102_1_0 FU) Y_103_102_1_0
theorem OK_103_102_1_0 {R : Type} : okF (R := R) sm_103 0 (nf 102 1) O_103_102_1_0 := lp0 T_103_102_1_0 l_103_102_1_0 (fun R K k a => S_103_102_1_0 (fun p0 p1 p2 p3 p4 p5 p6 p7 p8 p9 p10 p11 p12 => K (p0, p1, p2, p3, p4, p5, p6, p7, p8, p9, p10, p11, p12, ())) k a.1 a.2.1 a.2.2.1 a.2.2.2.1 a.2.2.2.2.1 a.2.2.2.2.2.1 a.2.2.2.2.2.2.1 a.2.2.2.2.2.2.2.1 a.2.2.2.2.2.2.2.2.1 a.2.2.2.2.2.2.2.2.2.1 a.2.2.2.2.2.2.2.2.2.2.1 a.2.2.2.2.2.2.2.2.2.2.2.1 a.2.2.2.2.2.2.2.2.2.2.2.2.1) Y_103_102_1_0 (fun _ _ _ => by kernel_rfl) (fun _ _ _ => by
 unfold S_103_102_1_0
 repeat' first | apply gdN | apply condN | rfl) (ok0 _)
noncomputable def g_103_102 {R : Type} : List CV → List Blk → (CV → List Blk → Option R) → Option R := evFnL sm_103 FU (ovr noO (evFn sm_103 fns FU 0)) (mkT (fB fns 102) [O_103_102_0_0, O_103_102_1_0]) (fO fns 102)
theorem g_103_102_ok {R : Type} (args : List CV) (hp : List Blk) (k : CV → List Blk → Option R) (r : R) (h : g_103_102 args hp k = some r) : evFn sm_103 fns FU 1 102 args hp k = some r := runG noO_ok (os := [O_103_102_0_0, O_103_102_1_0]) ⟨OK_103_102_0_0, OK_103_102_1_0, trivial⟩ h
noncomputable def ov_103_103 {R : Type} : Nat → Option (List CV → List Blk → (CV → List Blk → Option R) → Option R) := fun f' => bif Nat.beq f' 102 then some g_103_102 else none
theorem ov_103_103_ok {R : Type} : OvrOK (R := R) ov_103_103 (evFn sm_103 fns FU 1) := by
 intro f' g h args hp k r hg
 dsimp only [ov_103_103] at h
 by_cases h102 : f' = 102
 · subst h102
   injection h with h
   subst h
   exact evFn_le 0 (g_103_102_ok _ _ _ _ hg)
 rw [nbeq_ne h102, cond_false] at h
 cases h
noncomputable def F_103 (a0 : ((List Int) × ((List Int) × (Int × Unit)))) (a1 a2 : Int) (a3 : (Int × (Int × Unit))) : Option (((List Int) × ((List Int) × (Int × Unit))) × (Int × (Int × Unit)) × Int × Unit) :=
 gd (p_54 a0) (bif !(v_54 a0).1 then some (([], [], 0, PUnit.unit), (0, 0, PUnit.unit), 1, PUnit.unit) else gd (p_13 a3) (bif !(v_13 a3).1 then some (([], [], 0, PUnit.unit), (0, 0, PUnit.unit), 1, PUnit.unit) else bif decide (a1 < 0) then some (([], [], 0, PUnit.unit), (0, 0, PUnit.unit), 2, PUnit.unit) else bif decide (a1 ≥ (↑(length (a0.1)) : Int)) then some (([], [], 0, PUnit.unit), (0, 0, PUnit.unit), 2, PUnit.unit) else gd (p_101 a3) (B_103_102_0_0 (L_103_102_0_0 4611686018427387904 0 a0 a3 (0, PUnit.unit) (0, 0, PUnit.unit) ((v_101 a3).2.1) a0 (0, PUnit.unit) [] [] (a0.2.2.1, PUnit.unit) [] []) fun y31 y32 y33 y34 y35 y36 y37 y38 y39 y40 y41 y42 => B_103_102_1_0 (L_103_102_1_0 4611686018427387904 0 y31 y32 y33 y34 y35 y36 y37 y38 y39 y40 y41 y42) fun y43 y44 y45 y46 y47 y48 y49 y50 y51 y52 y53 => gd (inB a1 (length (y43.1))) (gd (inB a1 (length y52)) (gd (decide (toNat a1 < length y52) && true && true) (some ((List.set y52 (toNat a1) (Sp.andI u32 (getD (y43.1) (toNat a1) 0) (Sp.orI u32 a2 (Sp.xorI u32 4294967295 ((v_101 a3).1)))), y53, y51), y47, (v_101 a3).2.2.1, PUnit.unit)))))))
noncomputable def Sp.p_103 (a0 : ((List Int) × ((List Int) × (Int × Unit)))) (a1 a2 : Int) (a3 : (Int × (Int × Unit))) : Bool := (F_103 a0 a1 a2 a3).isSome
noncomputable def Sp.v_103 (a0 : ((List Int) × ((List Int) × (Int × Unit)))) (a1 a2 : Int) (a3 : (Int × (Int × Unit))) : ((List Int) × ((List Int) × (Int × Unit))) × (Int × (Int × Unit)) × Int × Unit := (F_103 a0 a1 a2 a3).getD (dfH R_103)
noncomputable def s_103 : Summ := shS A_103 R_103 (fun x => p_103 x.1 x.2.1 x.2.2.1 x.2.2.2.1) (fun x => v_103 x.1 x.2.1 x.2.2.1 x.2.2.2.1)
theorem pv_103 (a0 : ((List Int) × ((List Int) × (Int × Unit)))) (a1 a2 : Int) (a3 : (Int × (Int × Unit))) {y : ((List Int) × ((List Int) × (Int × Unit))) × (Int × (Int × Unit)) × Int × Unit} (h : F_103 a0 a1 a2 a3 = some y) : p_103 a0 a1 a2 a3 = true ∧ v_103 a0 a1 a2 a3 = y := pvG h
theorem run_103 (x : HDen A_103) (y : HDen R_103) (h : F_103 x.1 x.2.1 x.2.2.1 x.2.2.2.1 = some y) : rnF sm_103 2 103 A_103 R_103 x y := runG ov_103_103_ok (os := []) trivial (Eq.trans (by kernel_rfl) h)
end
noncomputable section
abbrev Zt66_0 : Type := (List Int × List Int × Int × Unit) × List Int × Unit
abbrev A_66 : List Ty := [(.pair (.pair (.slice (.int .u32)) (.pair (.slice (.int .i64)) (.pair (.int .i64) .unit))) (.pair (.arr 32 (.int .u8)) .unit)), (.int .i64), (.pair (.int .i64) (.pair (.int .u32) .unit))]
abbrev R_66 : List Ty := [(.pair (.pair (.slice (.int .u32)) (.pair (.slice (.int .i64)) (.pair (.int .i64) .unit))) (.pair (.arr 32 (.int .u8)) .unit)), (.pair (.int .i64) (.pair (.int .u32) .unit)), (.int .i64)]
noncomputable def sm_66 : Nat → Option Summ := smL [(12, s_12), (13, s_13), (30, s_30), (32, s_32), (56, s_56), (103, s_103), (107, s_107)]
noncomputable def T_66_0 : PS := ⟨68, [(1, .hv (.int .i64)), (3, .kc (.ptr 0 [])), (5, .kc (.ptr 1 [])), (6, .kc (.ptr 2 [])), (7, .kc (.ptr 5 [])), (9, .hv (.int .i64))], [.mem (.hv (.pair (.pair (.slice (.int .u32)) (.pair (.slice (.int .i64)) (.pair (.int .i64) .unit))) (.pair (.arr 32 (.int .u8)) .unit))), .mem (.hv (.pair (.int .i64) (.pair (.int .u32) .unit))), .mem (.pr (.pr (.kc (.whole 3)) (.pr (.kc (.whole 4)) (.hv (.pair (.int .i64) .unit)))) (.hv (.pair (.arr 32 (.int .u8)) .unit))), .vec 37 (.int .u32), .vec 3 (.int .i64), .mem (.hv (.pair (.int .i64) (.pair (.int .u32) .unit)))], 0⟩
inductive Sp.E_66_0 where
 | e0 (p1 : Int)
 | e1 (p0 : Int) (p2 : Zt66_0) (p3 : Int × Int × Unit)
noncomputable def Sp.B_66_0 {R : Type} (r : Option E_66_0) (k0 : Int → Option R) (k1 : Int → Zt66_0 → (Int × Int × Unit) → Option R) : Option R := match r with
 | none => none
 | some (.e0 p1) => k0 p1
 | some (.e1 p0 p2 p3) => k1 p0 p2 p3
noncomputable def Y_66_0 {R : Type} (k : Ex → St → Option R) : E_66_0 → Option R
 | .e0 p1 => k Ex.ret (sx 68 [(6, CV.ptr 0 []), (7, CV.ptr 3 []), (8, CV.int i64 p1)] [Blk.mem (CV.pair (CV.pair (CV.whole 1) (CV.pair (CV.whole 2) (CV.pure (Ty.pair (Ty.int i64) Ty.unit) ((0, PUnit.unit) : (Int × Unit))))) (CV.pure (Ty.pair (Ty.arr 32 (Ty.int u8)) Ty.unit) ((replicate 32 (0 :Int), PUnit.unit) : ((List Int) × Unit)))), Blk.vec 37 (Ty.int u32) [], Blk.vec 3 (Ty.int i64) [], Blk.mem (CV.pure (Ty.pair (Ty.int i64) (Ty.pair (Ty.int u32) Ty.unit)) ((0, 0, PUnit.unit) : (Int × (Int × Unit))))])
 | .e1 p0 p2 p3 => k Ex.ret (sx 68 [(6, CV.ptr 0 []), (7, CV.ptr 1 []), (8, CV.int i64 ((v_103 (p2.1) (wrap i64 (Int.tdiv (wrap i64 (p0 * (↑(length (p2.1.1)) : Int))) 2)) 0 p3).2.2.1))] [Blk.mem (CV.pure (Ty.pair (Ty.pair (Ty.slice (Ty.int u32)) (Ty.pair (Ty.slice (Ty.int i64)) (Ty.pair (Ty.int i64) Ty.unit))) (Ty.pair (Ty.arr 32 (Ty.int u8)) Ty.unit)) (((v_103 (p2.1) (wrap i64 (Int.tdiv (wrap i64 (p0 * (↑(length (p2.1.1)) : Int))) 2)) 0 p3).1, p2.2.1, PUnit.unit) : (((List Int) × ((List Int) × (Int × Unit))) × ((List Int) × Unit)))), Blk.mem (CV.pure (Ty.pair (Ty.int i64) (Ty.pair (Ty.int u32) Ty.unit)) (((v_103 (p2.1) (wrap i64 (Int.tdiv (wrap i64 (p0 * (↑(length (p2.1.1)) : Int))) 2)) 0 p3).2.1) : (Int × (Int × Unit))))])
noncomputable def Sp.S_66_0 {R : Type} (k : E_66_0 → Option R) (p0 p1 : Int) (p2 : (List Int × List Int × Int × Unit) × List Int × Unit) (p3 : Int × Int × Unit) (p4 : Int × Unit) (p5 : List Int × Unit) (p6 p7 : List Int) (p8 : Int × Int × Unit) : Option R :=
 bif p1 != 0 then k (E_66_0.e0 p1) else gd (p_103 (p2.1) (wrap i64 (Int.tdiv (wrap i64 (p0 * (↑(length (p2.1.1)) : Int))) 2)) 0 p3) (k (E_66_0.e1 p0 p2 p3))
noncomputable def Sp.J_66_0 (p0 p1 : Int) (p2 : (List Int × List Int × Int × Unit) × List Int × Unit) (p3 : Int × Int × Unit) (p4 : Int × Unit) (p5 : List Int × Unit) (p6 p7 : List Int) (p8 : Int × Int × Unit) : Option E_66_0 := S_66_0 some p0 p1 p2 p3 p4 p5 p6 p7 p8
noncomputable def O_66_0 {R : Type} : Orc R := orL T_66_0 (fun a => J_66_0 a.1 a.2.1 a.2.2.1 a.2.2.2.1 a.2.2.2.2.1 a.2.2.2.2.2.1 a.2.2.2.2.2.2.1 a.2.2.2.2.2.2.2.1 a.2.2.2.2.2.2.2.2.1) Y_66_0
theorem OK_66_0 {R : Type} : okF (R := R) sm_66 0 (nf 66 0) O_66_0 := jp noO_ok (os := []) trivial T_66_0 (fun R k a => S_66_0 k a.1 a.2.1 a.2.2.1 a.2.2.2.1 a.2.2.2.2.1 a.2.2.2.2.2.1 a.2.2.2.2.2.2.1 a.2.2.2.2.2.2.2.1 a.2.2.2.2.2.2.2.2.1) Y_66_0 (fun k a => by kernel_rfl) (fun Y a => by
 unfold S_66_0
 repeat' first | apply gdN | apply condN | rfl) (ok0 _)
noncomputable def F_66 (a0 : (((List Int) × ((List Int) × (Int × Unit))) × ((List Int) × Unit))) (a1 : Int) (a2 : (Int × (Int × Unit))) : Option ((((List Int) × ((List Int) × (Int × Unit))) × ((List Int) × Unit)) × (Int × (Int × Unit)) × Int × Unit) :=
 gd (p_12 a0) (bif !(v_12 a0).1 then B_66_0 (J_66_0 a1 1 a0 a2 (0, PUnit.unit) (replicate 32 (0 :Int), PUnit.unit) [] [] (0, 0, PUnit.unit)) (fun y28 => some ((([], [], 0, PUnit.unit), replicate 32 (0 :Int), PUnit.unit), (0, 0, PUnit.unit), y28, PUnit.unit)) fun y29 y30 y31 => some (((v_103 (y30.1) (wrap i64 (Int.tdiv (wrap i64 (y29 * (↑(length (y30.1.1)) : Int))) 2)) 0 y31).1, y30.2.1, PUnit.unit), (v_103 (y30.1) (wrap i64 (Int.tdiv (wrap i64 (y29 * (↑(length (y30.1.1)) : Int))) 2)) 0 y31).2.1, (v_103 (y30.1) (wrap i64 (Int.tdiv (wrap i64 (y29 * (↑(length (y30.1.1)) : Int))) 2)) 0 y31).2.2.1, PUnit.unit) else gd (p_13 a2) (bif !(v_13 a2).1 then B_66_0 (J_66_0 a1 1 a0 a2 (0, PUnit.unit) (replicate 32 (0 :Int), PUnit.unit) [] [] (0, 0, PUnit.unit)) (fun y32 => some ((([], [], 0, PUnit.unit), replicate 32 (0 :Int), PUnit.unit), (0, 0, PUnit.unit), y32, PUnit.unit)) fun y33 y34 y35 => some (((v_103 (y34.1) (wrap i64 (Int.tdiv (wrap i64 (y33 * (↑(length (y34.1.1)) : Int))) 2)) 0 y35).1, y34.2.1, PUnit.unit), (v_103 (y34.1) (wrap i64 (Int.tdiv (wrap i64 (y33 * (↑(length (y34.1.1)) : Int))) 2)) 0 y35).2.1, (v_103 (y34.1) (wrap i64 (Int.tdiv (wrap i64 (y33 * (↑(length (y34.1.1)) : Int))) 2)) 0 y35).2.2.1, PUnit.unit) else gd (p_107 a1) (bif !(v_107 a1).1 then B_66_0 (J_66_0 a1 2 a0 a2 (0, PUnit.unit) (replicate 32 (0 :Int), PUnit.unit) [] [] (0, 0, PUnit.unit)) (fun y36 => some ((([], [], 0, PUnit.unit), replicate 32 (0 :Int), PUnit.unit), (0, 0, PUnit.unit), y36, PUnit.unit)) fun y37 y38 y39 => some (((v_103 (y38.1) (wrap i64 (Int.tdiv (wrap i64 (y37 * (↑(length (y38.1.1)) : Int))) 2)) 0 y39).1, y38.2.1, PUnit.unit), (v_103 (y38.1) (wrap i64 (Int.tdiv (wrap i64 (y37 * (↑(length (y38.1.1)) : Int))) 2)) 0 y39).2.1, (v_103 (y38.1) (wrap i64 (Int.tdiv (wrap i64 (y37 * (↑(length (y38.1.1)) : Int))) 2)) 0 y39).2.2.1, PUnit.unit) else gd (p_32 a0 a1) (bif !(v_32 a0 a1).1 then B_66_0 (J_66_0 a1 14 a0 a2 (0, PUnit.unit) (replicate 32 (0 :Int), PUnit.unit) [] [] (0, 0, PUnit.unit)) (fun y40 => some ((([], [], 0, PUnit.unit), replicate 32 (0 :Int), PUnit.unit), (0, 0, PUnit.unit), y40, PUnit.unit)) fun y41 y42 y43 => some (((v_103 (y42.1) (wrap i64 (Int.tdiv (wrap i64 (y41 * (↑(length (y42.1.1)) : Int))) 2)) 0 y43).1, y42.2.1, PUnit.unit), (v_103 (y42.1) (wrap i64 (Int.tdiv (wrap i64 (y41 * (↑(length (y42.1.1)) : Int))) 2)) 0 y43).2.1, (v_103 (y42.1) (wrap i64 (Int.tdiv (wrap i64 (y41 * (↑(length (y42.1.1)) : Int))) 2)) 0 y43).2.2.1, PUnit.unit) else gd (p_30 a0 a1) (gd (inB 0 (length ((v_30 a0 a1).1))) (bif getD ((v_30 a0 a1).1) 0 (0 :Int) == (0 :Int) then B_66_0 (J_66_0 a1 6 a0 a2 (0, PUnit.unit) (replicate 32 (0 :Int), PUnit.unit) [] [] (0, 0, PUnit.unit)) (fun y44 => some ((([], [], 0, PUnit.unit), replicate 32 (0 :Int), PUnit.unit), (0, 0, PUnit.unit), y44, PUnit.unit)) fun y45 y46 y47 => some (((v_103 (y46.1) (wrap i64 (Int.tdiv (wrap i64 (y45 * (↑(length (y46.1.1)) : Int))) 2)) 0 y47).1, y46.2.1, PUnit.unit), (v_103 (y46.1) (wrap i64 (Int.tdiv (wrap i64 (y45 * (↑(length (y46.1.1)) : Int))) 2)) 0 y47).2.1, (v_103 (y46.1) (wrap i64 (Int.tdiv (wrap i64 (y45 * (↑(length (y46.1.1)) : Int))) 2)) 0 y47).2.2.1, PUnit.unit) else gd (p_30 a0 a1) (gd (inB 1 (length ((v_30 a0 a1).1))) (gd (p_56 a0) (bif decide (wrap i64 (getD ((v_30 a0 a1).1) 1 0) < (v_56 a0).1) then B_66_0 (J_66_0 a1 20 a0 a2 (0, PUnit.unit) (replicate 32 (0 :Int), PUnit.unit) [] [] (0, 0, PUnit.unit)) (fun y48 => some ((([], [], 0, PUnit.unit), replicate 32 (0 :Int), PUnit.unit), (0, 0, PUnit.unit), y48, PUnit.unit)) fun y49 y50 y51 => some (((v_103 (y50.1) (wrap i64 (Int.tdiv (wrap i64 (y49 * (↑(length (y50.1.1)) : Int))) 2)) 0 y51).1, y50.2.1, PUnit.unit), (v_103 (y50.1) (wrap i64 (Int.tdiv (wrap i64 (y49 * (↑(length (y50.1.1)) : Int))) 2)) 0 y51).2.1, (v_103 (y50.1) (wrap i64 (Int.tdiv (wrap i64 (y49 * (↑(length (y50.1.1)) : Int))) 2)) 0 y51).2.2.1, PUnit.unit) else B_66_0 (J_66_0 a1 0 a0 a2 (0, PUnit.unit) (replicate 32 (0 :Int), PUnit.unit) [] [] (0, 0, PUnit.unit)) (fun y52 => some ((([], [], 0, PUnit.unit), replicate 32 (0 :Int), PUnit.unit), (0, 0, PUnit.unit), y52, PUnit.unit)) fun y53 y54 y55 => some (((v_103 (y54.1) (wrap i64 (Int.tdiv (wrap i64 (y53 * (↑(length (y54.1.1)) : Int))) 2)) 0 y55).1, y54.2.1, PUnit.unit), (v_103 (y54.1) (wrap i64 (Int.tdiv (wrap i64 (y53 * (↑(length (y54.1.1)) : Int))) 2)) 0 y55).2.1, (v_103 (y54.1) (wrap i64 (Int.tdiv (wrap i64 (y53 * (↑(length (y54.1.1)) : Int))) 2)) 0 y55).2.2.1, PUnit.unit))))))))))
noncomputable def Sp.p_66 (a0 : (((List Int) × ((List Int) × (Int × Unit))) × ((List Int) × Unit))) (a1 : Int) (a2 : (Int × (Int × Unit))) : Bool := (F_66 a0 a1 a2).isSome
noncomputable def Sp.v_66 (a0 : (((List Int) × ((List Int) × (Int × Unit))) × ((List Int) × Unit))) (a1 : Int) (a2 : (Int × (Int × Unit))) : (((List Int) × ((List Int) × (Int × Unit))) × ((List Int) × Unit)) × (Int × (Int × Unit)) × Int × Unit := (F_66 a0 a1 a2).getD (dfH R_66)
noncomputable def s_66 : Summ := shS A_66 R_66 (fun x => p_66 x.1 x.2.1 x.2.2.1) (fun x => v_66 x.1 x.2.1 x.2.2.1)
theorem pv_66 (a0 : (((List Int) × ((List Int) × (Int × Unit))) × ((List Int) × Unit))) (a1 : Int) (a2 : (Int × (Int × Unit))) {y : (((List Int) × ((List Int) × (Int × Unit))) × ((List Int) × Unit)) × (Int × (Int × Unit)) × Int × Unit} (h : F_66 a0 a1 a2 = some y) : p_66 a0 a1 a2 = true ∧ v_66 a0 a1 a2 = y := pvG h
theorem run_66 (x : HDen A_66) (y : HDen R_66) (h : F_66 x.1 x.2.1 x.2.2.1 = some y) : rnF sm_66 1 66 A_66 R_66 x y := runG noO_ok (os := [O_66_0]) ⟨OK_66_0, trivial⟩ (Eq.trans (by kernel_rfl) h)
end
noncomputable section
abbrev A_22 : List Ty := [(.pair (.pair (.pair (.slice (.int .u32)) (.pair (.slice (.int .i64)) (.pair (.int .i64) .unit))) (.pair (.arr 32 (.int .u8)) .unit)) (.pair (.pair (.int .i64) (.pair (.int .u32) .unit)) (.pair (.int .i64) .unit))), (.int .i64)]
abbrev R_22 : List Ty := [(.pair (.pair (.pair (.slice (.int .u32)) (.pair (.slice (.int .i64)) (.pair (.int .i64) .unit))) (.pair (.arr 32 (.int .u8)) .unit)) (.pair (.pair (.int .i64) (.pair (.int .u32) .unit)) (.pair (.int .i64) .unit)))]
noncomputable def sm_22 : Nat → Option Summ := smL [(66, s_66)]
noncomputable def F_22 (a0 : ((((List Int) × ((List Int) × (Int × Unit))) × ((List Int) × Unit)) × ((Int × (Int × Unit)) × (Int × Unit)))) (a1 : Int) : Option (((((List Int) × ((List Int) × (Int × Unit))) × ((List Int) × Unit)) × ((Int × (Int × Unit)) × (Int × Unit))) × Unit) :=
 gd (p_66 (a0.1) a1 (a0.2.1)) (some (((v_66 (a0.1) a1 (a0.2.1)).1, (v_66 (a0.1) a1 (a0.2.1)).2.1, (v_66 (a0.1) a1 (a0.2.1)).2.2.1, PUnit.unit), PUnit.unit))
noncomputable def Sp.p_22 (a0 : ((((List Int) × ((List Int) × (Int × Unit))) × ((List Int) × Unit)) × ((Int × (Int × Unit)) × (Int × Unit)))) (a1 : Int) : Bool := (F_22 a0 a1).isSome
noncomputable def Sp.v_22 (a0 : ((((List Int) × ((List Int) × (Int × Unit))) × ((List Int) × Unit)) × ((Int × (Int × Unit)) × (Int × Unit)))) (a1 : Int) : ((((List Int) × ((List Int) × (Int × Unit))) × ((List Int) × Unit)) × ((Int × (Int × Unit)) × (Int × Unit))) × Unit := (F_22 a0 a1).getD (dfH R_22)
noncomputable def s_22 : Summ := shS A_22 R_22 (fun x => p_22 x.1 x.2.1) (fun x => v_22 x.1 x.2.1)
theorem pv_22 (a0 : ((((List Int) × ((List Int) × (Int × Unit))) × ((List Int) × Unit)) × ((Int × (Int × Unit)) × (Int × Unit)))) (a1 : Int) {y : ((((List Int) × ((List Int) × (Int × Unit))) × ((List Int) × Unit)) × ((Int × (Int × Unit)) × (Int × Unit))) × Unit} (h : F_22 a0 a1 = some y) : p_22 a0 a1 = true ∧ v_22 a0 a1 = y := pvG h
theorem run_22 (x : HDen A_22) (y : HDen R_22) (h : F_22 x.1 x.2.1 = some y) : rnF sm_22 1 22 A_22 R_22 x y := runG noO_ok (os := []) trivial (Eq.trans (by kernel_rfl) h)
end
noncomputable section
abbrev A_59 : List Ty := [(.pair (.int .i64) (.pair (.int .i64) (.pair (.int .i64) (.pair (.pair (.int .i64) (.pair (.int .i64) (.pair (.arr 32 (.int .u8)) (.pair (.pair (.int .i64) (.pair (.slice (.arr 32 (.int .u8))) (.pair (.slice (.arr 32 (.int .u8))) .unit))) .unit)))) .unit)))), (.pair (.int .i64) (.pair (.int .i64) (.pair (.int .i64) (.pair (.pair (.int .i64) (.pair (.int .i64) (.pair (.arr 32 (.int .u8)) (.pair (.pair (.int .i64) (.pair (.slice (.arr 32 (.int .u8))) (.pair (.slice (.arr 32 (.int .u8))) .unit))) .unit)))) .unit))))]
abbrev R_59 : List Ty := [.bool]
noncomputable def sm_59 : Nat → Option Summ := smL [(80, s_80)]
noncomputable def F_59 (a0 : (Int × (Int × (Int × ((Int × (Int × ((List Int) × ((Int × ((List (List Int)) × ((List (List Int)) × Unit))) × Unit)))) × Unit))))) (a1 : (Int × (Int × (Int × ((Int × (Int × ((List Int) × ((Int × ((List (List Int)) × ((List (List Int)) × Unit))) × Unit)))) × Unit))))) : Option (Bool × Unit) :=
 bif a0.1 == a1.1 then bif a0.2.1 == a1.2.1 then bif a0.2.2.1 == a1.2.2.1 then gd (p_80 (a0.2.2.2.1) (a1.2.2.2.1)) (some ((v_80 (a0.2.2.2.1) (a1.2.2.2.1)).1, PUnit.unit)) else some (false, PUnit.unit) else some (false, PUnit.unit) else some (false, PUnit.unit)
noncomputable def Sp.p_59 (a0 : (Int × (Int × (Int × ((Int × (Int × ((List Int) × ((Int × ((List (List Int)) × ((List (List Int)) × Unit))) × Unit)))) × Unit))))) (a1 : (Int × (Int × (Int × ((Int × (Int × ((List Int) × ((Int × ((List (List Int)) × ((List (List Int)) × Unit))) × Unit)))) × Unit))))) : Bool := (F_59 a0 a1).isSome
noncomputable def Sp.v_59 (a0 : (Int × (Int × (Int × ((Int × (Int × ((List Int) × ((Int × ((List (List Int)) × ((List (List Int)) × Unit))) × Unit)))) × Unit))))) (a1 : (Int × (Int × (Int × ((Int × (Int × ((List Int) × ((Int × ((List (List Int)) × ((List (List Int)) × Unit))) × Unit)))) × Unit))))) : Bool × Unit := (F_59 a0 a1).getD (dfH R_59)
noncomputable def s_59 : Summ := shN A_59 R_59 (fun x => p_59 x.1 x.2.1) (fun x => v_59 x.1 x.2.1)
theorem pv_59 (a0 : (Int × (Int × (Int × ((Int × (Int × ((List Int) × ((Int × ((List (List Int)) × ((List (List Int)) × Unit))) × Unit)))) × Unit))))) (a1 : (Int × (Int × (Int × ((Int × (Int × ((List Int) × ((Int × ((List (List Int)) × ((List (List Int)) × Unit))) × Unit)))) × Unit))))) {y : Bool × Unit} (h : F_59 a0 a1 = some y) : p_59 a0 a1 = true ∧ v_59 a0 a1 = y := pvG h
theorem run_59 (x : HDen A_59) (y : HDen R_59) (h : F_59 x.1 x.2.1 = some y) : rnF sm_59 1 59 A_59 R_59 x y := runG noO_ok (os := []) trivial (Eq.trans (by kernel_rfl) h)
end
noncomputable section
abbrev Zt4_0 : Type := Int × Int × Int × (Int × Int × List Int × (Int × List (List Int) × List (List Int) × Unit) × Unit) × Unit
abbrev Zy4_1 : Ty := (.pair (.int .i64) (.pair (.int .i64) (.pair (.int .i64) (.pair (.pair (.int .i64) (.pair (.int .i64) (.pair (.arr 32 (.int .u8)) (.pair (.pair (.int .i64) (.pair (.slice (.arr 32 (.int .u8))) (.pair (.slice (.arr 32 (.int .u8))) .unit))) .unit)))) .unit))))
abbrev Zt4_2 : Type := (List Int × List Int × Int × Unit) × List Int × Unit
abbrev Zt4_3 : Type := ((List Int × List Int × Int × Unit) × List Int × Unit) × (Int × Int × Unit) × Int × Unit
abbrev Zy4_4 : Ty := (.pair (.pair (.slice (.int .u32)) (.pair (.slice (.int .i64)) (.pair (.int .i64) .unit))) (.pair (.arr 32 (.int .u8)) .unit))
abbrev Zt4_5 : Type := Int × Int × Unit
abbrev Zy4_6 : Ty := (.pair (.pair (.pair (.slice (.int .u32)) (.pair (.slice (.int .i64)) (.pair (.int .i64) .unit))) (.pair (.arr 32 (.int .u8)) .unit)) (.pair (.pair (.int .i64) (.pair (.int .u32) .unit)) (.pair (.int .i64) .unit)))
abbrev Zy4_7 : Ty := (.pair (.int .i64) (.pair (.int .u32) .unit))
abbrev A_4 : List Ty := [(.pair (.int .i64) (.pair (.int .i64) (.pair (.int .i64) (.pair (.pair (.int .i64) (.pair (.int .i64) (.pair (.arr 32 (.int .u8)) (.pair (.pair (.int .i64) (.pair (.slice (.arr 32 (.int .u8))) (.pair (.slice (.arr 32 (.int .u8))) .unit))) .unit)))) .unit)))), (.pair (.pair (.slice (.int .u32)) (.pair (.slice (.int .i64)) (.pair (.int .i64) .unit))) (.pair (.arr 32 (.int .u8)) .unit)), (.pair (.int .i64) (.pair (.int .u32) .unit))]
abbrev R_4 : List Ty := [.bool]
noncomputable def sm_4 : Nat → Option Summ := smL [(7, s_7), (8, s_8), (9, s_9), (19, s_19), (20, s_20), (22, s_22), (28, s_28), (38, s_38), (59, s_59)]
noncomputable def T_4_15_1_0 : PS := ⟨90, [(3, .hv (.int .i64)), (6, .kc (.ptr 6 [])), (7, .kc (.ptr 7 [])), (8, .kc (.ptr 8 [])), (13, .kc (.ptr 9 [])), (14, .kc (.ptr 10 []))], [.mem (.hv Zy4_1), .mem (.hv Zy4_4), .mem (.hv Zy4_7), .mem (.hv Zy4_1), .mem (.hv Zy4_4), .mem (.hv Zy4_7), .mem (.hv Zy4_1), .mem (.hv Zy4_4), .mem (.hv Zy4_7), .mem (.hv Zy4_6), .mem (.pr (.hv (.int .i64)) (.pr (.hv (.int .i64)) (.pr (.hv (.int .i64)) (.pr (.pr (.hv (.int .i64)) (.pr (.hv (.int .i64)) (.pr (.hv (.arr 32 (.int .u8))) (.pr (.pr (.hv (.int .i64)) (.kc (.pair (.whole 11) (.pair (.whole 12) (.pure .unit PUnit.unit))))) (.kc (.pure .unit PUnit.unit)))))) (.kc (.pure .unit PUnit.unit)))))), .vec 23 (.arr 32 (.int .u8)), .vec 23 (.arr 32 (.int .u8))], 6⟩
inductive Sp.E_4_15_1_0 where
 | e0 (p1 : Zt4_0) (p2 : Zt4_2) (p3 : Zt4_5) (p4 : Zt4_0) (p5 : Zt4_2) (p6 p9 : Zt4_5) (p10 : Zt4_3)
 | e1 (p1 : Zt4_0) (p2 : Zt4_2) (p3 : Zt4_5) (p4 : Zt4_0) (p5 : Zt4_2) (p6 : Zt4_5)
noncomputable def Sp.B_4_15_1_0 {R : Type} (r : Option E_4_15_1_0) (k0 : Zt4_0 → Zt4_2 → Zt4_5 → Zt4_0 → Zt4_2 → Zt4_5 → Zt4_5 → Zt4_3 → Option R) (k1 : Zt4_0 → Zt4_2 → Zt4_5 → Zt4_0 → Zt4_2 → Zt4_5 → Option R) : Option R := match r with
 | none => none
 | some (.e0 p1 p2 p3 p4 p5 p6 p9 p10) => k0 p1 p2 p3 p4 p5 p6 p9 p10
 | some (.e1 p1 p2 p3 p4 p5 p6) => k1 p1 p2 p3 p4 p5 p6
theorem Bn_4_15_1_0 {A R : Type} {r : Option E_4_15_1_0} {f : A → Option R} {k0 : Zt4_0 → Zt4_2 → Zt4_5 → Zt4_0 → Zt4_2 → Zt4_5 → Zt4_5 → Zt4_3 → Option A} {k1 : Zt4_0 → Zt4_2 → Zt4_5 → Zt4_0 → Zt4_2 → Zt4_5 → Option A} {l0 : Zt4_0 → Zt4_2 → Zt4_5 → Zt4_0 → Zt4_2 → Zt4_5 → Zt4_5 → Zt4_3 → Option R} {l1 : Zt4_0 → Zt4_2 → Zt4_5 → Zt4_0 → Zt4_2 → Zt4_5 → Option R} (h0 : ∀ p1 p2 p3 p4 p5 p6 p9 p10, (k0 p1 p2 p3 p4 p5 p6 p9 p10).bind f = l0 p1 p2 p3 p4 p5 p6 p9 p10) (h1 : ∀ p1 p2 p3 p4 p5 p6, (k1 p1 p2 p3 p4 p5 p6).bind f = l1 p1 p2 p3 p4 p5 p6) : (B_4_15_1_0 r k0 k1).bind f = B_4_15_1_0 r l0 l1 := by
 cases r with
 | none => rfl
 | some e => cases e <;> first | apply h0 | apply h1
noncomputable def Y_4_15_1_0 {R : Type} (k : Ex → St → Option R) : E_4_15_1_0 → Option R
 | .e0 p1 p2 p3 p4 p5 p6 p9 p10 => k Ex.ret (sx 90 [(12, CV.bool (Ty.beq (Ty.pair (Ty.int i64) (Ty.pair (Ty.int u32) Ty.unit)) p9 (p10.2.1)))] [Blk.mem (CV.pure (Ty.pair (Ty.int i64) (Ty.pair (Ty.int i64) (Ty.pair (Ty.int i64) (Ty.pair (Ty.pair (Ty.int i64) (Ty.pair (Ty.int i64) (Ty.pair (Ty.arr 32 (Ty.int u8)) (Ty.pair (Ty.pair (Ty.int i64) (Ty.pair (Ty.slice (Ty.arr 32 (Ty.int u8))) (Ty.pair (Ty.slice (Ty.arr 32 (Ty.int u8))) Ty.unit))) Ty.unit)))) Ty.unit)))) p1), Blk.mem (CV.pure (Ty.pair (Ty.pair (Ty.slice (Ty.int u32)) (Ty.pair (Ty.slice (Ty.int i64)) (Ty.pair (Ty.int i64) Ty.unit))) (Ty.pair (Ty.arr 32 (Ty.int u8)) Ty.unit)) p2), Blk.mem (CV.pure (Ty.pair (Ty.int i64) (Ty.pair (Ty.int u32) Ty.unit)) p3), Blk.mem (CV.pure (Ty.pair (Ty.int i64) (Ty.pair (Ty.int i64) (Ty.pair (Ty.int i64) (Ty.pair (Ty.pair (Ty.int i64) (Ty.pair (Ty.int i64) (Ty.pair (Ty.arr 32 (Ty.int u8)) (Ty.pair (Ty.pair (Ty.int i64) (Ty.pair (Ty.slice (Ty.arr 32 (Ty.int u8))) (Ty.pair (Ty.slice (Ty.arr 32 (Ty.int u8))) Ty.unit))) Ty.unit)))) Ty.unit)))) p4), Blk.mem (CV.pure (Ty.pair (Ty.pair (Ty.slice (Ty.int u32)) (Ty.pair (Ty.slice (Ty.int i64)) (Ty.pair (Ty.int i64) Ty.unit))) (Ty.pair (Ty.arr 32 (Ty.int u8)) Ty.unit)) p5), Blk.mem (CV.pure (Ty.pair (Ty.int i64) (Ty.pair (Ty.int u32) Ty.unit)) p6)] 6)
 | .e1 p1 p2 p3 p4 p5 p6 => k Ex.ret (sx 90 [(12, CV.bool false)] [Blk.mem (CV.pure (Ty.pair (Ty.int i64) (Ty.pair (Ty.int i64) (Ty.pair (Ty.int i64) (Ty.pair (Ty.pair (Ty.int i64) (Ty.pair (Ty.int i64) (Ty.pair (Ty.arr 32 (Ty.int u8)) (Ty.pair (Ty.pair (Ty.int i64) (Ty.pair (Ty.slice (Ty.arr 32 (Ty.int u8))) (Ty.pair (Ty.slice (Ty.arr 32 (Ty.int u8))) Ty.unit))) Ty.unit)))) Ty.unit)))) p1), Blk.mem (CV.pure (Ty.pair (Ty.pair (Ty.slice (Ty.int u32)) (Ty.pair (Ty.slice (Ty.int i64)) (Ty.pair (Ty.int i64) Ty.unit))) (Ty.pair (Ty.arr 32 (Ty.int u8)) Ty.unit)) p2), Blk.mem (CV.pure (Ty.pair (Ty.int i64) (Ty.pair (Ty.int u32) Ty.unit)) p3), Blk.mem (CV.pure (Ty.pair (Ty.int i64) (Ty.pair (Ty.int i64) (Ty.pair (Ty.int i64) (Ty.pair (Ty.pair (Ty.int i64) (Ty.pair (Ty.int i64) (Ty.pair (Ty.arr 32 (Ty.int u8)) (Ty.pair (Ty.pair (Ty.int i64) (Ty.pair (Ty.slice (Ty.arr 32 (Ty.int u8))) (Ty.pair (Ty.slice (Ty.arr 32 (Ty.int u8))) Ty.unit))) Ty.unit)))) Ty.unit)))) p4), Blk.mem (CV.pure (Ty.pair (Ty.pair (Ty.slice (Ty.int u32)) (Ty.pair (Ty.slice (Ty.int i64)) (Ty.pair (Ty.int i64) Ty.unit))) (Ty.pair (Ty.arr 32 (Ty.int u8)) Ty.unit)) p5), Blk.mem (CV.pure (Ty.pair (Ty.int i64) (Ty.pair (Ty.int u32) Ty.unit)) p6)] 6)
noncomputable def Sp.S_4_15_1_0 {R : Type} (k : E_4_15_1_0 → Option R) (p0 : Int) (p1 : Int × Int × Int × (Int × Int × List Int × (Int × List (List Int) × List (List Int) × Unit) × Unit) × Unit) (p2 : (List Int × List Int × Int × Unit) × List Int × Unit) (p3 : Int × Int × Unit) (p4 : Int × Int × Int × (Int × Int × List Int × (Int × List (List Int) × List (List Int) × Unit) × Unit) × Unit) (p5 : (List Int × List Int × Int × Unit) × List Int × Unit) (p6 : Int × Int × Unit) (p7 : Int × Int × Int × (Int × Int × List Int × (Int × List (List Int) × List (List Int) × Unit) × Unit) × Unit) (p8 : (List Int × List Int × Int × Unit) × List Int × Unit) (p9 : Int × Int × Unit) (p10 : ((List Int × List Int × Int × Unit) × List Int × Unit) × (Int × Int × Unit) × Int × Unit) (p11 p12 p13 p14 p15 : Int) (p16 : List Int) (p17 : Int) (p18 p19 : List (List Int)) : Option R :=
 bif p0 == p10.2.2.1 then gd (p_59 p7 (p11, p12, p13, (p14, p15, p16, (p17, p18, p19, PUnit.unit), PUnit.unit), PUnit.unit)) (bif (v_59 p7 (p11, p12, p13, (p14, p15, p16, (p17, p18, p19, PUnit.unit), PUnit.unit), PUnit.unit)).1 then gd (p_28 p8 (p10.1)) (bif (v_28 p8 (p10.1)).1 then k (E_4_15_1_0.e0 p1 p2 p3 p4 p5 p6 p9 p10) else k (E_4_15_1_0.e1 p1 p2 p3 p4 p5 p6)) else k (E_4_15_1_0.e1 p1 p2 p3 p4 p5 p6)) else k (E_4_15_1_0.e1 p1 p2 p3 p4 p5 p6)
noncomputable def Sp.J_4_15_1_0 (p0 : Int) (p1 : Int × Int × Int × (Int × Int × List Int × (Int × List (List Int) × List (List Int) × Unit) × Unit) × Unit) (p2 : (List Int × List Int × Int × Unit) × List Int × Unit) (p3 : Int × Int × Unit) (p4 : Int × Int × Int × (Int × Int × List Int × (Int × List (List Int) × List (List Int) × Unit) × Unit) × Unit) (p5 : (List Int × List Int × Int × Unit) × List Int × Unit) (p6 : Int × Int × Unit) (p7 : Int × Int × Int × (Int × Int × List Int × (Int × List (List Int) × List (List Int) × Unit) × Unit) × Unit) (p8 : (List Int × List Int × Int × Unit) × List Int × Unit) (p9 : Int × Int × Unit) (p10 : ((List Int × List Int × Int × Unit) × List Int × Unit) × (Int × Int × Unit) × Int × Unit) (p11 p12 p13 p14 p15 : Int) (p16 : List Int) (p17 : Int) (p18 p19 : List (List Int)) : Option E_4_15_1_0 := S_4_15_1_0 some p0 p1 p2 p3 p4 p5 p6 p7 p8 p9 p10 p11 p12 p13 p14 p15 p16 p17 p18 p19
noncomputable def O_4_15_1_0 {R : Type} : Orc R := orL T_4_15_1_0 (fun a => J_4_15_1_0 a.1 a.2.1 a.2.2.1 a.2.2.2.1 a.2.2.2.2.1 a.2.2.2.2.2.1 a.2.2.2.2.2.2.1 a.2.2.2.2.2.2.2.1 a.2.2.2.2.2.2.2.2.1 a.2.2.2.2.2.2.2.2.2.1 a.2.2.2.2.2.2.2.2.2.2.1 a.2.2.2.2.2.2.2.2.2.2.2.1 a.2.2.2.2.2.2.2.2.2.2.2.2.1 a.2.2.2.2.2.2.2.2.2.2.2.2.2.1 a.2.2.2.2.2.2.2.2.2.2.2.2.2.2.1 a.2.2.2.2.2.2.2.2.2.2.2.2.2.2.2.1 a.2.2.2.2.2.2.2.2.2.2.2.2.2.2.2.2.1 a.2.2.2.2.2.2.2.2.2.2.2.2.2.2.2.2.2.1 a.2.2.2.2.2.2.2.2.2.2.2.2.2.2.2.2.2.2.1 a.2.2.2.2.2.2.2.2.2.2.2.2.2.2.2.2.2.2.2.1) Y_4_15_1_0
theorem OK_4_15_1_0 {R : Type} : okF (R := R) sm_4 1 (ni (nf 15 0) 0) O_4_15_1_0 := jp noO_ok (os := []) trivial T_4_15_1_0 (fun R k a => S_4_15_1_0 k a.1 a.2.1 a.2.2.1 a.2.2.2.1 a.2.2.2.2.1 a.2.2.2.2.2.1 a.2.2.2.2.2.2.1 a.2.2.2.2.2.2.2.1 a.2.2.2.2.2.2.2.2.1 a.2.2.2.2.2.2.2.2.2.1 a.2.2.2.2.2.2.2.2.2.2.1 a.2.2.2.2.2.2.2.2.2.2.2.1 a.2.2.2.2.2.2.2.2.2.2.2.2.1 a.2.2.2.2.2.2.2.2.2.2.2.2.2.1 a.2.2.2.2.2.2.2.2.2.2.2.2.2.2.1 a.2.2.2.2.2.2.2.2.2.2.2.2.2.2.2.1 a.2.2.2.2.2.2.2.2.2.2.2.2.2.2.2.2.1 a.2.2.2.2.2.2.2.2.2.2.2.2.2.2.2.2.2.1 a.2.2.2.2.2.2.2.2.2.2.2.2.2.2.2.2.2.2.1 a.2.2.2.2.2.2.2.2.2.2.2.2.2.2.2.2.2.2.2.1) Y_4_15_1_0 (fun k a => by kernel_rfl) (fun Y a => by
 unfold S_4_15_1_0
 repeat' first | apply gdN | apply condN | rfl) (ok0 _)
noncomputable def T_4_15_0_0 : PS := ⟨90, [(3, .hv (.int .i64)), (6, .kc (.ptr 6 [])), (7, .kc (.ptr 7 [])), (8, .kc (.ptr 8 [])), (13, .kc (.ptr 9 [])), (14, .kc (.ptr 10 []))], [.mem (.hv Zy4_1), .mem (.hv Zy4_4), .mem (.hv Zy4_7), .mem (.hv Zy4_1), .mem (.hv Zy4_4), .mem (.hv Zy4_7), .mem (.hv Zy4_1), .mem (.hv Zy4_4), .mem (.hv Zy4_7), .mem (.hv Zy4_6), .mem (.pr (.hv (.int .i64)) (.pr (.hv (.int .i64)) (.pr (.hv (.int .i64)) (.pr (.pr (.hv (.int .i64)) (.pr (.hv (.int .i64)) (.pr (.hv (.arr 32 (.int .u8))) (.pr (.pr (.hv (.int .i64)) (.kc (.pair (.whole 11) (.pair (.whole 12) (.pure .unit PUnit.unit))))) (.kc (.pure .unit PUnit.unit)))))) (.kc (.pure .unit PUnit.unit)))))), .vec 23 (.arr 32 (.int .u8)), .vec 23 (.arr 32 (.int .u8))], 6⟩
inductive Sp.E_4_15_0_0 where
 | e0 (y28 : Zt4_0) (y29 : Zt4_2) (y30 : Zt4_5) (y31 : Zt4_0) (y32 : Zt4_2) (y33 y34 : Zt4_5) (y35 : Zt4_3)
 | e1 (y36 : Zt4_0) (y37 : Zt4_2) (y38 : Zt4_5) (y39 : Zt4_0) (y40 : Zt4_2) (y41 : Zt4_5)
noncomputable def Sp.B_4_15_0_0 {R : Type} (r : Option E_4_15_0_0) (k0 : Zt4_0 → Zt4_2 → Zt4_5 → Zt4_0 → Zt4_2 → Zt4_5 → Zt4_5 → Zt4_3 → Option R) (k1 : Zt4_0 → Zt4_2 → Zt4_5 → Zt4_0 → Zt4_2 → Zt4_5 → Option R) : Option R := match r with
 | none => none
 | some (.e0 y28 y29 y30 y31 y32 y33 y34 y35) => k0 y28 y29 y30 y31 y32 y33 y34 y35
 | some (.e1 y36 y37 y38 y39 y40 y41) => k1 y36 y37 y38 y39 y40 y41
theorem Bn_4_15_0_0 {A R : Type} {r : Option E_4_15_0_0} {f : A → Option R} {k0 : Zt4_0 → Zt4_2 → Zt4_5 → Zt4_0 → Zt4_2 → Zt4_5 → Zt4_5 → Zt4_3 → Option A} {k1 : Zt4_0 → Zt4_2 → Zt4_5 → Zt4_0 → Zt4_2 → Zt4_5 → Option A} {l0 : Zt4_0 → Zt4_2 → Zt4_5 → Zt4_0 → Zt4_2 → Zt4_5 → Zt4_5 → Zt4_3 → Option R} {l1 : Zt4_0 → Zt4_2 → Zt4_5 → Zt4_0 → Zt4_2 → Zt4_5 → Option R} (h0 : ∀ y28 y29 y30 y31 y32 y33 y34 y35, (k0 y28 y29 y30 y31 y32 y33 y34 y35).bind f = l0 y28 y29 y30 y31 y32 y33 y34 y35) (h1 : ∀ y36 y37 y38 y39 y40 y41, (k1 y36 y37 y38 y39 y40 y41).bind f = l1 y36 y37 y38 y39 y40 y41) : (B_4_15_0_0 r k0 k1).bind f = B_4_15_0_0 r l0 l1 := by
 cases r with
 | none => rfl
 | some e => cases e <;> first | apply h0 | apply h1
noncomputable def Y_4_15_0_0 {R : Type} (k : Ex → St → Option R) : E_4_15_0_0 → Option R
 | .e0 y28 y29 y30 y31 y32 y33 y34 y35 => k Ex.ret (sx 90 [(12, CV.bool (Ty.beq (Ty.pair (Ty.int i64) (Ty.pair (Ty.int u32) Ty.unit)) y34 (y35.2.1)))] [Blk.mem (CV.pure (Ty.pair (Ty.int i64) (Ty.pair (Ty.int i64) (Ty.pair (Ty.int i64) (Ty.pair (Ty.pair (Ty.int i64) (Ty.pair (Ty.int i64) (Ty.pair (Ty.arr 32 (Ty.int u8)) (Ty.pair (Ty.pair (Ty.int i64) (Ty.pair (Ty.slice (Ty.arr 32 (Ty.int u8))) (Ty.pair (Ty.slice (Ty.arr 32 (Ty.int u8))) Ty.unit))) Ty.unit)))) Ty.unit)))) y28), Blk.mem (CV.pure (Ty.pair (Ty.pair (Ty.slice (Ty.int u32)) (Ty.pair (Ty.slice (Ty.int i64)) (Ty.pair (Ty.int i64) Ty.unit))) (Ty.pair (Ty.arr 32 (Ty.int u8)) Ty.unit)) y29), Blk.mem (CV.pure (Ty.pair (Ty.int i64) (Ty.pair (Ty.int u32) Ty.unit)) y30), Blk.mem (CV.pure (Ty.pair (Ty.int i64) (Ty.pair (Ty.int i64) (Ty.pair (Ty.int i64) (Ty.pair (Ty.pair (Ty.int i64) (Ty.pair (Ty.int i64) (Ty.pair (Ty.arr 32 (Ty.int u8)) (Ty.pair (Ty.pair (Ty.int i64) (Ty.pair (Ty.slice (Ty.arr 32 (Ty.int u8))) (Ty.pair (Ty.slice (Ty.arr 32 (Ty.int u8))) Ty.unit))) Ty.unit)))) Ty.unit)))) y31), Blk.mem (CV.pure (Ty.pair (Ty.pair (Ty.slice (Ty.int u32)) (Ty.pair (Ty.slice (Ty.int i64)) (Ty.pair (Ty.int i64) Ty.unit))) (Ty.pair (Ty.arr 32 (Ty.int u8)) Ty.unit)) y32), Blk.mem (CV.pure (Ty.pair (Ty.int i64) (Ty.pair (Ty.int u32) Ty.unit)) y33)] 6)
 | .e1 y36 y37 y38 y39 y40 y41 => k Ex.ret (sx 90 [(12, CV.bool false)] [Blk.mem (CV.pure (Ty.pair (Ty.int i64) (Ty.pair (Ty.int i64) (Ty.pair (Ty.int i64) (Ty.pair (Ty.pair (Ty.int i64) (Ty.pair (Ty.int i64) (Ty.pair (Ty.arr 32 (Ty.int u8)) (Ty.pair (Ty.pair (Ty.int i64) (Ty.pair (Ty.slice (Ty.arr 32 (Ty.int u8))) (Ty.pair (Ty.slice (Ty.arr 32 (Ty.int u8))) Ty.unit))) Ty.unit)))) Ty.unit)))) y36), Blk.mem (CV.pure (Ty.pair (Ty.pair (Ty.slice (Ty.int u32)) (Ty.pair (Ty.slice (Ty.int i64)) (Ty.pair (Ty.int i64) Ty.unit))) (Ty.pair (Ty.arr 32 (Ty.int u8)) Ty.unit)) y37), Blk.mem (CV.pure (Ty.pair (Ty.int i64) (Ty.pair (Ty.int u32) Ty.unit)) y38), Blk.mem (CV.pure (Ty.pair (Ty.int i64) (Ty.pair (Ty.int i64) (Ty.pair (Ty.int i64) (Ty.pair (Ty.pair (Ty.int i64) (Ty.pair (Ty.int i64) (Ty.pair (Ty.arr 32 (Ty.int u8)) (Ty.pair (Ty.pair (Ty.int i64) (Ty.pair (Ty.slice (Ty.arr 32 (Ty.int u8))) (Ty.pair (Ty.slice (Ty.arr 32 (Ty.int u8))) Ty.unit))) Ty.unit)))) Ty.unit)))) y39), Blk.mem (CV.pure (Ty.pair (Ty.pair (Ty.slice (Ty.int u32)) (Ty.pair (Ty.slice (Ty.int i64)) (Ty.pair (Ty.int i64) Ty.unit))) (Ty.pair (Ty.arr 32 (Ty.int u8)) Ty.unit)) y40), Blk.mem (CV.pure (Ty.pair (Ty.int i64) (Ty.pair (Ty.int u32) Ty.unit)) y41)] 6)
noncomputable def Sp.S_4_15_0_0 {R : Type} (k : E_4_15_0_0 → Option R) (p0 : Int) (p1 : Int × Int × Int × (Int × Int × List Int × (Int × List (List Int) × List (List Int) × Unit) × Unit) × Unit) (p2 : (List Int × List Int × Int × Unit) × List Int × Unit) (p3 : Int × Int × Unit) (p4 : Int × Int × Int × (Int × Int × List Int × (Int × List (List Int) × List (List Int) × Unit) × Unit) × Unit) (p5 : (List Int × List Int × Int × Unit) × List Int × Unit) (p6 : Int × Int × Unit) (p7 : Int × Int × Int × (Int × Int × List Int × (Int × List (List Int) × List (List Int) × Unit) × Unit) × Unit) (p8 : (List Int × List Int × Int × Unit) × List Int × Unit) (p9 : Int × Int × Unit) (p10 : ((List Int × List Int × Int × Unit) × List Int × Unit) × (Int × Int × Unit) × Int × Unit) (p11 p12 p13 p14 p15 : Int) (p16 : List Int) (p17 : Int) (p18 p19 : List (List Int)) : Option R :=
 bif p10.2.2.1 != 0 then B_4_15_1_0 (J_4_15_1_0 p0 p1 p2 p3 p4 p5 p6 p7 p8 p9 p10 0 0 0 0 0 (replicate 32 (0 :Int)) 0 [] []) (fun y28 y29 y30 y31 y32 y33 y34 y35 => k (E_4_15_0_0.e0 y28 y29 y30 y31 y32 y33 y34 y35)) fun y36 y37 y38 y39 y40 y41 => k (E_4_15_0_0.e1 y36 y37 y38 y39 y40 y41) else B_4_15_1_0 (J_4_15_1_0 p0 p1 p2 p3 p4 p5 p6 p7 p8 p9 p10 p11 p12 p13 p14 p15 p16 p17 p18 p19) (fun y42 y43 y44 y45 y46 y47 y48 y49 => k (E_4_15_0_0.e0 y42 y43 y44 y45 y46 y47 y48 y49)) fun y50 y51 y52 y53 y54 y55 => k (E_4_15_0_0.e1 y50 y51 y52 y53 y54 y55)
noncomputable def Sp.J_4_15_0_0 (p0 : Int) (p1 : Int × Int × Int × (Int × Int × List Int × (Int × List (List Int) × List (List Int) × Unit) × Unit) × Unit) (p2 : (List Int × List Int × Int × Unit) × List Int × Unit) (p3 : Int × Int × Unit) (p4 : Int × Int × Int × (Int × Int × List Int × (Int × List (List Int) × List (List Int) × Unit) × Unit) × Unit) (p5 : (List Int × List Int × Int × Unit) × List Int × Unit) (p6 : Int × Int × Unit) (p7 : Int × Int × Int × (Int × Int × List Int × (Int × List (List Int) × List (List Int) × Unit) × Unit) × Unit) (p8 : (List Int × List Int × Int × Unit) × List Int × Unit) (p9 : Int × Int × Unit) (p10 : ((List Int × List Int × Int × Unit) × List Int × Unit) × (Int × Int × Unit) × Int × Unit) (p11 p12 p13 p14 p15 : Int) (p16 : List Int) (p17 : Int) (p18 p19 : List (List Int)) : Option E_4_15_0_0 := S_4_15_0_0 some p0 p1 p2 p3 p4 p5 p6 p7 p8 p9 p10 p11 p12 p13 p14 p15 p16 p17 p18 p19
noncomputable def O_4_15_0_0 {R : Type} : Orc R := orL T_4_15_0_0 (fun a => J_4_15_0_0 a.1 a.2.1 a.2.2.1 a.2.2.2.1 a.2.2.2.2.1 a.2.2.2.2.2.1 a.2.2.2.2.2.2.1 a.2.2.2.2.2.2.2.1 a.2.2.2.2.2.2.2.2.1 a.2.2.2.2.2.2.2.2.2.1 a.2.2.2.2.2.2.2.2.2.2.1 a.2.2.2.2.2.2.2.2.2.2.2.1 a.2.2.2.2.2.2.2.2.2.2.2.2.1 a.2.2.2.2.2.2.2.2.2.2.2.2.2.1 a.2.2.2.2.2.2.2.2.2.2.2.2.2.2.1 a.2.2.2.2.2.2.2.2.2.2.2.2.2.2.2.1 a.2.2.2.2.2.2.2.2.2.2.2.2.2.2.2.2.1 a.2.2.2.2.2.2.2.2.2.2.2.2.2.2.2.2.2.1 a.2.2.2.2.2.2.2.2.2.2.2.2.2.2.2.2.2.2.1 a.2.2.2.2.2.2.2.2.2.2.2.2.2.2.2.2.2.2.2.1) Y_4_15_0_0
theorem OK_4_15_0_0 {R : Type} : okF (R := R) sm_4 1 (nf 15 0) O_4_15_0_0 := jp noO_ok (os := [O_4_15_1_0]) ⟨OK_4_15_1_0, trivial⟩ T_4_15_0_0 (fun R k a => S_4_15_0_0 k a.1 a.2.1 a.2.2.1 a.2.2.2.1 a.2.2.2.2.1 a.2.2.2.2.2.1 a.2.2.2.2.2.2.1 a.2.2.2.2.2.2.2.1 a.2.2.2.2.2.2.2.2.1 a.2.2.2.2.2.2.2.2.2.1 a.2.2.2.2.2.2.2.2.2.2.1 a.2.2.2.2.2.2.2.2.2.2.2.1 a.2.2.2.2.2.2.2.2.2.2.2.2.1 a.2.2.2.2.2.2.2.2.2.2.2.2.2.1 a.2.2.2.2.2.2.2.2.2.2.2.2.2.2.1 a.2.2.2.2.2.2.2.2.2.2.2.2.2.2.2.1 a.2.2.2.2.2.2.2.2.2.2.2.2.2.2.2.2.1 a.2.2.2.2.2.2.2.2.2.2.2.2.2.2.2.2.2.1 a.2.2.2.2.2.2.2.2.2.2.2.2.2.2.2.2.2.2.1 a.2.2.2.2.2.2.2.2.2.2.2.2.2.2.2.2.2.2.2.1) Y_4_15_0_0 (fun k a => by kernel_rfl) (fun Y a => by
 unfold S_4_15_0_0
 repeat' first | apply gdN | apply condN | (apply Bn_4_15_1_0 <;> intros) | rfl) (ok0 _)
noncomputable def g_4_15 {R : Type} : List CV → List Blk → (CV → List Blk → Option R) → Option R := evFnL sm_4 FU (ovr noO (evFn sm_4 fns FU 1)) (mkT (fB fns 15) [O_4_15_0_0]) (fO fns 15)
theorem g_4_15_ok {R : Type} (args : List CV) (hp : List Blk) (k : CV → List Blk → Option R) (r : R) (h : g_4_15 args hp k = some r) : evFn sm_4 fns FU 2 15 args hp k = some r := runG noO_ok (os := [O_4_15_0_0]) ⟨OK_4_15_0_0, trivial⟩ h
noncomputable def ov_4_4 {R : Type} : Nat → Option (List CV → List Blk → (CV → List Blk → Option R) → Option R) := fun f' => bif Nat.beq f' 15 then some g_4_15 else none
theorem ov_4_4_ok {R : Type} : OvrOK (R := R) ov_4_4 (evFn sm_4 fns FU 2) := by
 intro f' g h args hp k r hg
 dsimp only [ov_4_4] at h
 by_cases h15 : f' = 15
 · subst h15
   injection h with h
   subst h
   exact evFn_le 0 (g_4_15_ok _ _ _ _ hg)
 rw [nbeq_ne h15, cond_false] at h
 cases h
noncomputable def T_4_0 : PS := ⟨47, [(3, .kc (.ptr 0 [])), (4, .kc (.ptr 1 [])), (5, .kc (.ptr 2 [])), (7, .kc (.ptr 3 [])), (8, .kc (.ptr 4 [])), (9, .kc (.ptr 5 [])), (10, .hv (.int .i64)), (11, .hv (.int .i64))], [.mem (.hv Zy4_1), .mem (.hv Zy4_4), .mem (.hv Zy4_7), .mem (.hv Zy4_1), .mem (.hv Zy4_4), .mem (.hv Zy4_7)], 0⟩
inductive Sp.E_4_0 where
 | e0 (p7 : Int × Int × Unit)
 | e1
 | e2 (y34 : Zt4_5) (y35 : Zt4_3)
noncomputable def Sp.B_4_0 {R : Type} (r : Option E_4_0) (k0 : Zt4_5 → Option R) (k1 : Option R) (k2 : Zt4_5 → Zt4_3 → Option R) : Option R := match r with
 | none => none
 | some (.e0 p7) => k0 p7
 | some (.e1) => k1
 | some (.e2 y34 y35) => k2 y34 y35
noncomputable def Y_4_0 {R : Type} (k : Ex → St → Option R) : E_4_0 → Option R
 | .e0 p7 => k Ex.ret (sx 47 [(6, CV.bool (Ty.beq (Ty.pair (Ty.int i64) (Ty.pair (Ty.int u32) Ty.unit)) p7 (0, 0, PUnit.unit)))] [])
 | .e1 => k Ex.ret (sx 47 [(6, CV.bool false)] [])
 | .e2 y34 y35 => k Ex.ret (sx 47 [(6, CV.bool (Ty.beq (Ty.pair (Ty.int i64) (Ty.pair (Ty.int u32) Ty.unit)) y34 (y35.2.1)))] [])
noncomputable def Sp.S_4_0 {R : Type} (k : E_4_0 → Option R) (p0 p1 : Int) (p2 : Int × Int × Int × (Int × Int × List Int × (Int × List (List Int) × List (List Int) × Unit) × Unit) × Unit) (p3 : (List Int × List Int × Int × Unit) × List Int × Unit) (p4 : Int × Int × Unit) (p5 : Int × Int × Int × (Int × Int × List Int × (Int × List (List Int) × List (List Int) × Unit) × Unit) × Unit) (p6 : (List Int × List Int × Int × Unit) × List Int × Unit) (p7 : Int × Int × Unit) : Option R :=
 bif p1 != 0 then bif p0 == p1 then gd (p_38 p5) (bif (v_38 p5).1 then gd (p_28 p6 (([], [], 0, PUnit.unit), replicate 32 (0 :Int), PUnit.unit)) (bif (v_28 p6 (([], [], 0, PUnit.unit), replicate 32 (0 :Int), PUnit.unit)).1 then k (E_4_0.e0 p7) else k (E_4_0.e1)) else k (E_4_0.e1)) else k (E_4_0.e1) else gd (p_22 (p3, p4, 0, PUnit.unit) (p2.2.1)) (bif (v_22 (p3, p4, 0, PUnit.unit) (p2.2.1)).1.2.2.1 != 0 then bif (v_22 (p3, p4, 0, PUnit.unit) (p2.2.1)).1.2.2.1 != 18 then bif p0 == (v_22 (p3, p4, 0, PUnit.unit) (p2.2.1)).1.2.2.1 then gd (p_38 p5) (bif (v_38 p5).1 then gd (p_28 p6 (([], [], 0, PUnit.unit), replicate 32 (0 :Int), PUnit.unit)) (bif (v_28 p6 (([], [], 0, PUnit.unit), replicate 32 (0 :Int), PUnit.unit)).1 then k (E_4_0.e0 p7) else k (E_4_0.e1)) else k (E_4_0.e1)) else k (E_4_0.e1) else B_4_15_0_0 (J_4_15_0_0 p0 p2 p3 p4 p5 p6 p7 p5 p6 p7 ((v_22 (p3, p4, 0, PUnit.unit) (p2.2.1)).1) 0 0 0 0 0 (replicate 32 (0 :Int)) 0 [] []) (fun y28 y29 y30 y31 y32 y33 y34 y35 => k (E_4_0.e2 y34 y35)) fun y36 y37 y38 y39 y40 y41 => k (E_4_0.e1) else B_4_15_0_0 (J_4_15_0_0 p0 p2 p3 p4 p5 p6 p7 p5 p6 p7 ((v_22 (p3, p4, 0, PUnit.unit) (p2.2.1)).1) 0 0 0 0 0 (replicate 32 (0 :Int)) 0 [] []) (fun y42 y43 y44 y45 y46 y47 y48 y49 => k (E_4_0.e2 y48 y49)) fun y50 y51 y52 y53 y54 y55 => k (E_4_0.e1))
noncomputable def Sp.J_4_0 (p0 p1 : Int) (p2 : Int × Int × Int × (Int × Int × List Int × (Int × List (List Int) × List (List Int) × Unit) × Unit) × Unit) (p3 : (List Int × List Int × Int × Unit) × List Int × Unit) (p4 : Int × Int × Unit) (p5 : Int × Int × Int × (Int × Int × List Int × (Int × List (List Int) × List (List Int) × Unit) × Unit) × Unit) (p6 : (List Int × List Int × Int × Unit) × List Int × Unit) (p7 : Int × Int × Unit) : Option E_4_0 := S_4_0 some p0 p1 p2 p3 p4 p5 p6 p7
noncomputable def O_4_0 {R : Type} : Orc R := orL T_4_0 (fun a => J_4_0 a.1 a.2.1 a.2.2.1 a.2.2.2.1 a.2.2.2.2.1 a.2.2.2.2.2.1 a.2.2.2.2.2.2.1 a.2.2.2.2.2.2.2.1) Y_4_0
theorem OK_4_0 {R : Type} : okF (R := R) sm_4 2 (nf 4 0) O_4_0 := jp ov_4_4_ok (os := []) trivial T_4_0 (fun R k a => S_4_0 k a.1 a.2.1 a.2.2.1 a.2.2.2.1 a.2.2.2.2.1 a.2.2.2.2.2.1 a.2.2.2.2.2.2.1 a.2.2.2.2.2.2.2.1) Y_4_0 (fun k a => by kernel_rfl) (fun Y a => by
 unfold S_4_0
 repeat' first | apply gdN | apply condN | (apply Bn_4_15_0_0 <;> intros) | rfl) (ok0 _)
noncomputable def F_4 (a0 : (Int × (Int × (Int × ((Int × (Int × ((List Int) × ((Int × ((List (List Int)) × ((List (List Int)) × Unit))) × Unit)))) × Unit))))) (a1 : (((List Int) × ((List Int) × (Int × Unit))) × ((List Int) × Unit))) (a2 : (Int × (Int × Unit))) : Option (Bool) :=
 gd p_7 (bif !v_7.1 then some false else gd (p_8 a1) (bif (v_8 a1).1 then some true else gd (p_9 (a0.2.2.2.1)) (bif (v_9 (a0.2.2.2.1)).1 then some true else gd (p_19 a0 a1 a2) (gd (p_20 a0 a1 a2) (bif !(v_20 a0 a1 a2).1 then B_4_0 (J_4_0 ((v_19 a0 a1 a2).2.2.2.1) 1 a0 a1 a2 ((v_19 a0 a1 a2).1) ((v_19 a0 a1 a2).2.1) ((v_19 a0 a1 a2).2.2.1)) (fun y9 => some (Ty.beq (Ty.pair (Ty.int i64) (Ty.pair (Ty.int u32) Ty.unit)) y9 (0, 0, PUnit.unit))) (some false) fun y10 y11 => some (Ty.beq (Ty.pair (Ty.int i64) (Ty.pair (Ty.int u32) Ty.unit)) y10 (y11.2.1)) else bif a0.1 != 2 then B_4_0 (J_4_0 ((v_19 a0 a1 a2).2.2.2.1) 6 a0 a1 a2 ((v_19 a0 a1 a2).1) ((v_19 a0 a1 a2).2.1) ((v_19 a0 a1 a2).2.2.1)) (fun y12 => some (Ty.beq (Ty.pair (Ty.int i64) (Ty.pair (Ty.int u32) Ty.unit)) y12 (0, 0, PUnit.unit))) (some false) fun y13 y14 => some (Ty.beq (Ty.pair (Ty.int i64) (Ty.pair (Ty.int u32) Ty.unit)) y13 (y14.2.1)) else B_4_0 (J_4_0 ((v_19 a0 a1 a2).2.2.2.1) 0 a0 a1 a2 ((v_19 a0 a1 a2).1) ((v_19 a0 a1 a2).2.1) ((v_19 a0 a1 a2).2.2.1)) (fun y15 => some (Ty.beq (Ty.pair (Ty.int i64) (Ty.pair (Ty.int u32) Ty.unit)) y15 (0, 0, PUnit.unit))) (some false) fun y16 y17 => some (Ty.beq (Ty.pair (Ty.int i64) (Ty.pair (Ty.int u32) Ty.unit)) y16 (y17.2.1)))))))
theorem run_4 (a0 : (Int × (Int × (Int × ((Int × (Int × ((List Int) × ((Int × ((List (List Int)) × ((List (List Int)) × Unit))) × Unit)))) × Unit))))) (a1 : (((List Int) × ((List Int) × (Int × Unit))) × ((List Int) × Unit))) (a2 : (Int × (Int × Unit))) {b : Bool} (h : F_4 a0 a1 a2 = some b) : evFn sm_4 fns FU 3 4 (ofH A_4 (a0, a1, a2, ())) [] bk = some b := runG ov_4_4_ok (os := [O_4_0]) ⟨OK_4_0, trivial⟩ (Eq.trans (by kernel_rfl) h)
end
end Go.Ev
namespace Go.Proofs
open Go.Shelf
noncomputable def Tryz.clone90_ren : Go.Shelf.Ren := ⟨fun | 41 => 90 | n => n, fun | 22 => 31 | 23 => 37 | 4 => 4 | n => n, fun | n => n⟩
theorem Tryz.clone90 : Go.Proofs.SlLaysE0.n41 Tryz.prog Tryz.clone90_ren := {
 mixed := by kernel_rfl
 f41 := ⟨Tryz.f90.name, by decide, Tryz.func90.trans (congrArg some (by kernel_rfl))⟩
 t4 := Tryz.underlying4
 a4 := Tryz.isAgg4
 z4 := Tryz.sizeOf4
 v4 := Tryz.zeroValue4
 t22 := Tryz.underlying31
 a22 := Tryz.isAgg31
 z22 := Tryz.sizeOf31
 v22 := Tryz.zeroValue31 }
noncomputable def Tryz.clone91_ren : Go.Shelf.Ren := ⟨fun | 41 => 91 | n => n, fun | 22 => 32 | 23 => 3 | 4 => 4 | n => n, fun | n => n⟩
theorem Tryz.clone91 : Go.Proofs.SlLaysE0.n41 Tryz.prog Tryz.clone91_ren := {
 mixed := by kernel_rfl
 f41 := ⟨Tryz.f91.name, by decide, Tryz.func91.trans (congrArg some (by kernel_rfl))⟩
 t4 := Tryz.underlying4
 a4 := Tryz.isAgg4
 z4 := Tryz.sizeOf4
 v4 := Tryz.zeroValue4
 t22 := Tryz.underlying32
 a22 := Tryz.isAgg32
 z22 := Tryz.sizeOf32
 v22 := Tryz.zeroValue32 }
end Go.Proofs
namespace Go.Ev
open Go Go.Proofs Go.RowKit
set_option maxRecDepth 100000
set_option maxHeartbeats 4000000
theorem info90 : ∃ i, Tryz.prog.info? 37 = some i ∧ i.zero = some (.int .u32 0) ∧ i.size = 1 ∧ i.bytes = 4 := ⟨_, rfl, by kernel_rfl, by kernel_rfl, by kernel_rfl⟩
theorem sok_90 : SummOK Tryz.prog 90 (vecS (.int .u32) 37 4) := by
 obtain ⟨i, hi, h0, h1, h2⟩ := info90
 exact clone_vec (by kernel_rfl) (by decide)
   (fun b off n c news w hl hn hb hc h3 => AnyE.slices_Clone Tryz.clone90 i _ 1 4 hi h0 h1 h2 (by kernel_rfl) (by decide) Tryz.sizeOf37 b off n c news w hl hn hb hc h3)
   (fun n c w => AnyE.slices_Clone_nil Tryz.clone90 n c w)
   (fun a c w => clone_zero Tryz.clone90 i _ 1 4 hi h0 h1 h2 (by kernel_rfl) (by decide) Tryz.sizeOf37 a c w)
theorem info91 : ∃ i, Tryz.prog.info? 3 = some i ∧ i.zero = some (.int .i64 0) ∧ i.size = 1 ∧ i.bytes = 8 := ⟨_, rfl, by kernel_rfl, by kernel_rfl, by kernel_rfl⟩
theorem sok_91 : SummOK Tryz.prog 91 (vecS (.int .i64) 3 8) := by
 obtain ⟨i, hi, h0, h1, h2⟩ := info91
 exact clone_vec (by kernel_rfl) (by decide)
   (fun b off n c news w hl hn hb hc h3 => AnyE.slices_Clone Tryz.clone91 i _ 1 8 hi h0 h1 h2 (by kernel_rfl) (by decide) Tryz.sizeOf3 b off n c news w hl hn hb hc h3)
   (fun n c w => AnyE.slices_Clone_nil Tryz.clone91 n c w)
   (fun a c w => clone_zero Tryz.clone91 i _ 1 8 hi h0 h1 h2 (by kernel_rfl) (by decide) Tryz.sizeOf3 a c w)
noncomputable def grow147_ren : Go.Shelf.Ren := ⟨fun | 4 => 147 | n => n, fun | 25 => 37 | 22 => 31 | 20 => 20 | n => n, fun | n => n⟩
theorem grow147_lay : Go.Proofs.Lays8.n4 Tryz.prog grow147_ren := {
 mixed := by kernel_rfl
 f4 := ⟨Tryz.f147.name, by decide, Tryz.func147.trans (congrArg some (by kernel_rfl))⟩
 t0 := Tryz.underlying0
 a0 := Tryz.isAgg0
 z0 := Tryz.sizeOf0
 v0 := Tryz.zeroValue0
 t3 := Tryz.underlying3
 a3 := Tryz.isAgg3
 z3 := Tryz.sizeOf3
 v3 := Tryz.zeroValue3
 t4 := Tryz.underlying4
 a4 := Tryz.isAgg4
 z4 := Tryz.sizeOf4
 v4 := Tryz.zeroValue4
 t9 := Tryz.underlying9
 a9 := Tryz.isAgg9
 z9 := Tryz.sizeOf9
 v9 := Tryz.zeroValue9
 t20 := Tryz.underlying20
 a20 := Tryz.isAgg20
 z20 := Tryz.sizeOf20
 v20 := Tryz.zeroValue20
 t22 := Tryz.underlying31
 a22 := Tryz.isAgg31
 z22 := Tryz.sizeOf31
 v22 := Tryz.zeroValue31 }
theorem growinfo147 : ∃ i, Tryz.prog.info? 37 = some i ∧ i.zero = some (.int .u32 0) ∧ i.size = 1 ∧ i.bytes = 4 := ⟨_, rfl, by kernel_rfl, by kernel_rfl, by kernel_rfl⟩
theorem sok_147 : SummOK Tryz.prog 147 (growS (.int .u32) 37 4) := by
 obtain ⟨i, hi, h0, h1, h2⟩ := growinfo147
 exact grow_vec (by kernel_rfl) (by decide) (fun n w hn hb => grow_calls grow147_lay i _ 1 4 hi h0 h1 h2 (by decide) (by decide) (by rfl) n w hn hb)
theorem sok_74 : SummOK Tryz.prog 74 s_74 := sokN hm0 run_74 trivial
theorem sok_75 : SummOK Tryz.prog 75 s_75 := sokN hm0 run_75 trivial
theorem sok_29 : SummOK Tryz.prog 29 s_29 := sokN hm0 run_29 ⟨sok_74, sok_75, trivial⟩
theorem sok_83 : SummOK Tryz.prog 83 s_83 := sokN hm0 run_83 trivial
theorem sok_119 : SummOK Tryz.prog 119 s_119 := sokN hm0 run_119 trivial
theorem sok_81 : SummOK Tryz.prog 81 s_81 := sokS hm0 run_81 ⟨sok_83, sok_119, trivial⟩
theorem sok_40 : SummOK Tryz.prog 40 s_40 := sokN hm0 run_40 ⟨sok_81, trivial⟩
theorem sok_43 : SummOK Tryz.prog 43 s_43 := sokN hm0 run_43 trivial
theorem sok_37 : SummOK Tryz.prog 37 s_37 := sokN hm0 run_37 ⟨sok_40, sok_43, trivial⟩
theorem sok_39 : SummOK Tryz.prog 39 s_39 := sokN hm0 run_39 trivial
theorem sok_41 : SummOK Tryz.prog 41 s_41 := sokN hm0 run_41 trivial
theorem sok_42 : SummOK Tryz.prog 42 s_42 := sokS hm0 run_42 trivial
theorem sok_109 : SummOK Tryz.prog 109 s_109 := sokS hm0 run_109 trivial
theorem sok_120 : SummOK Tryz.prog 120 s_120 := sokN hm0 run_120 trivial
theorem sok_135 : SummOK Tryz.prog 135 s_135 := sokS hm0 run_135 trivial
theorem sok_136 : SummOK Tryz.prog 136 s_136 := sokS hm0 run_136 trivial
theorem sok_121 : SummOK Tryz.prog 121 s_121 := sokS hm0 run_121 ⟨sok_135, sok_136, sok_145, trivial⟩
theorem sok_82 : SummOK Tryz.prog 82 s_82 := sokS hm0 run_82 ⟨sok_29, sok_109, sok_120, sok_121, trivial⟩
theorem sok_106 : SummOK Tryz.prog 106 s_106 := sokN hm0 run_106 ⟨sok_109, trivial⟩
theorem sok_84 : SummOK Tryz.prog 84 s_84 := sokS hm0 run_84 trivial
theorem sok_137 : SummOK Tryz.prog 137 s_137 := sokN hm0 run_137 trivial
theorem sok_148 : SummOK Tryz.prog 148 s_148 := sokN hm0 run_148 trivial
theorem sok_146 : SummOK Tryz.prog 146 s_146 := sokN hm0 run_146 ⟨sok_148, trivial⟩
theorem sok_122 : SummOK Tryz.prog 122 s_122 := sokN hm0 run_122 ⟨sok_119, sok_137, sok_146, trivial⟩
theorem sok_85 : SummOK Tryz.prog 85 s_85 := sokN hm0 run_85 ⟨sok_122, trivial⟩
theorem sok_86 : SummOK Tryz.prog 86 s_86 := sokN hm0 run_86 ⟨sok_122, trivial⟩
theorem sok_87 : SummOK Tryz.prog 87 s_87 := sokN hm0 run_87 ⟨sok_122, trivial⟩
theorem sok_45 : SummOK Tryz.prog 45 s_45 := sokN hm0 run_45 ⟨sok_83, sok_84, sok_85, sok_86, sok_87, trivial⟩
theorem sok_140 : SummOK Tryz.prog 140 s_140 := sokS hm0 run_140 ⟨sok_147, trivial⟩
theorem sok_123 : SummOK Tryz.prog 123 s_123 := sokN hm0 run_123 ⟨sok_45, sok_82, sok_109, sok_122, sok_135, sok_140, trivial⟩
theorem sok_88 : SummOK Tryz.prog 88 s_88 := sokN hm0 run_88 ⟨sok_29, sok_82, sok_106, sok_123, trivial⟩
theorem sok_46 : SummOK Tryz.prog 46 s_46 := sokN hm0 run_46 ⟨sok_88, trivial⟩
theorem sok_44 : SummOK Tryz.prog 44 s_44 := sokN hm0 run_44 ⟨sok_46, sok_82, trivial⟩
theorem sok_10 : SummOK Tryz.prog 10 s_10 := sokS hm0 run_10 ⟨sok_29, sok_37, sok_39, sok_40, sok_41, sok_42, sok_43, sok_44, sok_45, sok_46, trivial⟩
theorem sok_73 : SummOK Tryz.prog 73 s_73 := sokN hm0 run_73 trivial
theorem sok_28 : SummOK Tryz.prog 28 s_28 := sokN hm0 run_28 ⟨sok_73, trivial⟩
theorem sok_143 : SummOK Tryz.prog 143 s_143 := sokN hm0 run_143 trivial
theorem sok_144 : SummOK Tryz.prog 144 s_144 := sokN hm0 run_144 trivial
theorem sok_133 : SummOK Tryz.prog 133 s_133 := sokN hm0 run_133 ⟨sok_143, sok_144, trivial⟩
theorem sok_117 : SummOK Tryz.prog 117 s_117 := sokS hm0 run_117 ⟨sok_133, trivial⟩
theorem sok_79 : SummOK Tryz.prog 79 s_79 := sokS hm0 run_79 ⟨sok_117, trivial⟩
theorem sok_34 : SummOK Tryz.prog 34 s_34 := sokS hm0 run_34 ⟨sok_75, sok_79, trivial⟩
theorem sok_35 : SummOK Tryz.prog 35 s_35 := sokS hm0 run_35 trivial
theorem sok_36 : SummOK Tryz.prog 36 s_36 := sokN hm0 run_36 trivial
theorem sok_118 : SummOK Tryz.prog 118 s_118 := sokN hm0 run_118 trivial
theorem sok_80 : SummOK Tryz.prog 80 s_80 := sokN hm0 run_80 ⟨sok_118, trivial⟩
theorem sok_38 : SummOK Tryz.prog 38 s_38 := sokN hm0 run_38 ⟨sok_80, trivial⟩
theorem sok_7 : SummOK Tryz.prog 7 s_7 := sokN hm0 run_7 ⟨sok_10, sok_28, sok_34, sok_35, sok_36, sok_37, sok_38, trivial⟩
theorem sok_8 : SummOK Tryz.prog 8 s_8 := sokN hm0 run_8 trivial
theorem sok_9 : SummOK Tryz.prog 9 s_9 := sokN hm0 run_9 trivial
theorem sok_64 : SummOK Tryz.prog 64 s_64 := sokN hm0 run_64 ⟨sok_29, sok_37, sok_39, sok_40, sok_41, sok_43, trivial⟩
theorem sok_124 : SummOK Tryz.prog 124 s_124 := sokN hm0 run_124 ⟨sok_74, trivial⟩
theorem sok_93 : SummOK Tryz.prog 93 s_93 := sokS hm0 run_93 ⟨sok_90, sok_91, sok_124, trivial⟩
theorem sok_105 : SummOK Tryz.prog 105 s_105 := sokN hm0 run_105 ⟨sok_29, sok_120, sok_123, trivial⟩
theorem sok_65 : SummOK Tryz.prog 65 s_65 := sokS hm0 run_65 ⟨sok_36, sok_44, sok_82, sok_93, sok_105, sok_106, trivial⟩
theorem sok_19 : SummOK Tryz.prog 19 s_19 := sokS hm0 run_19 ⟨sok_42, sok_64, sok_65, trivial⟩
theorem sok_95 : SummOK Tryz.prog 95 s_95 := sokN hm0 run_95 trivial
theorem sok_53 : SummOK Tryz.prog 53 s_53 := sokN hm0 run_53 ⟨sok_95, trivial⟩
theorem sok_11 : SummOK Tryz.prog 11 s_11 := sokN hm0 run_11 ⟨sok_38, sok_53, trivial⟩
theorem sok_96 : SummOK Tryz.prog 96 s_96 := sokN hm0 run_96 trivial
theorem sok_54 : SummOK Tryz.prog 54 s_54 := sokN hm0 run_54 ⟨sok_96, trivial⟩
theorem sok_55 : SummOK Tryz.prog 55 s_55 := sokN hm0 run_55 trivial
theorem sok_12 : SummOK Tryz.prog 12 s_12 := sokN hm0 run_12 ⟨sok_54, sok_55, trivial⟩
theorem sok_13 : SummOK Tryz.prog 13 s_13 := sokN hm0 run_13 trivial
theorem sok_24 : SummOK Tryz.prog 24 s_24 := sokN hm0 run_24 ⟨sok_53, trivial⟩
theorem sok_20 : SummOK Tryz.prog 20 s_20 := sokN hm0 run_20 ⟨sok_11, sok_12, sok_13, sok_24, trivial⟩
theorem sok_30 : SummOK Tryz.prog 30 s_30 := sokS hm0 run_30 trivial
theorem sok_97 : SummOK Tryz.prog 97 s_97 := sokS hm0 run_97 trivial
theorem sok_131 : SummOK Tryz.prog 131 s_131 := sokS hm0 run_131 trivial
theorem sok_141 : SummOK Tryz.prog 141 s_141 := sokN hm0 run_141 trivial
theorem sok_142 : SummOK Tryz.prog 142 s_142 := sokN hm0 run_142 trivial
theorem sok_132 : SummOK Tryz.prog 132 s_132 := sokN hm0 run_132 ⟨sok_141, sok_142, trivial⟩
theorem sok_116 : SummOK Tryz.prog 116 s_116 := sokN hm0 run_116 ⟨sok_131, sok_132, trivial⟩
theorem sok_98 : SummOK Tryz.prog 98 s_98 := sokN hm0 run_98 ⟨sok_116, trivial⟩
theorem sok_99 : SummOK Tryz.prog 99 s_99 := sokN hm0 run_99 ⟨sok_116, trivial⟩
theorem sok_100 : SummOK Tryz.prog 100 s_100 := sokN hm0 run_100 ⟨sok_116, trivial⟩
theorem sok_57 : SummOK Tryz.prog 57 s_57 := sokN hm0 run_57 ⟨sok_95, sok_97, sok_98, sok_99, sok_100, trivial⟩
theorem sok_107 : SummOK Tryz.prog 107 s_107 := sokN hm0 run_107 trivial
theorem sok_113 : SummOK Tryz.prog 113 s_113 := sokN hm0 run_113 trivial
theorem sok_114 : SummOK Tryz.prog 114 s_114 := sokS hm0 run_114 trivial
theorem sok_77 : SummOK Tryz.prog 77 s_77 := sokS hm0 run_77 ⟨sok_12, sok_30, sok_107, sok_113, sok_114, trivial⟩
theorem sok_78 : SummOK Tryz.prog 78 s_78 := sokN hm0 run_78 ⟨sok_116, trivial⟩
theorem sok_32 : SummOK Tryz.prog 32 s_32 := sokN hm0 run_32 ⟨sok_30, sok_57, sok_77, sok_78, trivial⟩
theorem sok_104 : SummOK Tryz.prog 104 s_104 := sokN hm0 run_104 ⟨sok_30, sok_32, trivial⟩
theorem sok_63 : SummOK Tryz.prog 63 s_63 := sokN hm0 run_63 ⟨sok_12, sok_30, sok_104, trivial⟩
theorem sok_56 : SummOK Tryz.prog 56 s_56 := sokN hm0 run_56 ⟨sok_30, sok_63, trivial⟩
theorem sok_101 : SummOK Tryz.prog 101 s_101 := sokN hm0 run_101 trivial
theorem sok_103 : SummOK Tryz.prog 103 s_103 := sokS hm0 run_103 ⟨sok_13, sok_54, sok_101, trivial⟩
theorem sok_66 : SummOK Tryz.prog 66 s_66 := sokS hm0 run_66 ⟨sok_12, sok_13, sok_30, sok_32, sok_56, sok_103, sok_107, trivial⟩
theorem sok_22 : SummOK Tryz.prog 22 s_22 := sokS hm0 run_22 ⟨sok_66, trivial⟩
theorem sok_59 : SummOK Tryz.prog 59 s_59 := sokN hm0 run_59 ⟨sok_80, trivial⟩
theorem call_4 {R : Type} (n base : Nat) : CallOK Tryz.prog base (evFn (R := R) sm_4 fns FU n) := callG hm0 (l := [(7, s_7), (8, s_8), (9, s_9), (19, s_19), (20, s_20), (22, s_22), (28, s_28), (38, s_38), (59, s_59)]) ⟨sok_7, sok_8, sok_9, sok_19, sok_20, sok_22, sok_28, sok_38, sok_59, trivial⟩ n base
end Go.Ev
