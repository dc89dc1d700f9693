/- Helpers: functions of the program as Lean functions, and what they compute. No condition. -/
import Derived.Test.YtaaagikcbnbncaaGreatG3P1
import Derived.Test.YtaaagikcbnbncaaGreatG3P2
import Derived.Test.YtaaagikcbnbncaaGreatProg
import Derived.Test.YtaaagikcbnbncaaGreatE3P2
import Derived.Test.YtaaagikcbnbncaaGreatG3P0
set_option maxRecDepth 10000
set_option linter.unusedVariables false
set_option linter.unusedSimpArgs false
open Go.IntKind (wrap i64 i32 i16 i8 u64 u32 u16 u8)
open List (getD length take drop replicate)
open Int (toNat)
open Go.Ev.Sp
namespace Go.Ev
open Go
set_option maxRecDepth 100000
set_option maxHeartbeats 4000000
set_option linter.unusedVariables false
noncomputable section
abbrev A_104 : List Ty := [(.pair (.pair (.slice (.int .u32)) (.pair (.slice (.int .i64)) (.pair (.int .i64) .unit))) (.pair (.arr 32 (.int .u8)) .unit)), (.int .i64)]
abbrev R_104 : List Ty := [.bool]
noncomputable def sm_104 : Nat → Option Summ := smL [(30, s_30), (32, s_32)]
noncomputable def F_104 (a0 : (((List Int) × ((List Int) × (Int × Unit))) × ((List Int) × Unit))) (a1 : Int) : Option (Bool × Unit) :=
 gd (p_30 a0 a1) (gd (inB 0 (length ((v_30 a0 a1).1))) (bif getD ((v_30 a0 a1).1) 0 (0 :Int) == (0 :Int) then gd (p_32 a0 a1) (some ((v_32 a0 a1).1, PUnit.unit)) else some (false, PUnit.unit)))
noncomputable def Sp.p_104 (a0 : (((List Int) × ((List Int) × (Int × Unit))) × ((List Int) × Unit))) (a1 : Int) : Bool := (F_104 a0 a1).isSome
noncomputable def Sp.v_104 (a0 : (((List Int) × ((List Int) × (Int × Unit))) × ((List Int) × Unit))) (a1 : Int) : Bool × Unit := (F_104 a0 a1).getD (dfH R_104)
noncomputable def s_104 : Summ := shN A_104 R_104 (fun x => p_104 x.1 x.2.1) (fun x => v_104 x.1 x.2.1)
theorem pv_104 (a0 : (((List Int) × ((List Int) × (Int × Unit))) × ((List Int) × Unit))) (a1 : Int) {y : Bool × Unit} (h : F_104 a0 a1 = some y) : p_104 a0 a1 = true ∧ v_104 a0 a1 = y := pvG h
theorem run_104 (x : HDen A_104) (y : HDen R_104) (h : F_104 x.1 x.2.1 = some y) : rnF sm_104 1 104 A_104 R_104 x y := runG noO_ok (os := []) trivial (Eq.trans (by kernel_rfl) h)
end
noncomputable section
abbrev A_63 : List Ty := [(.pair (.pair (.slice (.int .u32)) (.pair (.slice (.int .i64)) (.pair (.int .i64) .unit))) (.pair (.arr 32 (.int .u8)) .unit))]
abbrev R_63 : List Ty := [(.int .i64), (.int .i64)]
noncomputable def sm_63 : Nat → Option Summ := smL [(12, s_12), (30, s_30), (104, s_104)]
noncomputable def T_63_0 : PS := ⟨35, [(1, .kc (.ptr 0 [])), (4, .hv .bool), (5, .hv .bool)], [.mem (.hv (.pair (.pair (.slice (.int .u32)) (.pair (.slice (.int .i64)) (.pair (.int .i64) .unit))) (.pair (.arr 32 (.int .u8)) .unit)))], 0⟩
inductive Sp.E_63_0 where
 | e0
 | e1
noncomputable def Sp.B_63_0 {R : Type} (r : Option E_63_0) (k0 k1 : Option R) : Option R := match r with
 | none => none
 | some (.e0) => k0
 | some (.e1) => k1
noncomputable def Y_63_0 {R : Type} (k : Ex → St → Option R) : E_63_0 → Option R
 | .e0 => k Ex.ret (sx 35 [(2, CV.int i64 1), (3, CV.int i64 0)] [])
 | .e1 => k Ex.ret (sx 35 [(2, CV.int i64 0), (3, CV.int i64 0)] [])
noncomputable def Sp.S_63_0 {R : Type} (k : E_63_0 → Option R) (p0 p1 : Bool) (p2 : (List Int × List Int × Int × Unit) × List Int × Unit) : Option R :=
 bif p1 then bif !p0 then k (E_63_0.e0) else gd (p_30 p2 1) (gd (inB 1 (length ((v_30 p2 1).1))) (gd (p_30 p2 0) (gd (inB 1 (length ((v_30 p2 0).1))) (bif decide (getD ((v_30 p2 1).1) 1 0 > getD ((v_30 p2 0).1) 1 0) then k (E_63_0.e0) else k (E_63_0.e1))))) else k (E_63_0.e1)
noncomputable def Sp.J_63_0 (p0 p1 : Bool) (p2 : (List Int × List Int × Int × Unit) × List Int × Unit) : Option E_63_0 := S_63_0 some p0 p1 p2
noncomputable def O_63_0 {R : Type} : Orc R := orL T_63_0 (fun a => J_63_0 a.1 a.2.1 a.2.2.1) Y_63_0
theorem OK_63_0 {R : Type} : okF (R := R) sm_63 0 (nf 63 0) O_63_0 := jp noO_ok (os := []) trivial T_63_0 (fun R k a => S_63_0 k a.1 a.2.1 a.2.2.1) Y_63_0 (fun k a => by kernel_rfl) (fun Y a => by
 unfold S_63_0
 repeat' first | apply gdN | apply condN | rfl) (ok0 _)
noncomputable def F_63 (a0 : (((List Int) × ((List Int) × (Int × Unit))) × ((List Int) × Unit))) : Option (Int × Int × Unit) :=
 gd (p_12 a0) (bif !(v_12 a0).1 then some (0, 1, PUnit.unit) else gd (p_104 a0 0) (gd (p_104 a0 1) (bif !(v_104 a0 0).1 then bif !(v_104 a0 1).1 then some (0, 7, PUnit.unit) else B_63_0 (J_63_0 ((v_104 a0 0).1) ((v_104 a0 1).1) a0) (some (1, 0, PUnit.unit)) (some (0, 0, PUnit.unit)) else B_63_0 (J_63_0 ((v_104 a0 0).1) ((v_104 a0 1).1) a0) (some (1, 0, PUnit.unit)) (some (0, 0, PUnit.unit)))))
noncomputable def Sp.p_63 (a0 : (((List Int) × ((List Int) × (Int × Unit))) × ((List Int) × Unit))) : Bool := (F_63 a0).isSome
noncomputable def Sp.v_63 (a0 : (((List Int) × ((List Int) × (Int × Unit))) × ((List Int) × Unit))) : Int × Int × Unit := (F_63 a0).getD (dfH R_63)
noncomputable def s_63 : Summ := shN A_63 R_63 (fun x => p_63 x.1) (fun x => v_63 x.1)
theorem pv_63 (a0 : (((List Int) × ((List Int) × (Int × Unit))) × ((List Int) × Unit))) {y : Int × Int × Unit} (h : F_63 a0 = some y) : p_63 a0 = true ∧ v_63 a0 = y := pvG h
theorem run_63 (x : HDen A_63) (y : HDen R_63) (h : F_63 x.1 = some y) : rnF sm_63 1 63 A_63 R_63 x y := runG noO_ok (os := [O_63_0]) ⟨OK_63_0, trivial⟩ (Eq.trans (by kernel_rfl) h)
end
noncomputable section
abbrev A_18 : List Ty := [(.pair (.pair (.slice (.int .u32)) (.pair (.slice (.int .i64)) (.pair (.int .i64) .unit))) (.pair (.arr 32 (.int .u8)) .unit))]
abbrev R_18 : List Ty := [(.int .i64)]
noncomputable def sm_18 : Nat → Option Summ := smL [(63, s_63)]
noncomputable def F_18 (a0 : (((List Int) × ((List Int) × (Int × Unit))) × ((List Int) × Unit))) : Option (Int × Unit) :=
 gd (p_63 a0) (bif (v_63 a0).2.1 != 0 then some (0, PUnit.unit) else some (wrap i64 (1 - (v_63 a0).1), PUnit.unit))
noncomputable def Sp.p_18 (a0 : (((List Int) × ((List Int) × (Int × Unit))) × ((List Int) × Unit))) : Bool := (F_18 a0).isSome
noncomputable def Sp.v_18 (a0 : (((List Int) × ((List Int) × (Int × Unit))) × ((List Int) × Unit))) : Int × Unit := (F_18 a0).getD (dfH R_18)
noncomputable def s_18 : Summ := shN A_18 R_18 (fun x => p_18 x.1) (fun x => v_18 x.1)
theorem pv_18 (a0 : (((List Int) × ((List Int) × (Int × Unit))) × ((List Int) × Unit))) {y : Int × Unit} (h : F_18 a0 = some y) : p_18 a0 = true ∧ v_18 a0 = y := pvG h
theorem run_18 (x : HDen A_18) (y : HDen R_18) (h : F_18 x.1 = some y) : rnF sm_18 1 18 A_18 R_18 x y := runG noO_ok (os := []) trivial (Eq.trans (by kernel_rfl) h)
end
noncomputable section
abbrev A_24 : List Ty := [(.pair (.int .i64) (.pair (.int .i64) (.pair (.arr 32 (.int .u8)) (.pair (.pair (.int .i64) (.pair (.slice (.arr 32 (.int .u8))) (.pair (.slice (.arr 32 (.int .u8))) .unit))) .unit)))), (.pair (.pair (.slice (.int .u32)) (.pair (.slice (.int .i64)) (.pair (.int .i64) .unit))) (.pair (.arr 32 (.int .u8)) .unit))]
abbrev R_24 : List Ty := [.bool]
noncomputable def sm_24 : Nat → Option Summ := smL [(53, s_53)]
noncomputable def F_24 (a0 : (Int × (Int × ((List Int) × ((Int × ((List (List Int)) × ((List (List Int)) × Unit))) × Unit))))) (a1 : (((List Int) × ((List Int) × (Int × Unit))) × ((List Int) × Unit))) : Option (Bool × Unit) :=
 gd (p_53 a0 (wrap i64 (wrap i64 (Int.tdiv (↑(length (a1.1.1)) : Int) 2) - 564))) (some ((v_53 a0 (wrap i64 (wrap i64 (Int.tdiv (↑(length (a1.1.1)) : Int) 2) - 564))).1, PUnit.unit))
noncomputable def Sp.p_24 (a0 : (Int × (Int × ((List Int) × ((Int × ((List (List Int)) × ((List (List Int)) × Unit))) × Unit))))) (a1 : (((List Int) × ((List Int) × (Int × Unit))) × ((List Int) × Unit))) : Bool := (F_24 a0 a1).isSome
noncomputable def Sp.v_24 (a0 : (Int × (Int × ((List Int) × ((Int × ((List (List Int)) × ((List (List Int)) × Unit))) × Unit))))) (a1 : (((List Int) × ((List Int) × (Int × Unit))) × ((List Int) × Unit))) : Bool × Unit := (F_24 a0 a1).getD (dfH R_24)
noncomputable def s_24 : Summ := shN A_24 R_24 (fun x => p_24 x.1 x.2.1) (fun x => v_24 x.1 x.2.1)
theorem pv_24 (a0 : (Int × (Int × ((List Int) × ((Int × ((List (List Int)) × ((List (List Int)) × Unit))) × Unit))))) (a1 : (((List Int) × ((List Int) × (Int × Unit))) × ((List Int) × Unit))) {y : Bool × Unit} (h : F_24 a0 a1 = some y) : p_24 a0 a1 = true ∧ v_24 a0 a1 = y := pvG h
theorem run_24 (x : HDen A_24) (y : HDen R_24) (h : F_24 x.1 x.2.1 = some y) : rnF sm_24 1 24 A_24 R_24 x y := runG noO_ok (os := []) trivial (Eq.trans (by kernel_rfl) h)
end
noncomputable section
abbrev A_56 : List Ty := [(.pair (.pair (.slice (.int .u32)) (.pair (.slice (.int .i64)) (.pair (.int .i64) .unit))) (.pair (.arr 32 (.int .u8)) .unit))]
abbrev R_56 : List Ty := [(.int .i64)]
noncomputable def sm_56 : Nat → Option Summ := smL [(30, s_30), (63, s_63)]
noncomputable def F_56 (a0 : (((List Int) × ((List Int) × (Int × Unit))) × ((List Int) × Unit))) : Option (Int × Unit) :=
 gd (p_63 a0) (bif (v_63 a0).2.1 != 0 then some (0, PUnit.unit) else gd (p_30 a0 ((v_63 a0).1)) (gd (inB 1 (length ((v_30 a0 ((v_63 a0).1)).1))) (some (wrap i64 (getD ((v_30 a0 ((v_63 a0).1)).1) 1 0), PUnit.unit))))
noncomputable def Sp.p_56 (a0 : (((List Int) × ((List Int) × (Int × Unit))) × ((List Int) × Unit))) : Bool := (F_56 a0).isSome
noncomputable def Sp.v_56 (a0 : (((List Int) × ((List Int) × (Int × Unit))) × ((List Int) × Unit))) : Int × Unit := (F_56 a0).getD (dfH R_56)
noncomputable def s_56 : Summ := shN A_56 R_56 (fun x => p_56 x.1) (fun x => v_56 x.1)
theorem pv_56 (a0 : (((List Int) × ((List Int) × (Int × Unit))) × ((List Int) × Unit))) {y : Int × Unit} (h : F_56 a0 = some y) : p_56 a0 = true ∧ v_56 a0 = y := pvG h
theorem run_56 (x : HDen A_56) (y : HDen R_56) (h : F_56 x.1 = some y) : rnF sm_56 1 56 A_56 R_56 x y := runG noO_ok (os := []) trivial (Eq.trans (by kernel_rfl) h)
end
noncomputable section
abbrev A_58 : List Ty := [(.pair (.pair (.slice (.int .u32)) (.pair (.slice (.int .i64)) (.pair (.int .i64) .unit))) (.pair (.arr 32 (.int .u8)) .unit)), (.int .i64)]
abbrev R_58 : List Ty := [.bool]
noncomputable def sm_58 : Nat → Option Summ := smL []
noncomputable def T_58_0 : PS := ⟨31, [(1, .hv (.int .i64)), (2, .kc (.ptr 0 [])), (5, .hv (.int .i64)), (6, .hv (.int .i64))], [.mem (.hv (.pair (.pair (.slice (.int .u32)) (.pair (.slice (.int .i64)) (.pair (.int .i64) .unit))) (.pair (.arr 32 (.int .u8)) .unit)))], 0⟩
inductive Sp.E_58_0 where
 | e0
 | e1
noncomputable def Sp.B_58_0 {R : Type} (r : Option E_58_0) (k0 k1 : Option R) : Option R := match r with
 | none => none
 | some (.e0) => k0
 | some (.e1) => k1
noncomputable def Y_58_0 {R : Type} (k : Ex → St → Option R) : E_58_0 → Option R
 | .e0 => k Ex.ret (sx 31 [(4, CV.bool true)] [])
 | .e1 => k (Ex.exit 0) (sx 31 [] [])
noncomputable def Sp.S_58_0 {R : Type} (K : Int → Int → Int → ((List Int × List Int × Int × Unit) × List Int × Unit) → Option R) (k : E_58_0 → Option R) (p0 p1 p2 : Int) (p3 : (List Int × List Int × Int × Unit) × List Int × Unit) : Option R :=
 bif decide (p2 < p1) then gd (inB (wrap i64 (wrap i64 (p0 * p1) + p2)) (length (p3.1.2.1))) (bif getD (p3.1.2.1) (toNat (wrap i64 (wrap i64 (p0 * p1) + p2))) 0 == p3.1.2.2.1 then k (E_58_0.e0) else K p0 p1 (wrap i64 (p2 + 1)) p3) else k (E_58_0.e1)
noncomputable def Sp.L_58_0 : Nat → Int → Int → Int → ((List Int × List Int × Int × Unit) × List Int × Unit) → Option E_58_0
 | 0, _, _, _, _ => none
 | m + 1, p0, p1, p2, p3 => S_58_0 (L_58_0 m) some p0 p1 p2 p3
noncomputable def l_58_0 (m : Nat) (a : T_58_0.E) : Option E_58_0 := L_58_0 m a.1 a.2.1 a.2.2.1 a.2.2.2.1
noncomputable def O_58_0 {R : Type} : Orc R := orL T_58_0 (l_58_0 FU) Y_58_0
theorem OK_58_0 {R : Type} : okF (R := R) sm_58 0 (nf 58 0) O_58_0 := lp0 T_58_0 l_58_0 (fun R K k a => S_58_0 (fun p0 p1 p2 p3 => K (p0, p1, p2, p3, ())) k a.1 a.2.1 a.2.2.1 a.2.2.2.1) Y_58_0 (fun _ _ _ => by kernel_rfl) (fun _ _ _ => by
 unfold S_58_0
 repeat' first | apply gdN | apply condN | rfl) (ok0 _)
noncomputable def F_58 (a0 : (((List Int) × ((List Int) × (Int × Unit))) × ((List Int) × Unit))) (a1 : Int) : Option (Bool × Unit) :=
 B_58_0 (L_58_0 4611686018427387904 a1 (wrap i64 (Int.tdiv (↑(length (a0.1.2.1)) : Int) 2)) 0 a0) (some (true, PUnit.unit)) (some (false, PUnit.unit))
noncomputable def Sp.p_58 (a0 : (((List Int) × ((List Int) × (Int × Unit))) × ((List Int) × Unit))) (a1 : Int) : Bool := (F_58 a0 a1).isSome
noncomputable def Sp.v_58 (a0 : (((List Int) × ((List Int) × (Int × Unit))) × ((List Int) × Unit))) (a1 : Int) : Bool × Unit := (F_58 a0 a1).getD (dfH R_58)
noncomputable def s_58 : Summ := shN A_58 R_58 (fun x => p_58 x.1 x.2.1) (fun x => v_58 x.1 x.2.1)
theorem pv_58 (a0 : (((List Int) × ((List Int) × (Int × Unit))) × ((List Int) × Unit))) (a1 : Int) {y : Bool × Unit} (h : F_58 a0 a1 = some y) : p_58 a0 a1 = true ∧ v_58 a0 a1 = y := pvG h
theorem run_58 (x : HDen A_58) (y : HDen R_58) (h : F_58 x.1 x.2.1 = some y) : rnF sm_58 1 58 A_58 R_58 x y := runG noO_ok (os := [O_58_0]) ⟨OK_58_0, trivial⟩ (Eq.trans (by kernel_rfl) h)
end
noncomputable section
abbrev A_14 : List Ty := [(.pair (.int .i64) (.pair (.int .i64) (.pair (.int .i64) (.pair (.pair (.int .i64) (.pair (.int .i64) (.pair (.arr 32 (.int .u8)) (.pair (.pair (.int .i64) (.pair (.slice (.arr 32 (.int .u8))) (.pair (.slice (.arr 32 (.int .u8))) .unit))) .unit)))) .unit)))), (.pair (.pair (.slice (.int .u32)) (.pair (.slice (.int .i64)) (.pair (.int .i64) .unit))) (.pair (.arr 32 (.int .u8)) .unit)), (.pair (.int .i64) (.pair (.int .i64) (.pair (.arr 32 (.int .u8)) (.pair (.pair (.int .i64) (.pair (.slice (.arr 32 (.int .u8))) (.pair (.slice (.arr 32 (.int .u8))) .unit))) .unit))))]
abbrev R_14 : List Ty := [(.int .i64)]
noncomputable def sm_14 : Nat → Option Summ := smL [(18, s_18), (24, s_24), (56, s_56), (57, s_57), (58, s_58)]
noncomputable def F_14 (a0 : (Int × (Int × (Int × ((Int × (Int × ((List Int) × ((Int × ((List (List Int)) × ((List (List Int)) × Unit))) × Unit)))) × Unit))))) (a1 : (((List Int) × ((List Int) × (Int × Unit))) × ((List Int) × Unit))) (a2 : (Int × (Int × ((List Int) × ((Int × ((List (List Int)) × ((List (List Int)) × Unit))) × Unit))))) : Option (Int × Unit) :=
 gd (p_24 a2 a1) (bif !(v_24 a2 a1).1 then some (1, PUnit.unit) else bif a0.1 != 0 then some (6, PUnit.unit) else gd (p_56 a1) (bif decide (a2.1 ≤ (v_56 a1).1) then some (20, PUnit.unit) else gd (p_57 (a1.2.1) (a2.2.2.1) (a2.2.2.2.1)) (bif !(v_57 (a1.2.1) (a2.2.2.1) (a2.2.2.2.1)).1 then some (14, PUnit.unit) else gd (p_18 a1) (gd (p_58 a1 ((v_18 a1).1)) (bif (v_58 a1 ((v_18 a1).1)).1 then some (19, PUnit.unit) else some (0, PUnit.unit))))))
noncomputable def Sp.p_14 (a0 : (Int × (Int × (Int × ((Int × (Int × ((List Int) × ((Int × ((List (List Int)) × ((List (List Int)) × Unit))) × Unit)))) × Unit))))) (a1 : (((List Int) × ((List Int) × (Int × Unit))) × ((List Int) × Unit))) (a2 : (Int × (Int × ((List Int) × ((Int × ((List (List Int)) × ((List (List Int)) × Unit))) × Unit))))) : Bool := (F_14 a0 a1 a2).isSome
noncomputable def Sp.v_14 (a0 : (Int × (Int × (Int × ((Int × (Int × ((List Int) × ((Int × ((List (List Int)) × ((List (List Int)) × Unit))) × Unit)))) × Unit))))) (a1 : (((List Int) × ((List Int) × (Int × Unit))) × ((List Int) × Unit))) (a2 : (Int × (Int × ((List Int) × ((Int × ((List (List Int)) × ((List (List Int)) × Unit))) × Unit))))) : Int × Unit := (F_14 a0 a1 a2).getD (dfH R_14)
noncomputable def s_14 : Summ := shN A_14 R_14 (fun x => p_14 x.1 x.2.1 x.2.2.1) (fun x => v_14 x.1 x.2.1 x.2.2.1)
theorem pv_14 (a0 : (Int × (Int × (Int × ((Int × (Int × ((List Int) × ((Int × ((List (List Int)) × ((List (List Int)) × Unit))) × Unit)))) × Unit))))) (a1 : (((List Int) × ((List Int) × (Int × Unit))) × ((List Int) × Unit))) (a2 : (Int × (Int × ((List Int) × ((Int × ((List (List Int)) × ((List (List Int)) × Unit))) × Unit))))) {y : Int × Unit} (h : F_14 a0 a1 a2 = some y) : p_14 a0 a1 a2 = true ∧ v_14 a0 a1 a2 = y := pvG h
theorem run_14 (x : HDen A_14) (y : HDen R_14) (h : F_14 x.1 x.2.1 x.2.2.1 = some y) : rnF sm_14 1 14 A_14 R_14 x y := runG noO_ok (os := []) trivial (Eq.trans (by kernel_rfl) h)
end
noncomputable section
abbrev A_112 : List Ty := [(.arr 32 (.int .u8))]
abbrev R_112 : List Ty := [(.slice (.int .u32))]
noncomputable def sm_112 : Nat → Option Summ := smL []
noncomputable def T_112_0 : PS := ⟨38, [(1, .kc (.ptr 0 [])), (3, .kc (.whole 1)), (4, .hv (.int .i64))], [.mem (.hv (.arr 32 (.int .u8))), .vec 37 (.int .u32)], 0⟩
inductive Sp.E_112_0 where
 | e0 (p2 : List Int)
noncomputable def Sp.B_112_0 {R : Type} (r : Option E_112_0) (k0 : List Int → Option R) : Option R := match r with
 | none => none
 | some (.e0 p2) => k0 p2
noncomputable def Y_112_0 {R : Type} (k : Ex → St → Option R) : E_112_0 → Option R
 | .e0 p2 => k (Ex.exit 0) (sx 38 [(3, CV.whole 0)] [Blk.vec 37 (Ty.int u32) p2])
noncomputable def Sp.S_112_0 {R : Type} (K : Int → List Int → List Int → Option R) (k : E_112_0 → Option R) (p0 : Int) (p1 p2 : List Int) : Option R :=
 bif decide (p0 < 32) then gd (inB p0 32) (gd (decide (toNat p0 < 32) && true) (gd (inB (wrap i64 (p0 + 1)) 32) (gd (decide (toNat (wrap i64 (p0 + 1)) < 32) && true) (gd (inB (wrap i64 (p0 + 2)) 32) (gd (decide (toNat (wrap i64 (p0 + 2)) < 32) && true) (gd (inB (wrap i64 (p0 + 3)) 32) (gd (decide (toNat (wrap i64 (p0 + 3)) < 32) && true) (gd (room (length p2 + 1) 4) (K (wrap i64 (p0 + 4)) p1 (p2 ++ [Sp.orI u32 (Sp.orI u32 (Sp.orI u32 (wrap u32 (wrap u32 (getD p1 (toNat p0) 0) * 16777216)) (wrap u32 (wrap u32 (getD p1 (toNat (wrap i64 (p0 + 1))) 0) * 65536))) (wrap u32 (wrap u32 (getD p1 (toNat (wrap i64 (p0 + 2))) 0) * 256))) (wrap u32 (getD p1 (toNat (wrap i64 (p0 + 3))) 0))])))))))))) else k (E_112_0.e0 p2)
noncomputable def Sp.L_112_0 : Nat → Int → List Int → List Int → Option E_112_0
 | 0, _, _, _ => none
 | m + 1, p0, p1, p2 => S_112_0 (L_112_0 m) some p0 p1 p2
noncomputable def l_112_0 (m : Nat) (a : T_112_0.E) : Option E_112_0 := L_112_0 m a.1 a.2.1 a.2.2.1
noncomputable def O_112_0 {R : Type} : Orc R := orL T_112_0 (l_112_0 FU) Y_112_0
theorem OK_112_0 {R : Type} : okF (R := R) sm_112 0 (nf 112 0) O_112_0 := lp0 T_112_0 l_112_0 (fun R K k a => S_112_0 (fun p0 p1 p2 => K (p0, p1, p2, ())) k a.1 a.2.1 a.2.2.1) Y_112_0 (fun _ _ _ => by kernel_rfl) (fun _ _ _ => by
 unfold S_112_0
 repeat' first | apply gdN | apply condN | rfl) (ok0 _)
noncomputable def F_112 (a0 : (List Int)) : Option ((List Int) × Unit) :=
 B_112_0 (L_112_0 4611686018427387904 0 a0 []) fun y1 => some (y1, PUnit.unit)
noncomputable def Sp.p_112 (a0 : (List Int)) : Bool := (F_112 a0).isSome
noncomputable def Sp.v_112 (a0 : (List Int)) : (List Int) × Unit := (F_112 a0).getD (dfH R_112)
noncomputable def s_112 : Summ := shS A_112 R_112 (fun x => p_112 x.1) (fun x => v_112 x.1)
theorem pv_112 (a0 : (List Int)) {y : (List Int) × Unit} (h : F_112 a0 = some y) : p_112 a0 = true ∧ v_112 a0 = y := pvG h
theorem run_112 (x : HDen A_112) (y : HDen R_112) (h : F_112 x.1 = some y) : rnF sm_112 1 112 A_112 R_112 x y := runG noO_ok (os := [O_112_0]) ⟨OK_112_0, trivial⟩ (Eq.trans (by kernel_rfl) h)
end
noncomputable section
abbrev A_76 : List Ty := [(.pair (.int .i64) (.pair (.slice (.arr 32 (.int .u8))) (.pair (.slice (.arr 32 (.int .u8))) .unit)))]
abbrev R_76 : List Ty := [(.slice (.int .u32))]
noncomputable def sm_76 : Nat → Option Summ := smL [(112, s_112)]
noncomputable def T_76_0 : PS := ⟨35, [(1, .kc (.ptr 0 [])), (3, .kc (.whole 1)), (4, .hv (.int .i64))], [.mem (.hv (.pair (.int .i64) (.pair (.slice (.arr 32 (.int .u8))) (.pair (.slice (.arr 32 (.int .u8))) .unit)))), .vec 37 (.int .u32)], 0⟩
inductive Sp.E_76_0 where
 | e0 (p1 : Int × List (List Int) × List (List Int) × Unit) (p2 : List Int)
noncomputable def Sp.B_76_0 {R : Type} (r : Option E_76_0) (k0 : (Int × List (List Int) × List (List Int) × Unit) → List Int → Option R) : Option R := match r with
 | none => none
 | some (.e0 p1 p2) => k0 p1 p2
noncomputable def Y_76_0 {R : Type} (k : Ex → St → Option R) : E_76_0 → Option R
 | .e0 p1 p2 => k (Ex.exit 0) (sx 35 [(1, CV.ptr 0 []), (3, CV.whole 1)] [Blk.mem (CV.pure (Ty.pair (Ty.int i64) (Ty.pair (Ty.slice (Ty.arr 32 (Ty.int u8))) (Ty.pair (Ty.slice (Ty.arr 32 (Ty.int u8))) Ty.unit))) p1), Blk.vec 37 (Ty.int u32) p2])
noncomputable def Sp.S_76_0 {R : Type} (K : Int → (Int × List (List Int) × List (List Int) × Unit) → List Int → Option R) (k : E_76_0 → Option R) (p0 : Int) (p1 : Int × List (List Int) × List (List Int) × Unit) (p2 : List Int) : Option R :=
 bif decide (p0 < 67) then gd (inB p0 (length (p1.2.1))) (gd (p_112 (getD (p1.2.1) (toNat p0) (Ty.dflt (Ty.arr 32 (Ty.int u8))))) (gd (room (length p2 + length ((v_112 (getD (p1.2.1) (toNat p0) (Ty.dflt (Ty.arr 32 (Ty.int u8))))).1)) 4) (K (wrap i64 (p0 + 1)) p1 (p2 ++ (v_112 (getD (p1.2.1) (toNat p0) (Ty.dflt (Ty.arr 32 (Ty.int u8))))).1)))) else k (E_76_0.e0 p1 p2)
noncomputable def Sp.L_76_0 : Nat → Int → (Int × List (List Int) × List (List Int) × Unit) → List Int → Option E_76_0
 | 0, _, _, _ => none
 | m + 1, p0, p1, p2 => S_76_0 (L_76_0 m) some p0 p1 p2
noncomputable def l_76_0 (m : Nat) (a : T_76_0.E) : Option E_76_0 := L_76_0 m a.1 a.2.1 a.2.2.1
noncomputable def O_76_0 {R : Type} : Orc R := orL T_76_0 (l_76_0 FU) Y_76_0
theorem OK_76_0 {R : Type} : okF (R := R) sm_76 0 (nf 76 0) O_76_0 := lp0 T_76_0 l_76_0 (fun R K k a => S_76_0 (fun p0 p1 p2 => K (p0, p1, p2, ())) k a.1 a.2.1 a.2.2.1) Y_76_0 (fun _ _ _ => by kernel_rfl) (fun _ _ _ => by
 unfold S_76_0
 repeat' first | apply gdN | apply condN | rfl) (ok0 _)
noncomputable def T_76_1 : PS := ⟨35, [(1, .kc (.ptr 0 [])), (3, .kc (.whole 1)), (5, .hv (.int .i64))], [.mem (.hv (.pair (.int .i64) (.pair (.slice (.arr 32 (.int .u8))) (.pair (.slice (.arr 32 (.int .u8))) .unit)))), .vec 37 (.int .u32)], 0⟩
inductive Sp.E_76_1 where
 | e0 (p2 : List Int)
noncomputable def Sp.B_76_1 {R : Type} (r : Option E_76_1) (k0 : List Int → Option R) : Option R := match r with
 | none => none
 | some (.e0 p2) => k0 p2
noncomputable def Y_76_1 {R : Type} (k : Ex → St → Option R) : E_76_1 → Option R
 | .e0 p2 => k (Ex.exit 2) (sx 35 [(3, CV.whole 0)] [Blk.vec 37 (Ty.int u32) p2])
noncomputable def Sp.S_76_1 {R : Type} (K : Int → (Int × List (List Int) × List (List Int) × Unit) → List Int → Option R) (k : E_76_1 → Option R) (p0 : Int) (p1 : Int × List (List Int) × List (List Int) × Unit) (p2 : List Int) : Option R :=
 bif decide (p0 < 2) then gd (inB p0 (length (p1.2.2.1))) (gd (p_112 (getD (p1.2.2.1) (toNat p0) (Ty.dflt (Ty.arr 32 (Ty.int u8))))) (gd (room (length p2 + length ((v_112 (getD (p1.2.2.1) (toNat p0) (Ty.dflt (Ty.arr 32 (Ty.int u8))))).1)) 4) (K (wrap i64 (p0 + 1)) p1 (p2 ++ (v_112 (getD (p1.2.2.1) (toNat p0) (Ty.dflt (Ty.arr 32 (Ty.int u8))))).1)))) else k (E_76_1.e0 p2)
noncomputable def Sp.L_76_1 : Nat → Int → (Int × List (List Int) × List (List Int) × Unit) → List Int → Option E_76_1
 | 0, _, _, _ => none
 | m + 1, p0, p1, p2 => S_76_1 (L_76_1 m) some p0 p1 p2
noncomputable def l_76_1 (m : Nat) (a : T_76_1.E) : Option E_76_1 := L_76_1 m a.1 a.2.1 a.2.2.1
noncomputable def O_76_1 {R : Type} : Orc R := orL T_76_1 (l_76_1 FU) Y_76_1
theorem OK_76_1 {R : Type} : okF (R := R) sm_76 0 (nf 76 1) O_76_1 := lp0 T_76_1 l_76_1 (fun R K k a => S_76_1 (fun p0 p1 p2 => K (p0, p1, p2, ())) k a.1 a.2.1 a.2.2.1) Y_76_1 (fun _ _ _ => by kernel_rfl) (fun _ _ _ => by
 unfold S_76_1
 repeat' first | apply gdN | apply condN | rfl) (ok0 _)
noncomputable def F_76 (a0 : (Int × ((List (List Int)) × ((List (List Int)) × Unit)))) : Option ((List Int) × Unit) :=
 B_76_0 (L_76_0 4611686018427387904 0 a0 [wrap u32 (a0.1)]) fun y3 y4 => B_76_1 (L_76_1 4611686018427387904 0 y3 y4) fun y5 => some (y5, PUnit.unit)
noncomputable def Sp.p_76 (a0 : (Int × ((List (List Int)) × ((List (List Int)) × Unit)))) : Bool := (F_76 a0).isSome
noncomputable def Sp.v_76 (a0 : (Int × ((List (List Int)) × ((List (List Int)) × Unit)))) : (List Int) × Unit := (F_76 a0).getD (dfH R_76)
noncomputable def s_76 : Summ := shS A_76 R_76 (fun x => p_76 x.1) (fun x => v_76 x.1)
theorem pv_76 (a0 : (Int × ((List (List Int)) × ((List (List Int)) × Unit)))) {y : (List Int) × Unit} (h : F_76 a0 = some y) : p_76 a0 = true ∧ v_76 a0 = y := pvG h
theorem run_76 (x : HDen A_76) (y : HDen R_76) (h : F_76 x.1 = some y) : rnF sm_76 1 76 A_76 R_76 x y := runG noO_ok (os := [O_76_0, O_76_1]) ⟨OK_76_0, OK_76_1, trivial⟩ (Eq.trans (by kernel_rfl) h)
end
noncomputable section
abbrev Zt31_0 : Type := Int × Int × List Int × (Int × List (List Int) × List (List Int) × Unit) × Unit
abbrev Zy31_1 : Ty := (.pair (.int .i64) (.pair (.int .i64) (.pair (.arr 32 (.int .u8)) (.pair (.pair (.int .i64) (.pair (.slice (.arr 32 (.int .u8))) (.pair (.slice (.arr 32 (.int .u8))) .unit))) .unit))))
abbrev A_31 : List Ty := [(.pair (.int .i64) (.pair (.int .i64) (.pair (.arr 32 (.int .u8)) (.pair (.pair (.int .i64) (.pair (.slice (.arr 32 (.int .u8))) (.pair (.slice (.arr 32 (.int .u8))) .unit))) .unit)))), (.slice (.int .u32))]
abbrev R_31 : List Ty := [(.slice (.int .u32))]
noncomputable def sm_31 : Nat → Option Summ := smL [(76, s_76)]
noncomputable def T_31_1 : PS := ⟨72, [(1, .hv (.slice (.int .u32))), (2, .kc (.ptr 0 [])), (5, .kc (.whole 1)), (6, .hv (.int .i64)), (7, .hv (.int .u32)), (8, .hv (.int .i64))], [.mem (.hv Zy31_1), .vec 37 (.int .u32)], 0⟩
inductive Sp.E_31_1 where
 | e0 (p0 : List Int) (p1 p2 : Int) (p4 : Zt31_0) (p5 : List Int)
noncomputable def Sp.B_31_1 {R : Type} (r : Option E_31_1) (k0 : List Int → Int → Int → Zt31_0 → List Int → Option R) : Option R := match r with
 | none => none
 | some (.e0 p0 p1 p2 p4 p5) => k0 p0 p1 p2 p4 p5
theorem Bn_31_1 {A R : Type} {r : Option E_31_1} {f : A → Option R} {k0 : List Int → Int → Int → Zt31_0 → List Int → Option A} {l0 : List Int → Int → Int → Zt31_0 → List Int → Option R} (h0 : ∀ p0 p1 p2 p4 p5, (k0 p0 p1 p2 p4 p5).bind f = l0 p0 p1 p2 p4 p5) : (B_31_1 r k0).bind f = B_31_1 r l0 := by
 cases r with
 | none => rfl
 | some e => cases e <;> first | apply h0
noncomputable def Y_31_1 {R : Type} (k : Ex → St → Option R) : E_31_1 → Option R
 | .e0 p0 p1 p2 p4 p5 => k (Ex.exit 2) (sx 72 [(1, CV.pure (Ty.slice (Ty.int u32)) p0), (2, CV.ptr 0 []), (5, CV.whole 1), (6, CV.int i64 p1), (7, CV.int u32 p2)] [Blk.mem (CV.pure (Ty.pair (Ty.int i64) (Ty.pair (Ty.int i64) (Ty.pair (Ty.arr 32 (Ty.int u8)) (Ty.pair (Ty.pair (Ty.int i64) (Ty.pair (Ty.slice (Ty.arr 32 (Ty.int u8))) (Ty.pair (Ty.slice (Ty.arr 32 (Ty.int u8))) Ty.unit))) Ty.unit)))) p4), Blk.vec 37 (Ty.int u32) p5])
noncomputable def Sp.S_31_1 {R : Type} (K : List Int → Int → Int → Int → (Int × Int × List Int × (Int × List (List Int) × List (List Int) × Unit) × Unit) → List Int → Option R) (k : E_31_1 → Option R) (p0 : List Int) (p1 p2 p3 : Int) (p4 : Int × Int × List Int × (Int × List (List Int) × List (List Int) × Unit) × Unit) (p5 : List Int) : Option R :=
 bif decide (p3 < 4) then gd (inB (wrap i64 (wrap i64 (4 * p1) + p3)) 32) (gd (decide (toNat (wrap i64 (wrap i64 (4 * p1) + p3)) < 32) && true) (K p0 p1 (Sp.orI u32 (wrap u32 (p2 * 256)) (wrap u32 (getD (p4.2.2.1) (toNat (wrap i64 (wrap i64 (4 * p1) + p3))) 0))) (wrap i64 (p3 + 1)) p4 p5)) else k (E_31_1.e0 p0 p1 p2 p4 p5)
noncomputable def Sp.L_31_1 : Nat → List Int → Int → Int → Int → (Int × Int × List Int × (Int × List (List Int) × List (List Int) × Unit) × Unit) → List Int → Option E_31_1
 | 0, _, _, _, _, _, _ => none
 | m + 1, p0, p1, p2, p3, p4, p5 => S_31_1 (L_31_1 m) some p0 p1 p2 p3 p4 p5
noncomputable def l_31_1 (m : Nat) (a : T_31_1.E) : Option E_31_1 := L_31_1 m a.1 a.2.1 a.2.2.1 a.2.2.2.1 a.2.2.2.2.1 a.2.2.2.2.2.1
noncomputable def O_31_1 {R : Type} : Orc R := orL T_31_1 (l_31_1 FU) Y_31_1
theorem OK_31_1 {R : Type} : okF (R := R) sm_31 0 (ni (nf 31 0) 0) O_31_1 := lp0 T_31_1 l_31_1 (fun R K k a => S_31_1 (fun p0 p1 p2 p3 p4 p5 => K (p0, p1, p2, p3, p4, p5, ())) k a.1 a.2.1 a.2.2.1 a.2.2.2.1 a.2.2.2.2.1 a.2.2.2.2.2.1) Y_31_1 (fun _ _ _ => by kernel_rfl) (fun _ _ _ => by
 unfold S_31_1
 repeat' first | apply gdN | apply condN | rfl) (ok0 _)
noncomputable def T_31_0 : PS := ⟨72, [(1, .hv (.slice (.int .u32))), (2, .kc (.ptr 0 [])), (5, .kc (.whole 1)), (6, .hv (.int .i64))], [.mem (.hv Zy31_1), .vec 37 (.int .u32)], 0⟩
inductive Sp.E_31_0 where
 | e0 (p0 : List Int) (p2 : Zt31_0) (p3 : List Int)
noncomputable def Sp.B_31_0 {R : Type} (r : Option E_31_0) (k0 : List Int → Zt31_0 → List Int → Option R) : Option R := match r with
 | none => none
 | some (.e0 p0 p2 p3) => k0 p0 p2 p3
noncomputable def Y_31_0 {R : Type} (k : Ex → St → Option R) : E_31_0 → Option R
 | .e0 p0 p2 p3 => k (Ex.exit 0) (sx 72 [(1, CV.pure (Ty.slice (Ty.int u32)) p0), (2, CV.ptr 0 []), (5, CV.whole 1)] [Blk.mem (CV.pure (Ty.pair (Ty.int i64) (Ty.pair (Ty.int i64) (Ty.pair (Ty.arr 32 (Ty.int u8)) (Ty.pair (Ty.pair (Ty.int i64) (Ty.pair (Ty.slice (Ty.arr 32 (Ty.int u8))) (Ty.pair (Ty.slice (Ty.arr 32 (Ty.int u8))) Ty.unit))) Ty.unit)))) p2), Blk.vec 37 (Ty.int u32) p3])
noncomputable def Sp.S_31_0 {R : Type} (K : List Int → Int → (Int × Int × List Int × (Int × List (List Int) × List (List Int) × Unit) × Unit) → List Int → Option R) (k : E_31_0 → Option R) (p0 : List Int) (p1 : Int) (p2 : Int × Int × List Int × (Int × List (List Int) × List (List Int) × Unit) × Unit) (p3 : List Int) : Option R :=
 bif decide (p1 < 8) then B_31_1 (L_31_1 4611686018427387904 p0 p1 0 0 p2 p3) fun y5 y6 y7 y8 y9 => gd (room (length y9 + 1) 4) (K y5 (wrap i64 (y6 + 1)) y8 (y9 ++ [y7])) else k (E_31_0.e0 p0 p2 p3)
noncomputable def Sp.L_31_0 : Nat → List Int → Int → (Int × Int × List Int × (Int × List (List Int) × List (List Int) × Unit) × Unit) → List Int → Option E_31_0
 | 0, _, _, _, _ => none
 | m + 1, p0, p1, p2, p3 => S_31_0 (L_31_0 m) some p0 p1 p2 p3
noncomputable def l_31_0 (m : Nat) (a : T_31_0.E) : Option E_31_0 := L_31_0 m a.1 a.2.1 a.2.2.1 a.2.2.2.1
noncomputable def O_31_0 {R : Type} : Orc R := orL T_31_0 (l_31_0 FU) Y_31_0
theorem OK_31_0 {R : Type} : okF (R := R) sm_31 0 (nf 31 0) O_31_0 := lp noO_ok (os := [O_31_1]) ⟨OK_31_1, trivial⟩ T_31_0 l_31_0 (fun R K k a => S_31_0 (fun p0 p1 p2 p3 => K (p0, p1, p2, p3, ())) k a.1 a.2.1 a.2.2.1 a.2.2.2.1) Y_31_0 (fun _ => rfl) (fun _ _ => rfl) (fun k K a => by kernel_rfl) (fun Y K a => by
 unfold S_31_0
 repeat' first | apply gdN | apply condN | (apply Bn_31_1 <;> intros) | rfl) (ok0 _)
noncomputable def T_31_2 : PS := ⟨72, [(1, .hv (.slice (.int .u32))), (5, .kc (.whole 0)), (9, .hv (.slice (.int .u32))), (10, .hv (.int .i64))], [.vec 37 (.int .u32)], 0⟩
inductive Sp.E_31_2 where
 | e0 (p0 p3 : List Int)
noncomputable def Sp.B_31_2 {R : Type} (r : Option E_31_2) (k0 : List Int → List Int → Option R) : Option R := match r with
 | none => none
 | some (.e0 p0 p3) => k0 p0 p3
noncomputable def Y_31_2 {R : Type} (k : Ex → St → Option R) : E_31_2 → Option R
 | .e0 p0 p3 => k (Ex.exit 4) (sx 72 [(1, CV.pure (Ty.slice (Ty.int u32)) p0), (5, CV.whole 0)] [Blk.vec 37 (Ty.int u32) p3])
noncomputable def Sp.S_31_2 {R : Type} (K : List Int → List Int → Int → List Int → Option R) (k : E_31_2 → Option R) (p0 p1 : List Int) (p2 : Int) (p3 : List Int) : Option R :=
 bif decide (p2 < (↑(length p1) : Int)) then gd (inB p2 (length p1)) (gd (room (length p3 + 1) 4) (K p0 p1 (wrap i64 (p2 + 1)) (p3 ++ [getD p1 (toNat p2) 0]))) else k (E_31_2.e0 p0 p3)
noncomputable def Sp.L_31_2 : Nat → List Int → List Int → Int → List Int → Option E_31_2
 | 0, _, _, _, _ => none
 | m + 1, p0, p1, p2, p3 => S_31_2 (L_31_2 m) some p0 p1 p2 p3
noncomputable def l_31_2 (m : Nat) (a : T_31_2.E) : Option E_31_2 := L_31_2 m a.1 a.2.1 a.2.2.1 a.2.2.2.1
noncomputable def O_31_2 {R : Type} : Orc R := orL T_31_2 (l_31_2 FU) Y_31_2
theorem OK_31_2 {R : Type} : okF (R := R) sm_31 0 (nf 31 1) O_31_2 := lp0 T_31_2 l_31_2 (fun R K k a => S_31_2 (fun p0 p1 p2 p3 => K (p0, p1, p2, p3, ())) k a.1 a.2.1 a.2.2.1 a.2.2.2.1) Y_31_2 (fun _ _ _ => by kernel_rfl) (fun _ _ _ => by
 unfold S_31_2
 repeat' first | apply gdN | apply condN | rfl) (ok0 _)
noncomputable def T_31_3 : PS := ⟨72, [(1, .hv (.slice (.int .u32))), (5, .kc (.whole 0)), (11, .hv (.int .i64))], [.vec 37 (.int .u32)], 0⟩
inductive Sp.E_31_3 where
 | e0 (p2 : List Int)
noncomputable def Sp.B_31_3 {R : Type} (r : Option E_31_3) (k0 : List Int → Option R) : Option R := match r with
 | none => none
 | some (.e0 p2) => k0 p2
noncomputable def Y_31_3 {R : Type} (k : Ex → St → Option R) : E_31_3 → Option R
 | .e0 p2 => k (Ex.exit 6) (sx 72 [(5, CV.whole 0)] [Blk.vec 37 (Ty.int u32) p2])
noncomputable def Sp.S_31_3 {R : Type} (K : List Int → Int → List Int → Option R) (k : E_31_3 → Option R) (p0 : List Int) (p1 : Int) (p2 : List Int) : Option R :=
 bif decide (p1 < (↑(length p0) : Int)) then gd (inB p1 (length p0)) (gd (room (length p2 + 1) 4) (K p0 (wrap i64 (p1 + 1)) (p2 ++ [getD p0 (toNat p1) 0]))) else k (E_31_3.e0 p2)
noncomputable def Sp.L_31_3 : Nat → List Int → Int → List Int → Option E_31_3
 | 0, _, _, _ => none
 | m + 1, p0, p1, p2 => S_31_3 (L_31_3 m) some p0 p1 p2
noncomputable def l_31_3 (m : Nat) (a : T_31_3.E) : Option E_31_3 := L_31_3 m a.1 a.2.1 a.2.2.1
noncomputable def O_31_3 {R : Type} : Orc R := orL T_31_3 (l_31_3 FU) Y_31_3
theorem OK_31_3 {R : Type} : okF (R := R) sm_31 0 (nf 31 2) O_31_3 := lp0 T_31_3 l_31_3 (fun R K k a => S_31_3 (fun p0 p1 p2 => K (p0, p1, p2, ())) k a.1 a.2.1 a.2.2.1) Y_31_3 (fun _ _ _ => by kernel_rfl) (fun _ _ _ => by
 unfold S_31_3
 repeat' first | apply gdN | apply condN | rfl) (ok0 _)
noncomputable def F_31 (a0 : (Int × (Int × ((List Int) × ((Int × ((List (List Int)) × ((List (List Int)) × Unit))) × Unit))))) (a1 : (List Int)) : Option ((List Int) × Unit) :=
 B_31_0 (L_31_0 4611686018427387904 a1 0 a0 [wrap u32 (a0.1), wrap u32 (a0.2.1)]) fun y6 y7 y8 => gd (p_76 (y7.2.2.2.1)) (B_31_2 (L_31_2 4611686018427387904 y6 ((v_76 (y7.2.2.2.1)).1) 0 y8) fun y9 y10 => B_31_3 (L_31_3 4611686018427387904 y9 0 y10) fun y11 => some (y11, PUnit.unit))
noncomputable def Sp.p_31 (a0 : (Int × (Int × ((List Int) × ((Int × ((List (List Int)) × ((List (List Int)) × Unit))) × Unit))))) (a1 : (List Int)) : Bool := (F_31 a0 a1).isSome
noncomputable def Sp.v_31 (a0 : (Int × (Int × ((List Int) × ((Int × ((List (List Int)) × ((List (List Int)) × Unit))) × Unit))))) (a1 : (List Int)) : (List Int) × Unit := (F_31 a0 a1).getD (dfH R_31)
noncomputable def s_31 : Summ := shS A_31 R_31 (fun x => p_31 x.1 x.2.1) (fun x => v_31 x.1 x.2.1)
theorem pv_31 (a0 : (Int × (Int × ((List Int) × ((Int × ((List (List Int)) × ((List (List Int)) × Unit))) × Unit))))) (a1 : (List Int)) {y : (List Int) × Unit} (h : F_31 a0 a1 = some y) : p_31 a0 a1 = true ∧ v_31 a0 a1 = y := pvG h
theorem run_31 (x : HDen A_31) (y : HDen R_31) (h : F_31 x.1 x.2.1 = some y) : rnF sm_31 1 31 A_31 R_31 x y := runG noO_ok (os := [O_31_0, O_31_2, O_31_3]) ⟨OK_31_0, OK_31_2, OK_31_3, trivial⟩ (Eq.trans (by kernel_rfl) h)
end
noncomputable section
abbrev A_101 : List Ty := [(.pair (.int .i64) (.pair (.int .u32) .unit))]
abbrev R_101 : List Ty := [(.int .u32), (.pair (.int .i64) (.pair (.int .u32) .unit)), (.int .i64)]
noncomputable def sm_101 : Nat → Option Summ := smL []
noncomputable def T_101_0 : PS := ⟨23, [(1, .kc (.ptr 0 [])), (3, .kc (.ptr 1 [])), (5, .hv (.int .u32)), (6, .hv (.int .i64))], [.mem (.hv (.pair (.int .i64) (.pair (.int .u32) .unit))), .mem (.hv (.pair (.int .i64) (.pair (.int .u32) .unit)))], 0⟩
inductive Sp.E_101_0 where
 | e0 (p1 : Int) (p2 : Int × Int × Unit)
 | e1 (p0 p1 : Int) (p2 : Int × Int × Unit)
noncomputable def Sp.B_101_0 {R : Type} (r : Option E_101_0) (k0 : Int → (Int × Int × Unit) → Option R) (k1 : Int → Int → (Int × Int × Unit) → Option R) : Option R := match r with
 | none => none
 | some (.e0 p1 p2) => k0 p1 p2
 | some (.e1 p0 p1 p2) => k1 p0 p1 p2
noncomputable def Y_101_0 {R : Type} (k : Ex → St → Option R) : E_101_0 → Option R
 | .e0 p1 p2 => k Ex.ret (sx 23 [(2, CV.int u32 0), (3, CV.ptr 0 []), (4, CV.int i64 p1)] [Blk.mem (CV.pure (Ty.pair (Ty.int i64) (Ty.pair (Ty.int u32) Ty.unit)) ((if wrap i64 (p2.1 - 1) > 0 then wrap i64 (p2.1 - 1) else 0, p2.2) : (Int × (Int × Unit))))])
 | .e1 p0 p1 p2 => k Ex.ret (sx 23 [(2, CV.int u32 p0), (3, CV.ptr 0 []), (4, CV.int i64 p1)] [Blk.mem (CV.pure (Ty.pair (Ty.int i64) (Ty.pair (Ty.int u32) Ty.unit)) ((if wrap i64 (p2.1 - 1) > 0 then wrap i64 (p2.1 - 1) else 0, p2.2) : (Int × (Int × Unit))))])
noncomputable def Sp.S_101_0 {R : Type} (k : E_101_0 → Option R) (p0 p1 : Int) (p2 p3 : Int × Int × Unit) : Option R :=
 bif decide (p2.1 < 1) then k (E_101_0.e0 p1 p2) else k (E_101_0.e1 p0 p1 p2)
noncomputable def Sp.J_101_0 (p0 p1 : Int) (p2 p3 : Int × Int × Unit) : Option E_101_0 := S_101_0 some p0 p1 p2 p3
noncomputable def O_101_0 {R : Type} : Orc R := orL T_101_0 (fun a => J_101_0 a.1 a.2.1 a.2.2.1 a.2.2.2.1) Y_101_0
theorem OK_101_0 {R : Type} : okF (R := R) sm_101 0 (nf 101 0) O_101_0 := jp noO_ok (os := []) trivial T_101_0 (fun R k a => S_101_0 k a.1 a.2.1 a.2.2.1 a.2.2.2.1) Y_101_0 (fun k a => by kernel_rfl) (fun Y a => by
 unfold S_101_0
 repeat' first | apply gdN | apply condN | rfl) (ok0 _)
noncomputable def F_101 (a0 : (Int × (Int × Unit))) : Option (Int × (Int × (Int × Unit)) × Int × Unit) :=
 bif decide (a0.1 < 2) then B_101_0 (J_101_0 (a0.2.1) 18 a0 (0, 0, PUnit.unit)) (fun y12 y13 => some (0, (if wrap i64 (y13.1 - 1) > 0 then wrap i64 (y13.1 - 1) else 0, y13.2), y12, PUnit.unit)) fun y14 y15 y16 => some (y14, (if wrap i64 (y16.1 - 1) > 0 then wrap i64 (y16.1 - 1) else 0, y16.2), y15, PUnit.unit) else B_101_0 (J_101_0 4294967295 0 a0 (0, 0, PUnit.unit)) (fun y17 y18 => some (0, (if wrap i64 (y18.1 - 1) > 0 then wrap i64 (y18.1 - 1) else 0, y18.2), y17, PUnit.unit)) fun y19 y20 y21 => some (y19, (if wrap i64 (y21.1 - 1) > 0 then wrap i64 (y21.1 - 1) else 0, y21.2), y20, PUnit.unit)
noncomputable def Sp.p_101 (a0 : (Int × (Int × Unit))) : Bool := (F_101 a0).isSome
noncomputable def Sp.v_101 (a0 : (Int × (Int × Unit))) : Int × (Int × (Int × Unit)) × Int × Unit := (F_101 a0).getD (dfH R_101)
noncomputable def s_101 : Summ := shN A_101 R_101 (fun x => p_101 x.1) (fun x => v_101 x.1)
theorem pv_101 (a0 : (Int × (Int × Unit))) {y : Int × (Int × (Int × Unit)) × Int × Unit} (h : F_101 a0 = some y) : p_101 a0 = true ∧ v_101 a0 = y := pvG h
theorem run_101 (x : HDen A_101) (y : HDen R_101) (h : F_101 x.1 = some y) : rnF sm_101 1 101 A_101 R_101 x y := runG noO_ok (os := [O_101_0]) ⟨OK_101_0, trivial⟩ (Eq.trans (by kernel_rfl) h)
end
noncomputable section
abbrev Zt60_0 : Type := Int × Int × Unit
abbrev Zt60_1 : Type := List Int × List Int × Int × Unit
abbrev Zy60_2 : Ty := (.pair (.int .i64) (.pair (.int .u32) .unit))
abbrev Zy60_3 : Ty := (.pair (.slice (.int .u32)) (.pair (.slice (.int .i64)) (.pair (.int .i64) .unit)))
abbrev A_60 : List Ty := [(.pair (.slice (.int .u32)) (.pair (.slice (.int .i64)) (.pair (.int .i64) .unit))), (.int .i64), (.pair (.int .i64) (.pair (.int .u32) .unit))]
abbrev R_60 : List Ty := [(.pair (.slice (.int .u32)) (.pair (.slice (.int .i64)) (.pair (.int .i64) .unit))), (.pair (.int .i64) (.pair (.int .u32) .unit)), (.int .i64)]
noncomputable def sm_60 : Nat → Option Summ := smL [(13, s_13), (54, s_54), (101, s_101)]
noncomputable def T_60_102_0_0 : PS := ⟨44, [(1, .kc (.ptr 5 [])), (2, .kc (.ptr 6 [])), (3, .kc (.ptr 9 [])), (4, .hv (.int .i64))], [.mem (.hv Zy60_3), .mem (.hv Zy60_2), .mem (.pr (.kc (.nil 37 (.int .u32))) (.pr (.kc (.nil 3 (.int .i64))) (.hv (.pair (.int .i64) .unit)))), .mem (.hv Zy60_2), .mem (.hv Zy60_2), .mem (.hv Zy60_3), .mem (.pr (.kc (.whole 7)) (.pr (.kc (.whole 8)) (.hv (.pair (.int .i64) .unit)))), .vec 37 (.int .u32), .vec 3 (.int .i64), .mem (.pr (.kc (.whole 10)) (.pr (.kc (.whole 11)) (.hv (.pair (.int .i64) .unit)))), .vec 37 (.int .u32), .vec 3 (.int .i64)], 5⟩
inductive Sp.E_60_102_0_0 where
 | e0 (p1 : Zt60_1) (p2 : Zt60_0) (p3 : Int × Unit) (p4 p5 : Zt60_0) (p6 : Zt60_1) (p7 : Int × Unit) (p8 p9 : List Int) (p10 : Int × Unit) (p11 p12 : List Int)
noncomputable def Sp.B_60_102_0_0 {R : Type} (r : Option E_60_102_0_0) (k0 : Zt60_1 → Zt60_0 → (Int × Unit) → Zt60_0 → Zt60_0 → Zt60_1 → (Int × Unit) → List Int → List Int → (Int × Unit) → List Int → List Int → Option R) : Option R := match r with
 | none => none
 | some (.e0 p1 p2 p3 p4 p5 p6 p7 p8 p9 p10 p11 p12) => k0 p1 p2 p3 p4 p5 p6 p7 p8 p9 p10 p11 p12
noncomputable def Y_60_102_0_0 {R : Type} (k : Ex → St → Option R) : E_60_102_0_0 → Option R
 | .e0 p1 p2 p3 p4 p5 p6 p7 p8 p9 p10 p11 p12 => k (Ex.exit 0) (sx 44 [(1, CV.ptr 5 []), (2, CV.ptr 6 []), (3, CV.ptr 9 [])] [Blk.mem (CV.pure (Ty.pair (Ty.slice (Ty.int u32)) (Ty.pair (Ty.slice (Ty.int i64)) (Ty.pair (Ty.int i64) Ty.unit))) p1), Blk.mem (CV.pure (Ty.pair (Ty.int i64) (Ty.pair (Ty.int u32) Ty.unit)) p2), Blk.mem (CV.pair (CV.nil 37 (Ty.int u32)) (CV.pair (CV.nil 3 (Ty.int i64)) (CV.pure (Ty.pair (Ty.int i64) Ty.unit) p3))), Blk.mem (CV.pure (Ty.pair (Ty.int i64) (Ty.pair (Ty.int u32) Ty.unit)) p4), Blk.mem (CV.pure (Ty.pair (Ty.int i64) (Ty.pair (Ty.int u32) Ty.unit)) p5), Blk.mem (CV.pure (Ty.pair (Ty.slice (Ty.int u32)) (Ty.pair (Ty.slice (Ty.int i64)) (Ty.pair (Ty.int i64) Ty.unit))) p6), Blk.mem (CV.pair (CV.whole 7) (CV.pair (CV.whole 8) (CV.pure (Ty.pair (Ty.int i64) Ty.unit) p7))), Blk.vec 37 (Ty.int u32) p8, Blk.vec 3 (Ty.int i64) p9, Blk.mem (CV.pair (CV.whole 10) (CV.pair (CV.whole 11) (CV.pure (Ty.pair (Ty.int i64) Ty.unit) p10))), Blk.vec 37 (Ty.int u32) p11, Blk.vec 3 (Ty.int i64) p12] 5)
noncomputable def Sp.S_60_102_0_0 {R : Type} (K : Int → (List Int × List Int × Int × Unit) → (Int × Int × Unit) → (Int × Unit) → (Int × Int × Unit) → (Int × Int × Unit) → (List Int × List Int × Int × Unit) → (Int × Unit) → List Int → List Int → (Int × Unit) → List Int → List Int → Option R) (k : E_60_102_0_0 → Option R) (p0 : Int) (p1 : List Int × List Int × Int × Unit) (p2 : Int × Int × Unit) (p3 : Int × Unit) (p4 p5 : Int × Int × Unit) (p6 : List Int × List Int × Int × Unit) (p7 : Int × Unit) (p8 p9 : List Int) (p10 : Int × Unit) (p11 p12 : List Int) : Option R :=
 bif decide (p0 < (↑(length (p6.1)) : Int)) then gd (inB p0 (length (p6.1))) (gd (room (length p11 + 1) 4) (K (wrap i64 (p0 + 1)) p1 p2 p3 p4 p5 p6 p7 p8 p9 p10 (p11 ++ [getD (p6.1) (toNat p0) 0]) p12)) else k (E_60_102_0_0.e0 p1 p2 p3 p4 p5 p6 p7 p8 p9 p10 p11 p12)
noncomputable def Sp.L_60_102_0_0 : Nat → Int → (List Int × List Int × Int × Unit) → (Int × Int × Unit) → (Int × Unit) → (Int × Int × Unit) → (Int × Int × Unit) → (List Int × List Int × Int × Unit) → (Int × Unit) → List Int → List Int → (Int × Unit) → List Int → List Int → Option E_60_102_0_0
 | 0, _, _, _, _, _, _, _, _, _, _, _, _, _ => none
 | m + 1, p0, p1, p2, p3, p4, p5, p6, p7, p8, p9, p10, p11, p12 => S_60_102_0_0 (L_60_102_0_0 m) some p0 p1 p2 p3 p4 p5 p6 p7 p8 p9 p10 p11 p12
noncomputable def l_60_102_0_0 (m : Nat) (a : T_60_102_0_0.E) : Option E_60_102_0_0 := L_60_102_0_0 m a.1 a.2.1 a.2.2.1 a.2.2.2.1 a.2.2.2.2.1 a.2.2.2.2.2.1 a.2.2.2.2.2.2.1 a.2.2.2.2.2.2.2.1 a.2.2.2.2.2.2.2.2.1 a.2.2.2.2.2.2.2.2.2.1 a.2.2.2.2.2.2.2.2.2.2.1 a.2.2.2.2.2.2.2.2.2.2.2.1 a.2.2.2.2.2.2.2.2.2.2.2.2.1
noncomputable def O_60_102_0_0 {R : Type} : Orc R := orL T_60_102_0_0 (l_60_102_0_0 FU) Y_60_102_0_0
theorem OK_60_102_0_0 {R : Type} : okF (R := R) sm_60 0 (nf 102 0) O_60_102_0_0 := lp0 T_60_102_0_0 l_60_102_0_0 (fun R K k a => S_60_102_0_0 (fun p0 p1 p2 p3 p4 p5 p6 p7 p8 p9 p10 p11 p12 => K (p0, p1, p2, p3, p4, p5, p6, p7, p8, p9, p10, p11, p12, ())) k a.1 a.2.1 a.2.2.1 a.2.2.2.1 a.2.2.2.2.1 a.2.2.2.2.2.1 a.2.2.2.2.2.2.1 a.2.2.2.2.2.2.2.1 a.2.2.2.2.2.2.2.2.1 a.2.2.2.2.2.2.2.2.2.1 a.2.2.2.2.2.2.2.2.2.2.1 a.2.2.2.2.2.2.2.2.2.2.2.1 a.2.2.2.2.2.2.2.2.2.2.2.2.1) Y_60_102_0_0 (fun _ _ _ => by kernel_rfl) (fun _ _ _ => by
 unfold S_60_102_0_0
 repeat' first | apply gdN | apply condN | rfl) (ok0 _)
noncomputable def T_60_102_1_0 : PS := ⟨44, [(1, .kc (.ptr 5 [])), (2, .kc (.ptr 6 [])), (3, .kc (.ptr 9 [])), (5, .hv (.int .i64))], [.mem (.hv Zy60_3), .mem (.hv Zy60_2), .mem (.pr (.kc (.nil 37 (.int .u32))) (.pr (.kc (.nil 3 (.int .i64))) (.hv (.pair (.int .i64) .unit)))), .mem (.hv Zy60_2), .mem (.hv Zy60_2), .mem (.hv Zy60_3), .mem (.pr (.kc (.whole 7)) (.pr (.kc (.whole 8)) (.hv (.pair (.int .i64) .unit)))), .vec 37 (.int .u32), .vec 3 (.int .i64), .mem (.pr (.kc (.whole 10)) (.pr (.kc (.whole 11)) (.hv (.pair (.int .i64) .unit)))), .vec 37 (.int .u32), .vec 3 (.int .i64)], 5⟩
inductive Sp.E_60_102_1_0 where
 | e0 (p1 : Zt60_1) (p2 : Zt60_0) (p3 : Int × Unit) (p4 p5 : Zt60_0) (p7 : Int × Unit) (p8 p9 : List Int) (p10 : Int × Unit) (p11 p12 : List Int)
noncomputable def Sp.B_60_102_1_0 {R : Type} (r : Option E_60_102_1_0) (k0 : Zt60_1 → Zt60_0 → (Int × Unit) → Zt60_0 → Zt60_0 → (Int × Unit) → List Int → List Int → (Int × Unit) → List Int → List Int → Option R) : Option R := match r with
 | none => none
 | some (.e0 p1 p2 p3 p4 p5 p7 p8 p9 p10 p11 p12) => k0 p1 p2 p3 p4 p5 p7 p8 p9 p10 p11 p12
noncomputable def Y_60_102_1_0 {R : Type} (k : Ex → St → Option R) : E_60_102_1_0 → Option R
 | .e0 p1 p2 p3 p4 p5 p7 p8 p9 p10 p11 p12 => k (Ex.exit 2) (sx 44 [(2, CV.ptr 5 []), (3, CV.ptr 8 [])] [Blk.mem (CV.pure (Ty.pair (Ty.slice (Ty.int u32)) (Ty.pair (Ty.slice (Ty.int i64)) (Ty.pair (Ty.int i64) Ty.unit))) p1), Blk.mem (CV.pure (Ty.pair (Ty.int i64) (Ty.pair (Ty.int u32) Ty.unit)) p2), Blk.mem (CV.pair (CV.nil 37 (Ty.int u32)) (CV.pair (CV.nil 3 (Ty.int i64)) (CV.pure (Ty.pair (Ty.int i64) Ty.unit) p3))), Blk.mem (CV.pure (Ty.pair (Ty.int i64) (Ty.pair (Ty.int u32) Ty.unit)) p4), Blk.mem (CV.pure (Ty.pair (Ty.int i64) (Ty.pair (Ty.int u32) Ty.unit)) p5), Blk.mem (CV.pair (CV.whole 6) (CV.pair (CV.whole 7) (CV.pure (Ty.pair (Ty.int i64) Ty.unit) p7))), Blk.vec 37 (Ty.int u32) p8, Blk.vec 3 (Ty.int i64) p9, Blk.mem (CV.pair (CV.whole 9) (CV.pair (CV.whole 10) (CV.pure (Ty.pair (Ty.int i64) Ty.unit) p10))), Blk.vec 37 (Ty.int u32) p11, Blk.vec 3 (Ty.int i64) p12] 5)
noncomputable def Sp.S_60_102_1_0 {R : Type} (K : Int → (List Int × List Int × Int × Unit) → (Int × Int × Unit) → (Int × Unit) → (Int × Int × Unit) → (Int × Int × Unit) → (List Int × List Int × Int × Unit) → (Int × Unit) → List Int → List Int → (Int × Unit) → List Int → List Int → Option R) (k : E_60_102_1_0 → Option R) (p0 : Int) (p1 : List Int × List Int × Int × Unit) (p2 : Int × Int × Unit) (p3 : Int × Unit) (p4 p5 : Int × Int × Unit) (p6 : List Int × List Int × Int × Unit) (p7 : Int × Unit) (p8 p9 : List Int) (p10 : Int × Unit) (p11 p12 : List Int) : Option R :=
 bif decide (p0 < (↑(length (p6.2.1)) : Int)) then gd (inB p0 (length (p6.2.1))) (gd (room (length p12 + 1) 8) (K (wrap i64 (p0 + 1)) p1 p2 p3 p4 p5 p6 p7 p8 p9 p10 p11 (p12 ++ [getD (p6.2.1) (toNat p0) 0]))) else k (E_60_102_1_0.e0 p1 p2 p3 p4 p5 p7 p8 p9 p10 p11 p12)
noncomputable def Sp.L_60_102_1_0 : Nat → Int → (List Int × List Int × Int × Unit) → (Int × Int × Unit) → (Int × Unit) → (Int × Int × Unit) → (Int × Int × Unit) → (List Int × List Int × Int × Unit) → (Int × Unit) → List Int → List Int → (Int × Unit) → List Int → List Int → Option E_60_102_1_0
 | 0, _, _, _, _, _, _, _, _, _, _, _, _, _ => none
 | m + 1, p0, p1, p2, p3, p4, p5, p6, p7, p8, p9, p10, p11, p12 => S_60_102_1_0 (L_60_102_1_0 m) some p0 p1 p2 p3 p4 p5 p6 p7 p8 p9 p10 p11 p12
noncomputable def l_60_102_1_0 (m : Nat) (a : T_60_102_1_0.E) : Option E_60_102_1_0 := L_60_102_1_0 m a.1 a.2.1 a.2.2.1 a.2.2.2.1 a.2.2.2.2.1 a.2.2.2.2.2.1 a.2.2.2.2.2.2.1 a.2.2.2.2.2.2.2.1 a.2.2.2.2.2.2.2.2.1 a.2.2.2.2.2.2.2.2.2.1 a.2.2.2.2.2.2.2.2.2.2.1 a.2.2.2.2.2.2.2.2.2.2.2.1 a.2.2.2.2.2.2.2.2.2.2.2.2.1
noncomputable def O_60_102_1_0 {R : Type} : Orc R := orL T_60_102_1_0 (l_60_102_1_0 FU) Y_60_102_1_0
theorem OK_60_102_1_0 {R : Type} : okF (R := R) sm_60 0 (nf 102 1) O_60_102_1_0 := lp0 T_60_102_1_0 l_60_102_1_0 (fun R K k a => S_60_102_1_0 (fun p0 p1 p2 p3 p4 p5 p6 p7 p8 p9 p10 p11 p12 => K (p0, p1, p2, p3, p4, p5, p6, p7, p8, p9, p10, p11, p12, ())) k a.1 a.2.1 a.2.2.1 a.2.2.2.1 a.2.2.2.2.1 a.2.2.2.2.2.1 a.2.2.2.2.2.2.1 a.2.2.2.2.2.2.2.1 a.2.2.2.2.2.2.2.2.1 a.2.2.2.2.2.2.2.2.2.1 a.2.2.2.2.2.2.2.2.2.2.1 a.2.2.2.2.2.2.2.2.2.2.2.1 a.2.2.2.2.2.2.2.2.2.2.2.2.1) Y_60_102_1_0 (fun _ _ _ => by kernel_rfl) (fun _ _ _ => by
 unfold S_60_102_1_0
 repeat' first | apply gdN | apply condN | rfl) (ok0 _)
noncomputable def g_60_102 {R : Type} : List CV → List Blk → (CV → List Blk → Option R) → Option R := evFnL sm_60 FU (ovr noO (evFn sm_60 fns FU 0)) (mkT (fB fns 102) [O_60_102_0_0, O_60_102_1_0]) (fO fns 102)
theorem g_60_102_ok {R : Type} (args : List CV) (hp : List Blk) (k : CV → List Blk → Option R) (r : R) (h : g_60_102 args hp k = some r) : evFn sm_60 fns FU 1 102 args hp k = some r := runG noO_ok (os := [O_60_102_0_0, O_60_102_1_0]) ⟨OK_60_102_0_0, OK_60_102_1_0, trivial⟩ h
noncomputable def ov_60_60 {R : Type} : Nat → Option (List CV → List Blk → (CV → List Blk → Option R) → Option R) := fun f' => bif Nat.beq f' 102 then some g_60_102 else none
theorem ov_60_60_ok {R : Type} : OvrOK (R := R) ov_60_60 (evFn sm_60 fns FU 1) := by
 intro f' g h args hp k r hg
 dsimp only [ov_60_60] at h
 by_cases h102 : f' = 102
 · subst h102
   injection h with h
   subst h
   exact evFn_le 0 (g_60_102_ok _ _ _ _ hg)
 rw [nbeq_ne h102, cond_false] at h
 cases h
noncomputable def T_60_0 : PS := ⟨87, [(1, .hv (.int .i64)), (6, .kc (.ptr 0 [])), (7, .kc (.ptr 3 [])), (9, .hv (.int .u32)), (10, .kc (.ptr 4 [])), (11, .hv (.int .i64)), (12, .kc (.ptr 5 [])), (13, .hv (.int .i64))], [.mem (.pr (.kc (.whole 1)) (.pr (.kc (.whole 2)) (.hv (.pair (.int .i64) .unit)))), .vec 37 (.int .u32), .vec 3 (.int .i64), .mem (.hv Zy60_2), .mem (.hv Zy60_2), .mem (.pr (.kc (.whole 6)) (.pr (.kc (.whole 7)) (.hv (.pair (.int .i64) .unit)))), .vec 37 (.int .u32), .vec 3 (.int .i64)], 0⟩
inductive Sp.E_60_0 where
 | e0 (p2 : Int) (p4 : Int × Unit) (p5 p6 : List Int) (p7 p8 : Zt60_0) (p9 : Int × Unit) (p10 p11 : List Int)
noncomputable def Sp.B_60_0 {R : Type} (r : Option E_60_0) (k0 : Int → (Int × Unit) → List Int → List Int → Zt60_0 → Zt60_0 → (Int × Unit) → List Int → List Int → Option R) : Option R := match r with
 | none => none
 | some (.e0 p2 p4 p5 p6 p7 p8 p9 p10 p11) => k0 p2 p4 p5 p6 p7 p8 p9 p10 p11
noncomputable def Y_60_0 {R : Type} (k : Ex → St → Option R) : E_60_0 → Option R
 | .e0 p2 p4 p5 p6 p7 p8 p9 p10 p11 => k (Ex.exit 0) (sx 87 [(6, CV.ptr 0 []), (7, CV.ptr 3 []), (10, CV.ptr 4 []), (11, CV.int i64 p2), (12, CV.ptr 5 [])] [Blk.mem (CV.pair (CV.whole 1) (CV.pair (CV.whole 2) (CV.pure (Ty.pair (Ty.int i64) Ty.unit) p4))), Blk.vec 37 (Ty.int u32) p5, Blk.vec 3 (Ty.int i64) p6, Blk.mem (CV.pure (Ty.pair (Ty.int i64) (Ty.pair (Ty.int u32) Ty.unit)) p7), Blk.mem (CV.pure (Ty.pair (Ty.int i64) (Ty.pair (Ty.int u32) Ty.unit)) p8), Blk.mem (CV.pair (CV.whole 6) (CV.pair (CV.whole 7) (CV.pure (Ty.pair (Ty.int i64) Ty.unit) p9))), Blk.vec 37 (Ty.int u32) p10, Blk.vec 3 (Ty.int i64) p11])
noncomputable def Sp.S_60_0 {R : Type} (K : Int → Int → Int → Int → (Int × Unit) → List Int → List Int → (Int × Int × Unit) → (Int × Int × Unit) → (Int × Unit) → List Int → List Int → Option R) (k : E_60_0 → Option R) (p0 p1 p2 p3 : Int) (p4 : Int × Unit) (p5 p6 : List Int) (p7 p8 : Int × Int × Unit) (p9 : Int × Unit) (p10 p11 : List Int) : Option R :=
 bif decide (p3 < 64) then gd (inB (wrap i64 (wrap i64 (p0 * 64) + p3)) (length p10)) (gd (decide (toNat (wrap i64 (wrap i64 (p0 * 64) + p3)) < length p10) && true) (gd (inB (wrap i64 (wrap i64 (p0 * 64) + p3)) (length p10)) (gd (decide (toNat (wrap i64 (wrap i64 (p0 * 64) + p3)) < length p10) && true && true) (K p0 p1 p2 (wrap i64 (p3 + 1)) p4 p5 p6 p7 p8 p9 (List.set p10 (toNat (wrap i64 (wrap i64 (p0 * 64) + p3))) (Sp.orI u32 (getD p10 (toNat (wrap i64 (wrap i64 (p0 * 64) + p3))) 0) p1)) p11)))) else k (E_60_0.e0 p2 p4 p5 p6 p7 p8 p9 p10 p11)
noncomputable def Sp.L_60_0 : Nat → Int → Int → Int → Int → (Int × Unit) → List Int → List Int → (Int × Int × Unit) → (Int × Int × Unit) → (Int × Unit) → List Int → List Int → Option E_60_0
 | 0, _, _, _, _, _, _, _, _, _, _, _, _ => none
 | m + 1, p0, p1, p2, p3, p4, p5, p6, p7, p8, p9, p10, p11 => S_60_0 (L_60_0 m) some p0 p1 p2 p3 p4 p5 p6 p7 p8 p9 p10 p11
noncomputable def l_60_0 (m : Nat) (a : T_60_0.E) : Option E_60_0 := L_60_0 m a.1 a.2.1 a.2.2.1 a.2.2.2.1 a.2.2.2.2.1 a.2.2.2.2.2.1 a.2.2.2.2.2.2.1 a.2.2.2.2.2.2.2.1 a.2.2.2.2.2.2.2.2.1 a.2.2.2.2.2.2.2.2.2.1 a.2.2.2.2.2.2.2.2.2.2.1 a.2.2.2.2.2.2.2.2.2.2.2.1
noncomputable def O_60_0 {R : Type} : Orc R := orL T_60_0 (l_60_0 FU) Y_60_0
theorem OK_60_0 {R : Type} : okF (R := R) sm_60 1 (nf 60 0) O_60_0 := lp ov_60_60_ok (os := []) trivial T_60_0 l_60_0 (fun R K k a => S_60_0 (fun p0 p1 p2 p3 p4 p5 p6 p7 p8 p9 p10 p11 => K (p0, p1, p2, p3, p4, p5, p6, p7, p8, p9, p10, p11, ())) k a.1 a.2.1 a.2.2.1 a.2.2.2.1 a.2.2.2.2.1 a.2.2.2.2.2.1 a.2.2.2.2.2.2.1 a.2.2.2.2.2.2.2.1 a.2.2.2.2.2.2.2.2.1 a.2.2.2.2.2.2.2.2.2.1 a.2.2.2.2.2.2.2.2.2.2.1 a.2.2.2.2.2.2.2.2.2.2.2.1) Y_60_0 (fun _ => rfl) (fun _ _ => rfl) (fun k K a => by kernel_rfl) (fun Y K a => by
 unfold S_60_0
 repeat' first | apply gdN | apply condN | rfl) (ok0 _)
noncomputable def F_60 (a0 : ((List Int) × ((List Int) × (Int × Unit)))) (a1 : Int) (a2 : (Int × (Int × Unit))) : Option (((List Int) × ((List Int) × (Int × Unit))) × (Int × (Int × Unit)) × Int × Unit) :=
 gd (p_54 a0) (bif !(v_54 a0).1 then some (([], [], 0, PUnit.unit), (0, 0, PUnit.unit), 1, PUnit.unit) else gd (p_13 a2) (bif !(v_13 a2).1 then some (([], [], 0, PUnit.unit), (0, 0, PUnit.unit), 1, PUnit.unit) else bif decide (a1 < 0) then some (([], [], 0, PUnit.unit), (0, 0, PUnit.unit), 2, PUnit.unit) else bif decide (a1 ≥ (↑(length (a0.2.1)) : Int)) then some (([], [], 0, PUnit.unit), (0, 0, PUnit.unit), 2, PUnit.unit) else gd (inB a1 (length (a0.2.1))) (bif getD (a0.2.1) (toNat a1) 0 == a0.2.2.1 then some (([], [], 0, PUnit.unit), (0, 0, PUnit.unit), 19, PUnit.unit) else gd (p_101 a2) (B_60_102_0_0 (L_60_102_0_0 4611686018427387904 0 a0 a2 (0, PUnit.unit) (0, 0, PUnit.unit) ((v_101 a2).2.1) a0 (0, PUnit.unit) [] [] (a0.2.2.1, PUnit.unit) [] []) fun y40 y41 y42 y43 y44 y45 y46 y47 y48 y49 y50 y51 => B_60_102_1_0 (L_60_102_1_0 4611686018427387904 0 y40 y41 y42 y43 y44 y45 y46 y47 y48 y49 y50 y51) fun y52 y53 y54 y55 y56 y57 y58 y59 y60 y61 y62 => bif decide (y53.1 > 0) then gd (inB a1 (length y62)) (gd (decide (toNat a1 < length y62) && true) (gd (inB a1 (length y62)) (gd (decide (toNat a1 < length y62) && true && true) (B_60_0 (L_60_0 4611686018427387904 a1 ((v_101 a2).1) ((v_101 a2).2.2.1) 0 y54 [] [] y55 y56 y60 y61 (List.set y62 (toNat a1) (wrap i64 (getD y62 (toNat a1) (0 :Int) + (1 :Int))))) fun y65 y66 y67 y68 y69 y70 y71 y72 y73 => some ((y72, y73, y71), y70, y65, PUnit.unit))))) else some ((y61, y62, y60), y56, (v_101 a2).2.2.1, PUnit.unit)))))
noncomputable def Sp.p_60 (a0 : ((List Int) × ((List Int) × (Int × Unit)))) (a1 : Int) (a2 : (Int × (Int × Unit))) : Bool := (F_60 a0 a1 a2).isSome
noncomputable def Sp.v_60 (a0 : ((List Int) × ((List Int) × (Int × Unit)))) (a1 : Int) (a2 : (Int × (Int × Unit))) : ((List Int) × ((List Int) × (Int × Unit))) × (Int × (Int × Unit)) × Int × Unit := (F_60 a0 a1 a2).getD (dfH R_60)
noncomputable def s_60 : Summ := shS A_60 R_60 (fun x => p_60 x.1 x.2.1 x.2.2.1) (fun x => v_60 x.1 x.2.1 x.2.2.1)
theorem pv_60 (a0 : ((List Int) × ((List Int) × (Int × Unit)))) (a1 : Int) (a2 : (Int × (Int × Unit))) {y : ((List Int) × ((List Int) × (Int × Unit))) × (Int × (Int × Unit)) × Int × Unit} (h : F_60 a0 a1 a2 = some y) : p_60 a0 a1 a2 = true ∧ v_60 a0 a1 a2 = y := pvG h
theorem run_60 (x : HDen A_60) (y : HDen R_60) (h : F_60 x.1 x.2.1 x.2.2.1 = some y) : rnF sm_60 2 60 A_60 R_60 x y := runG ov_60_60_ok (os := [O_60_0]) ⟨OK_60_0, trivial⟩ (Eq.trans (by kernel_rfl) h)
end
noncomputable section
abbrev Zt103_0 : Type := List Int × List Int × Int × Unit
abbrev Zt103_1 : Type := Int × Int × Unit
abbrev Zy103_2 : Ty := (.pair (.slice (.int .u32)) (.pair (.slice (.int .i64)) (.pair (.int .i64) .unit)))
abbrev Zy103_3 : Ty := (.pair (.int .i64) (.pair (.int .u32) .unit))
abbrev A_103 : List Ty := [(.pair (.slice (.int .u32)) (.pair (.slice (.int .i64)) (.pair (.int .i64) .unit))), (.int .i64), (.int .u32), (.pair (.int .i64) (.pair (.int .u32) .unit))]
abbrev R_103 : List Ty := [(.pair (.slice (.int .u32)) (.pair (.slice (.int .i64)) (.pair (.int .i64) .unit))), (.pair (.int .i64) (.pair (.int .u32) .unit)), (.int .i64)]
noncomputable def sm_103 : Nat → Option Summ := smL [(13, s_13), (54, s_54), (101, s_101)]
noncomputable def T_103_102_0_0 : PS := ⟨44, [(1, .kc (.ptr 5 [])), (2, .kc (.ptr 6 [])), (3, .kc (.ptr 9 [])), (4, .hv (.int .i64))], [.mem (.hv Zy103_2), .mem (.hv Zy103_3), .mem (.pr (.kc (.nil 37 (.int .u32))) (.pr (.kc (.nil 3 (.int .i64))) (.hv (.pair (.int .i64) .unit)))), .mem (.hv Zy103_3), .mem (.hv Zy103_3), .mem (.hv Zy103_2), .mem (.pr (.kc (.whole 7)) (.pr (.kc (.whole 8)) (.hv (.pair (.int .i64) .unit)))), .vec 37 (.int .u32), .vec 3 (.int .i64), .mem (.pr (.kc (.whole 10)) (.pr (.kc (.whole 11)) (.hv (.pair (.int .i64) .unit)))), .vec 37 (.int .u32), .vec 3 (.int .i64)], 5⟩
inductive Sp.E_103_102_0_0 where
 | e0 (p1 : Zt103_0) (p2 : Zt103_1) (p3 : Int × Unit) (p4 p5 : Zt103_1) (p6 : Zt103_0) (p7 : Int × Unit) (p8 p9 : List Int) (p10 : Int × Unit) (p11 p12 : List Int)
noncomputable def Sp.B_103_102_0_0 {R : Type} (r : Option E_103_102_0_0) (k0 : Zt103_0 → Zt103_1 → (Int × Unit) → Zt103_1 → Zt103_1 → Zt103_0 → (Int × Unit) → List Int → List Int → (Int × Unit) → List Int → List Int → Option R) : Option R := match r with
 | none => none
 | some (.e0 p1 p2 p3 p4 p5 p6 p7 p8 p9 p10 p11 p12) => k0 p1 p2 p3 p4 p5 p6 p7 p8 p9 p10 p11 p12
noncomputable def Y_103_102_0_0 {R : Type} (k : Ex → St → Option R) : E_103_102_0_0 → Option R
 | .e0 p1 p2 p3 p4 p5 p6 p7 p8 p9 p10 p11 p12 => k (Ex.exit 0) (sx 44 [(1, CV.ptr 5 []), (2, CV.ptr 6 []), (3, CV.ptr 9 [])] [Blk.mem (CV.pure (Ty.pair (Ty.slice (Ty.int u32)) (Ty.pair (Ty.slice (Ty.int i64)) (Ty.pair (Ty.int i64) Ty.unit))) p1), Blk.mem (CV.pure (Ty.pair (Ty.int i64) (Ty.pair (Ty.int u32) Ty.unit)) p2), Blk.mem (CV.pair (CV.nil 37 (Ty.int u32)) (CV.pair (CV.nil 3 (Ty.int i64)) (CV.pure (Ty.pair (Ty.int i64) Ty.unit) p3))), Blk.mem (CV.pure (Ty.pair (Ty.int i64) (Ty.pair (Ty.int u32) Ty.unit)) p4), Blk.mem (CV.pure (Ty.pair (Ty.int i64) (Ty.pair (Ty.int u32) Ty.unit)) p5), Blk.mem (CV.pure (Ty.pair (Ty.slice (Ty.int u32)) (Ty.pair (Ty.slice (Ty.int i64)) (Ty.pair (Ty.int i64) Ty.unit))) p6), Blk.mem (CV.pair (CV.whole 7) (CV.pair (CV.whole 8) (CV.pure (Ty.pair (Ty.int i64) Ty.unit) p7))), Blk.vec 37 (Ty.int u32) p8, Blk.vec 3 (Ty.int i64) p9, Blk.mem (CV.pair (CV.whole 10) (CV.pair (CV.whole 11) (CV.pure (Ty.pair (Ty.int i64) Ty.unit) p10))), Blk.vec 37 (Ty.int u32) p11, Blk.vec 3 (Ty.int i64) p12] 5)
noncomputable def Sp.S_103_102_0_0 {R : Type} (K : Int → (List Int × List Int × Int × Unit) → (Int × Int × Unit) → (Int × Unit) → (Int × Int × Unit) → (Int × Int × Unit) → (List Int × List Int × Int × Unit) → (Int × Unit) → List Int → List Int → (Int × Unit) → List Int → List Int → Option R) (k : E_103_102_0_0 → Option R) (p0 : Int) (p1 : List Int × List Int × Int × Unit) (p2 : Int × Int × Unit) (p3 : Int × Unit) (p4 p5 : Int × Int × Unit) (p6 : List Int × List Int × Int × Unit) (p7 : Int × Unit) (p8 p9 : List Int) (p10 : Int × Unit) (p11 p12 : List Int) : Option R :=
 bif decide (p0 < (↑(length (p6.1)) : Int)) then gd (inB p0 (length (p6.1))) (gd (room (length p11 + 1) 4) (K (wrap i64 (p0 + 1)) p1 p2 p3 p4 p5 p6 p7 p8 p9 p10 (p11 ++ [getD (p6.1) (toNat p0) 0]) p12)) else k (E_103_102_0_0.e0 p1 p2 p3 p4 p5 p6 p7 p8 p9 p10 p11 p12)
noncomputable def Sp.L_103_102_0_0 : Nat → Int → (List Int × List Int × Int × Unit) → (Int × Int × Unit) → (Int × Unit) → (Int × Int × Unit) → (Int × Int × Unit) → (List Int × List Int × Int × Unit) → (Int × Unit) → List Int → List Int → (Int × Unit) → List Int → List Int → Option E_103_102_0_0
 | 0, _, _, _, _, _, _, _, _, _, _, _, _, _ => none
 | m + 1, p0, p1, p2, p3, p4, p5, p6, p7, p8, p9, p10, p11, p12 => S_103_102_0_0 (L_103_102_0_0 m) some p0 p1 p2 p3 p4 p5 p6 p7 p8 p9 p10 p11 p12
noncomputable def l_103_102_0_0 (m : Nat) (a : T_103_102_0_0.E) : Option E_103_102_0_0 := L_103_102_0_0 m a.1 a.2.1 a.2.2.1 a.2.2.2.1 a.2.2.2.2.1 a.2.2.2.2.2.1 a.2.2.2.2.2.2.1 a.2.2.2.2.2.2.2.1 a.2.2.2.2.2.2.2.2.1 a.2.2.2.2.2.2.2.2.2.1 a.2.2.2.2.2.2.2.2.2.2.1 a.2.2.2.2.2.2.2.2.2.2.2.1 a.2.2.2.2.2.2.2.2.2.2.2.2.1
noncomputable def O_103_102_0_0 {R : Type} : Orc R := orL T_103_102_0_0 (l_103_102_0_0 FU) Y_103_102_0_0
theorem OK_103_102_0_0 {R : Type} : okF (R := R) sm_103 0 (nf 102 0) O_103_102_0_0 := lp0 T_103_102_0_0 l_103_102_0_0 (fun R K k a => S_103_102_0_0 (fun p0 p1 p2 p3 p4 p5 p6 p7 p8 p9 p10 p11 p12 => K (p0, p1, p2, p3, p4, p5, p6, p7, p8, p9, p10, p11, p12, ())) k a.1 a.2.1 a.2.2.1 a.2.2.2.1 a.2.2.2.2.1 a.2.2.2.2.2.1 a.2.2.2.2.2.2.1 a.2.2.2.2.2.2.2.1 a.2.2.2.2.2.2.2.2.1 a.2.2.2.2.2.2.2.2.2.1 a.2.2.2.2.2.2.2.2.2.2.1 a.2.2.2.2.2.2.2.2.2.2.2.1 a.2.2.2.2.2.2.2.2.2.2.2.2.1) Y_103_102_0_0 (fun _ _ _ => by kernel_rfl) (fun _ _ _ => by
 unfold S_103_102_0_0
 repeat' first | apply gdN | apply condN | rfl) (ok0 _)
noncomputable def T_103_102_1_0 : PS := ⟨44, [(1, .kc (.ptr 5 [])), (2, .kc (.ptr 6 [])), (3, .kc (.ptr 9 [])), (5, .hv (.int .i64))], [.mem (.hv Zy103_2), .mem (.hv Zy103_3), .mem (.pr (.kc (.nil 37 (.int .u32))) (.pr (.kc (.nil 3 (.int .i64))) (.hv (.pair (.int .i64) .unit)))), .mem (.hv Zy103_3), .mem (.hv Zy103_3), .mem (.hv Zy103_2), .mem (.pr (.kc (.whole 7)) (.pr (.kc (.whole 8)) (.hv (.pair (.int .i64) .unit)))), .vec 37 (.int .u32), .vec 3 (.int .i64), .mem (.pr (.kc (.whole 10)) (.pr (.kc (.whole 11)) (.hv (.pair (.int .i64) .unit)))), .vec 37 (.int .u32), .vec 3 (.int .i64)], 5⟩
inductive Sp.E_103_102_1_0 where
 | e0 (p1 : Zt103_0) (p2 : Zt103_1) (p3 : Int × Unit) (p4 p5 : Zt103_1) (p7 : Int × Unit) (p8 p9 : List Int) (p10 : Int × Unit) (p11 p12 : List Int)
noncomputable def Sp.B_103_102_1_0 {R : Type} (r : Option E_103_102_1_0) (k0 : Zt103_0 → Zt103_1 → (Int × Unit) → Zt103_1 → Zt103_1 → (Int × Unit) → List Int → List Int → (Int × Unit) → List Int → List Int → Option R) : Option R := match r with
 | none => none
 | some (.e0 p1 p2 p3 p4 p5 p7 p8 p9 p10 p11 p12) => k0 p1 p2 p3 p4 p5 p7 p8 p9 p10 p11 p12
noncomputable def Y_103_102_1_0 {R : Type} (k : Ex → St → Option R) : E_103_102_1_0 → Option R
 | .e0 p1 p2 p3 p4 p5 p7 p8 p9 p10 p11 p12 => k (Ex.exit 2) (sx 44 [(2, CV.ptr 5 []), (3, CV.ptr 8 [])] [Blk.mem (CV.pure (Ty.pair (Ty.slice (Ty.int u32)) (Ty.pair (Ty.slice (Ty.int i64)) (Ty.pair (Ty.int i64) Ty.unit))) p1), Blk.mem (CV.pure (Ty.pair (Ty.int i64) (Ty.pair (Ty.int u32) Ty.unit)) p2), Blk.mem (CV.pair (CV.nil 37 (Ty.int u32)) (CV.pair (CV.nil 3 (Ty.int i64)) (CV.pure (Ty.pair (Ty.int i64) Ty.unit) p3))), Blk.mem (CV.pure (Ty.pair (Ty.int i64) (Ty.pair (Ty.int u32) Ty.unit)) p4), Blk.mem (CV.pure (Ty.pair (Ty.int i64) (Ty.pair (Ty.int u32) Ty.unit)) p5), Blk.mem (CV.pair (CV.whole 6) (CV.pair (CV.whole 7) (CV.pure (Ty.pair (Ty.int i64) Ty.unit) p7))), Blk.vec 37 (Ty.int u32) p8, Blk.vec 3 (Ty.int i64) p9, Blk.mem (CV.pair (CV.whole 9) (CV.pair (CV.whole 10) (CV.pure (Ty.pair (Ty.int i64) Ty.unit) p10))), Blk.vec 37 (Ty.int u32) p11, Blk.vec 3 (Ty.int i64) p12] 5)
noncomputable def Sp.S_103_102_1_0 {R : Type} (K : Int → (List Int × List Int × Int × Unit) → (Int × Int × Unit) → (Int × Unit) → (Int × Int × Unit) → (Int × Int × Unit) → (List Int × List Int × Int × Unit) → (Int × Unit) → List Int → List Int → (Int × Unit) → List Int → List Int → Option R) (k : E_103_102_1_0 → Option R) (p0 : Int) (p1 : List Int × List Int × Int × Unit) (p2 : Int × Int × Unit) (p3 : Int × Unit) (p4 p5 : Int × Int × Unit) (p6 : List Int × List Int × Int × Unit) (p7 : Int × Unit) (p8 p9 : List Int) (p10 : Int × Unit) (p11 p12 : List Int) : Option R :=
 bif decide (p0 < (↑(length (p6.2.1)) : Int)) then gd (inB p0 (length (p6.2.1))) (gd (room (length p12 + 1) 8) (K (wrap i64 (p0 + 1)) p1 p2 p3 p4 p5 p6 p7 p8 p9 p10 p11 (p12 ++ [getD (p6.2.1) (toNat p0) 0]))) else k (E_103_102_1_0.e0 p1 p2 p3 p4 p5 p7 p8 p9 p10 p11 p12)
noncomputable def Sp.L_103_102_1_0 : Nat → Int → (List Int × List Int × Int × Unit) → (Int × Int × Unit) → (Int × Unit) → (Int × Int × Unit) → (Int × Int × Unit) → (List Int × List Int × Int × Unit) → (Int × Unit) → List Int → List Int → (Int × Unit) → List Int → List Int → Option E_103_102_1_0
 | 0, _, _, _, _, _, _, _, _, _, _, _, _, _ => none
 | m + 1, p0, p1, p2, p3, p4, p5, p6, p7, p8, p9, p10, p11, p12 => S_103_102_1_0 (L_103_102_1_0 m) some p0 p1 p2 p3 p4 p5 p6 p7 p8 p9 p10 p11 p12
noncomputable def l_103_102_1_0 (m : Nat) (a : T_103_102_1_0.E) : Option E_103_102_1_0 := L_103_102_1_0 m a.1 a.2.1 a.2.2.1 a.2.2.2.1 a.2.2.2.2.1 a.2.2.2.2.2.1 a.2.2.2.2.2.2.1 a.2.2.2.2.2.2.2.1 a.2.2.2.2.2.2.2.2.1 a.2.2.2.2.2.2.2.2.2.1 a.2.2.2.2.2.2.2.2.2.2.1 a.2.2.2.2.2.2.2.2.2.2.2.1 a.2.2.2.2.2.2.2.2.2.2.2.2.1
noncomputable def O_103_102_1_0 {R : Type} : Orc R := orL T_103_102_1_0 (l_103_102_1_0 FU) Y_103_102_1_0
theorem OK_103_102_1_0 {R : Type} : okF (R := R) sm_103 0 (nf 102 1) O_103_102_1_0 := lp0 T_103_102_1_0 l_103_102_1_0 (fun R K k a => S_103_102_1_0 (fun p0 p1 p2 p3 p4 p5 p6 p7 p8 p9 p10 p11 p12 => K (p0, p1, p2, p3, p4, p5, p6, p7, p8, p9, p10, p11, p12, ())) k a.1 a.2.1 a.2.2.1 a.2.2.2.1 a.2.2.2.2.1 a.2.2.2.2.2.1 a.2.2.2.2.2.2.1 a.2.2.2.2.2.2.2.1 a.2.2.2.2.2.2.2.2.1 a.2.2.2.2.2.2.2.2.2.1 a.2.2.2.2.2.2.2.2.2.2.1 a.2.2.2.2.2.2.2.2.2.2.2.1 a.2.2.2.2.2.2.2.2.2.2.2.2.1) Y_103_102_1_0 (fun _ _ _ => by kernel_rfl) (fun _ _ _ => by
 unfold S_103_102_1_0
 repeat' first | apply gdN | apply condN | rfl) (ok0 _)
noncomputable def g_103_102 {R : Type} : List CV → List Blk → (CV → List Blk → Option R) → Option R := evFnL sm_103 FU (ovr noO (evFn sm_103 fns FU 0)) (mkT (fB fns 102) [O_103_102_0_0, O_103_102_1_0]) (fO fns 102)
theorem g_103_102_ok {R : Type} (args : List CV) (hp : List Blk) (k : CV → List Blk → Option R) (r : R) (h : g_103_102 args hp k = some r) : evFn sm_103 fns FU 1 102 args hp k = some r := runG noO_ok (os := [O_103_102_0_0, O_103_102_1_0]) ⟨OK_103_102_0_0, OK_103_102_1_0, trivial⟩ h
noncomputable def ov_103_103 {R : Type} : Nat → Option (List CV → List Blk → (CV → List Blk → Option R) → Option R) := fun f' => bif Nat.beq f' 102 then some g_103_102 else none
theorem ov_103_103_ok {R : Type} : OvrOK (R := R) ov_103_103 (evFn sm_103 fns FU 1) := by
 intro f' g h args hp k r hg
 dsimp only [ov_103_103] at h
 by_cases h102 : f' = 102
 · subst h102
   injection h with h
   subst h
   exact evFn_le 0 (g_103_102_ok _ _ _ _ hg)
 rw [nbeq_ne h102, cond_false] at h
 cases h
noncomputable def F_103 (a0 : ((List Int) × ((List Int) × (Int × Unit)))) (a1 a2 : Int) (a3 : (Int × (Int × Unit))) : Option (((List Int) × ((List Int) × (Int × Unit))) × (Int × (Int × Unit)) × Int × Unit) :=
 gd (p_54 a0) (bif !(v_54 a0).1 then some (([], [], 0, PUnit.unit), (0, 0, PUnit.unit), 1, PUnit.unit) else gd (p_13 a3) (bif !(v_13 a3).1 then some (([], [], 0, PUnit.unit), (0, 0, PUnit.unit), 1, PUnit.unit) else bif decide (a1 < 0) then some (([], [], 0, PUnit.unit), (0, 0, PUnit.unit), 2, PUnit.unit) else bif decide (a1 ≥ (↑(length (a0.1)) : Int)) then some (([], [], 0, PUnit.unit), (0, 0, PUnit.unit), 2, PUnit.unit) else gd (p_101 a3) (B_103_102_0_0 (L_103_102_0_0 4611686018427387904 0 a0 a3 (0, PUnit.unit) (0, 0, PUnit.unit) ((v_101 a3).2.1) a0 (0, PUnit.unit) [] [] (a0.2.2.1, PUnit.unit) [] []) fun y31 y32 y33 y34 y35 y36 y37 y38 y39 y40 y41 y42 => B_103_102_1_0 (L_103_102_1_0 4611686018427387904 0 y31 y32 y33 y34 y35 y36 y37 y38 y39 y40 y41 y42) fun y43 y44 y45 y46 y47 y48 y49 y50 y51 y52 y53 => gd (inB a1 (length (y43.1))) (gd (inB a1 (length y52)) (gd (decide (toNat a1 < length y52) && true && true) (some ((List.set y52 (toNat a1) (Sp.andI u32 (getD (y43.1) (toNat a1) 0) (Sp.orI u32 a2 (Sp.xorI u32 4294967295 ((v_101 a3).1)))), y53, y51), y47, (v_101 a3).2.2.1, PUnit.unit)))))))
noncomputable def Sp.p_103 (a0 : ((List Int) × ((List Int) × (Int × Unit)))) (a1 a2 : Int) (a3 : (Int × (Int × Unit))) : Bool := (F_103 a0 a1 a2 a3).isSome
noncomputable def Sp.v_103 (a0 : ((List Int) × ((List Int) × (Int × Unit)))) (a1 a2 : Int) (a3 : (Int × (Int × Unit))) : ((List Int) × ((List Int) × (Int × Unit))) × (Int × (Int × Unit)) × Int × Unit := (F_103 a0 a1 a2 a3).getD (dfH R_103)
noncomputable def s_103 : Summ := shS A_103 R_103 (fun x => p_103 x.1 x.2.1 x.2.2.1 x.2.2.2.1) (fun x => v_103 x.1 x.2.1 x.2.2.1 x.2.2.2.1)
theorem pv_103 (a0 : ((List Int) × ((List Int) × (Int × Unit)))) (a1 a2 : Int) (a3 : (Int × (Int × Unit))) {y : ((List Int) × ((List Int) × (Int × Unit))) × (Int × (Int × Unit)) × Int × Unit} (h : F_103 a0 a1 a2 a3 = some y) : p_103 a0 a1 a2 a3 = true ∧ v_103 a0 a1 a2 a3 = y := pvG h
theorem run_103 (x : HDen A_103) (y : HDen R_103) (h : F_103 x.1 x.2.1 x.2.2.1 x.2.2.2.1 = some y) : rnF sm_103 2 103 A_103 R_103 x y := runG ov_103_103_ok (os := []) trivial (Eq.trans (by kernel_rfl) h)
end
noncomputable section
abbrev A_61 : List Ty := [(.pair (.pair (.pair (.slice (.int .u32)) (.pair (.slice (.int .i64)) (.pair (.int .i64) .unit))) (.pair (.arr 32 (.int .u8)) .unit)) (.pair (.pair (.int .i64) (.pair (.int .u32) .unit)) (.pair (.int .i64) .unit))), (.int .i64), (.slice (.int .u32))]
abbrev R_61 : List Ty := [(.pair (.pair (.pair (.slice (.int .u32)) (.pair (.slice (.int .i64)) (.pair (.int .i64) .unit))) (.pair (.arr 32 (.int .u8)) .unit)) (.pair (.pair (.int .i64) (.pair (.int .u32) .unit)) (.pair (.int .i64) .unit)))]
noncomputable def sm_61 : Nat → Option Summ := smL [(103, s_103)]
noncomputable def T_61_0 : PS := ⟨41, [(1, .hv (.int .i64)), (2, .hv (.slice (.int .u32))), (3, .kc (.ptr 0 [])), (6, .kc (.ptr 1 [])), (7, .hv (.int .i64))], [.mem (.hv (.pair (.pair (.pair (.slice (.int .u32)) (.pair (.slice (.int .i64)) (.pair (.int .i64) .unit))) (.pair (.arr 32 (.int .u8)) .unit)) (.pair (.pair (.int .i64) (.pair (.int .u32) .unit)) (.pair (.int .i64) .unit)))), .mem (.pr (.pr (.pr (.kc (.whole 2)) (.pr (.kc (.whole 3)) (.hv (.pair (.int .i64) .unit)))) (.hv (.pair (.arr 32 (.int .u8)) .unit))) (.hv (.pair (.pair (.int .i64) (.pair (.int .u32) .unit)) (.pair (.int .i64) .unit)))), .vec 37 (.int .u32), .vec 3 (.int .i64)], 0⟩
inductive Sp.E_61_0 where
 | e0 (p3 : ((List Int × List Int × Int × Unit) × List Int × Unit) × (Int × Int × Unit) × Int × Unit) (p4 : Int × Unit) (p5 : List Int × Unit) (p6 : (Int × Int × Unit) × Int × Unit) (p7 p8 : List Int)
noncomputable def Sp.B_61_0 {R : Type} (r : Option E_61_0) (k0 : (((List Int × List Int × Int × Unit) × List Int × Unit) × (Int × Int × Unit) × Int × Unit) → (Int × Unit) → (List Int × Unit) → ((Int × Int × Unit) × Int × Unit) → List Int → List Int → Option R) : Option R := match r with
 | none => none
 | some (.e0 p3 p4 p5 p6 p7 p8) => k0 p3 p4 p5 p6 p7 p8
noncomputable def Y_61_0 {R : Type} (k : Ex → St → Option R) : E_61_0 → Option R
 | .e0 p3 p4 p5 p6 p7 p8 => k (Ex.exit 0) (sx 41 [(3, CV.ptr 0 []), (6, CV.ptr 1 [])] [Blk.mem (CV.pure (Ty.pair (Ty.pair (Ty.pair (Ty.slice (Ty.int u32)) (Ty.pair (Ty.slice (Ty.int i64)) (Ty.pair (Ty.int i64) Ty.unit))) (Ty.pair (Ty.arr 32 (Ty.int u8)) Ty.unit)) (Ty.pair (Ty.pair (Ty.int i64) (Ty.pair (Ty.int u32) Ty.unit)) (Ty.pair (Ty.int i64) Ty.unit))) p3), Blk.mem (CV.pair (CV.pair (CV.pair (CV.whole 2) (CV.pair (CV.whole 3) (CV.pure (Ty.pair (Ty.int i64) Ty.unit) p4))) (CV.pure (Ty.pair (Ty.arr 32 (Ty.int u8)) Ty.unit) p5)) (CV.pure (Ty.pair (Ty.pair (Ty.int i64) (Ty.pair (Ty.int u32) Ty.unit)) (Ty.pair (Ty.int i64) Ty.unit)) p6)), Blk.vec 37 (Ty.int u32) p7, Blk.vec 3 (Ty.int i64) p8])
noncomputable def Sp.S_61_0 {R : Type} (K : Int → List Int → Int → (((List Int × List Int × Int × Unit) × List Int × Unit) × (Int × Int × Unit) × Int × Unit) → (Int × Unit) → (List Int × Unit) → ((Int × Int × Unit) × Int × Unit) → List Int → List Int → Option R) (k : E_61_0 → Option R) (p0 : Int) (p1 : List Int) (p2 : Int) (p3 : ((List Int × List Int × Int × Unit) × List Int × Unit) × (Int × Int × Unit) × Int × Unit) (p4 : Int × Unit) (p5 : List Int × Unit) (p6 : (Int × Int × Unit) × Int × Unit) (p7 p8 : List Int) : Option R :=
 bif decide (p2 < (↑(length p1) : Int)) then bif p3.2.2.1 == 0 then gd (inB p2 (length p1)) (gd (p_103 (p3.1.1) (wrap i64 (p0 + p2)) (getD p1 (toNat p2) 0) (p3.2.1)) (K p0 p1 (wrap i64 (p2 + 1)) (((v_103 (p3.1.1) (wrap i64 (p0 + p2)) (getD p1 (toNat p2) 0) (p3.2.1)).1, p3.1.2), (v_103 (p3.1.1) (wrap i64 (p0 + p2)) (getD p1 (toNat p2) 0) (p3.2.1)).2.1, (v_103 (p3.1.1) (wrap i64 (p0 + p2)) (getD p1 (toNat p2) 0) (p3.2.1)).2.2.1, p3.2.2.2) p4 p5 p6 p7 p8)) else k (E_61_0.e0 p3 p4 p5 p6 p7 p8) else k (E_61_0.e0 p3 p4 p5 p6 p7 p8)
noncomputable def Sp.L_61_0 : Nat → Int → List Int → Int → (((List Int × List Int × Int × Unit) × List Int × Unit) × (Int × Int × Unit) × Int × Unit) → (Int × Unit) → (List Int × Unit) → ((Int × Int × Unit) × Int × Unit) → List Int → List Int → Option E_61_0
 | 0, _, _, _, _, _, _, _, _, _ => none
 | m + 1, p0, p1, p2, p3, p4, p5, p6, p7, p8 => S_61_0 (L_61_0 m) some p0 p1 p2 p3 p4 p5 p6 p7 p8
noncomputable def l_61_0 (m : Nat) (a : T_61_0.E) : Option E_61_0 := L_61_0 m a.1 a.2.1 a.2.2.1 a.2.2.2.1 a.2.2.2.2.1 a.2.2.2.2.2.1 a.2.2.2.2.2.2.1 a.2.2.2.2.2.2.2.1 a.2.2.2.2.2.2.2.2.1
noncomputable def O_61_0 {R : Type} : Orc R := orL T_61_0 (l_61_0 FU) Y_61_0
theorem OK_61_0 {R : Type} : okF (R := R) sm_61 0 (nf 61 0) O_61_0 := lp0 T_61_0 l_61_0 (fun R K k a => S_61_0 (fun p0 p1 p2 p3 p4 p5 p6 p7 p8 => K (p0, p1, p2, p3, p4, p5, p6, p7, p8, ())) k a.1 a.2.1 a.2.2.1 a.2.2.2.1 a.2.2.2.2.1 a.2.2.2.2.2.1 a.2.2.2.2.2.2.1 a.2.2.2.2.2.2.2.1 a.2.2.2.2.2.2.2.2.1) Y_61_0 (fun _ _ _ => by kernel_rfl) (fun _ _ _ => by
 unfold S_61_0
 repeat' first | apply gdN | apply condN | rfl) (ok0 _)
noncomputable def F_61 (a0 : ((((List Int) × ((List Int) × (Int × Unit))) × ((List Int) × Unit)) × ((Int × (Int × Unit)) × (Int × Unit)))) (a1 : Int) (a2 : (List Int)) : Option (((((List Int) × ((List Int) × (Int × Unit))) × ((List Int) × Unit)) × ((Int × (Int × Unit)) × (Int × Unit))) × Unit) :=
 B_61_0 (L_61_0 4611686018427387904 a1 a2 0 a0 (0, PUnit.unit) (replicate 32 (0 :Int), PUnit.unit) ((0, 0, PUnit.unit), 0, PUnit.unit) [] []) fun y6 y7 y8 y9 y10 y11 => some (y6, PUnit.unit)
noncomputable def Sp.p_61 (a0 : ((((List Int) × ((List Int) × (Int × Unit))) × ((List Int) × Unit)) × ((Int × (Int × Unit)) × (Int × Unit)))) (a1 : Int) (a2 : (List Int)) : Bool := (F_61 a0 a1 a2).isSome
noncomputable def Sp.v_61 (a0 : ((((List Int) × ((List Int) × (Int × Unit))) × ((List Int) × Unit)) × ((Int × (Int × Unit)) × (Int × Unit)))) (a1 : Int) (a2 : (List Int)) : ((((List Int) × ((List Int) × (Int × Unit))) × ((List Int) × Unit)) × ((Int × (Int × Unit)) × (Int × Unit))) × Unit := (F_61 a0 a1 a2).getD (dfH R_61)
noncomputable def s_61 : Summ := shS A_61 R_61 (fun x => p_61 x.1 x.2.1 x.2.2.1) (fun x => v_61 x.1 x.2.1 x.2.2.1)
theorem pv_61 (a0 : ((((List Int) × ((List Int) × (Int × Unit))) × ((List Int) × Unit)) × ((Int × (Int × Unit)) × (Int × Unit)))) (a1 : Int) (a2 : (List Int)) {y : ((((List Int) × ((List Int) × (Int × Unit))) × ((List Int) × Unit)) × ((Int × (Int × Unit)) × (Int × Unit))) × Unit} (h : F_61 a0 a1 a2 = some y) : p_61 a0 a1 a2 = true ∧ v_61 a0 a1 a2 = y := pvG h
theorem run_61 (x : HDen A_61) (y : HDen R_61) (h : F_61 x.1 x.2.1 x.2.2.1 = some y) : rnF sm_61 1 61 A_61 R_61 x y := runG noO_ok (os := [O_61_0]) ⟨OK_61_0, trivial⟩ (Eq.trans (by kernel_rfl) h)
end
noncomputable section
abbrev A_62 : List Ty := [(.pair (.pair (.slice (.int .u32)) (.pair (.slice (.int .i64)) (.pair (.int .i64) .unit))) (.pair (.arr 32 (.int .u8)) .unit)), (.int .i64)]
abbrev R_62 : List Ty := [(.int .i64)]
noncomputable def sm_62 : Nat → Option Summ := smL []
noncomputable def F_62 (a0 : (((List Int) × ((List Int) × (Int × Unit))) × ((List Int) × Unit))) (a1 : Int) : Option (Int × Unit) :=
 some (wrap i64 (Int.tdiv (wrap i64 (a1 * (↑(length (a0.1.1)) : Int))) 2), PUnit.unit)
noncomputable def Sp.p_62 (a0 : (((List Int) × ((List Int) × (Int × Unit))) × ((List Int) × Unit))) (a1 : Int) : Bool := (F_62 a0 a1).isSome
noncomputable def Sp.v_62 (a0 : (((List Int) × ((List Int) × (Int × Unit))) × ((List Int) × Unit))) (a1 : Int) : Int × Unit := (F_62 a0 a1).getD (dfH R_62)
noncomputable def s_62 : Summ := shN A_62 R_62 (fun x => p_62 x.1 x.2.1) (fun x => v_62 x.1 x.2.1)
theorem pv_62 (a0 : (((List Int) × ((List Int) × (Int × Unit))) × ((List Int) × Unit))) (a1 : Int) {y : Int × Unit} (h : F_62 a0 a1 = some y) : p_62 a0 a1 = true ∧ v_62 a0 a1 = y := pvG h
theorem run_62 (x : HDen A_62) (y : HDen R_62) (h : F_62 x.1 x.2.1 = some y) : rnF sm_62 1 62 A_62 R_62 x y := runG noO_ok (os := []) trivial (Eq.trans (by kernel_rfl) h)
end
noncomputable section
abbrev Zt17_0 : Type := ((List Int × List Int × Int × Unit) × List Int × Unit) × (Int × Int × Unit) × Int × Unit
abbrev Zt17_1 : Type := Int × Int × List Int × (Int × List (List Int) × List (List Int) × Unit) × Unit
abbrev Zy17_2 : Ty := (.pair (.pair (.pair (.slice (.int .u32)) (.pair (.slice (.int .i64)) (.pair (.int .i64) .unit))) (.pair (.arr 32 (.int .u8)) .unit)) (.pair (.pair (.int .i64) (.pair (.int .u32) .unit)) (.pair (.int .i64) .unit)))
abbrev Zy17_3 : Ty := (.pair (.int .i64) (.pair (.int .i64) (.pair (.arr 32 (.int .u8)) (.pair (.pair (.int .i64) (.pair (.slice (.arr 32 (.int .u8))) (.pair (.slice (.arr 32 (.int .u8))) .unit))) .unit))))
abbrev Zy17_4 : Ty := (.pair (.pair (.int .i64) (.pair (.int .u32) .unit)) (.pair (.int .i64) .unit))
abbrev Zt17_5 : Type := (Int × Int × Unit) × Int × Unit
abbrev A_17 : List Ty := [(.pair (.pair (.pair (.slice (.int .u32)) (.pair (.slice (.int .i64)) (.pair (.int .i64) .unit))) (.pair (.arr 32 (.int .u8)) .unit)) (.pair (.pair (.int .i64) (.pair (.int .u32) .unit)) (.pair (.int .i64) .unit))), (.pair (.int .i64) (.pair (.int .i64) (.pair (.arr 32 (.int .u8)) (.pair (.pair (.int .i64) (.pair (.slice (.arr 32 (.int .u8))) (.pair (.slice (.arr 32 (.int .u8))) .unit))) .unit))))]
abbrev R_17 : List Ty := [(.pair (.pair (.pair (.slice (.int .u32)) (.pair (.slice (.int .i64)) (.pair (.int .i64) .unit))) (.pair (.arr 32 (.int .u8)) .unit)) (.pair (.pair (.int .i64) (.pair (.int .u32) .unit)) (.pair (.int .i64) .unit)))]
noncomputable def sm_17 : Nat → Option Summ := smL [(18, s_18), (31, s_31), (60, s_60), (61, s_61), (62, s_62)]
noncomputable def T_17_0 : PS := ⟨55, [(2, .kc (.ptr 0 [])), (3, .kc (.ptr 1 [])), (4, .kc (.ptr 2 [])), (5, .hv (.int .i64)), (6, .hv (.int .i64)), (7, .hv (.int .i64))], [.mem (.hv Zy17_2), .mem (.hv Zy17_3), .mem (.pr (.pr (.pr (.kc (.whole 3)) (.pr (.kc (.whole 4)) (.hv (.pair (.int .i64) .unit)))) (.hv (.pair (.arr 32 (.int .u8)) .unit))) (.hv Zy17_4)), .vec 37 (.int .u32), .vec 3 (.int .i64)], 0⟩
inductive Sp.E_17_0 where
 | e0 (p0 : Int) (p3 : Zt17_0) (p4 : Zt17_1) (p5 : Int × Unit) (p6 : List Int × Unit) (p7 : Zt17_5) (p8 p9 : List Int)
noncomputable def Sp.B_17_0 {R : Type} (r : Option E_17_0) (k0 : Int → Zt17_0 → Zt17_1 → (Int × Unit) → (List Int × Unit) → Zt17_5 → List Int → List Int → Option R) : Option R := match r with
 | none => none
 | some (.e0 p0 p3 p4 p5 p6 p7 p8 p9) => k0 p0 p3 p4 p5 p6 p7 p8 p9
noncomputable def Y_17_0 {R : Type} (k : Ex → St → Option R) : E_17_0 → Option R
 | .e0 p0 p3 p4 p5 p6 p7 p8 p9 => k (Ex.exit 0) (sx 55 [(2, CV.ptr 0 []), (3, CV.ptr 1 []), (4, CV.ptr 2 []), (5, CV.int i64 p0)] [Blk.mem (CV.pure (Ty.pair (Ty.pair (Ty.pair (Ty.slice (Ty.int u32)) (Ty.pair (Ty.slice (Ty.int i64)) (Ty.pair (Ty.int i64) Ty.unit))) (Ty.pair (Ty.arr 32 (Ty.int u8)) Ty.unit)) (Ty.pair (Ty.pair (Ty.int i64) (Ty.pair (Ty.int u32) Ty.unit)) (Ty.pair (Ty.int i64) Ty.unit))) p3), Blk.mem (CV.pure (Ty.pair (Ty.int i64) (Ty.pair (Ty.int i64) (Ty.pair (Ty.arr 32 (Ty.int u8)) (Ty.pair (Ty.pair (Ty.int i64) (Ty.pair (Ty.slice (Ty.arr 32 (Ty.int u8))) (Ty.pair (Ty.slice (Ty.arr 32 (Ty.int u8))) Ty.unit))) Ty.unit)))) p4), Blk.mem (CV.pair (CV.pair (CV.pair (CV.whole 3) (CV.pair (CV.whole 4) (CV.pure (Ty.pair (Ty.int i64) Ty.unit) p5))) (CV.pure (Ty.pair (Ty.arr 32 (Ty.int u8)) Ty.unit) p6)) (CV.pure (Ty.pair (Ty.pair (Ty.int i64) (Ty.pair (Ty.int u32) Ty.unit)) (Ty.pair (Ty.int i64) Ty.unit)) p7)), Blk.vec 37 (Ty.int u32) p8, Blk.vec 3 (Ty.int i64) p9])
noncomputable def Sp.S_17_0 {R : Type} (K : Int → Int → Int → (((List Int × List Int × Int × Unit) × List Int × Unit) × (Int × Int × Unit) × Int × Unit) → (Int × Int × List Int × (Int × List (List Int) × List (List Int) × Unit) × Unit) → (Int × Unit) → (List Int × Unit) → ((Int × Int × Unit) × Int × Unit) → List Int → List Int → Option R) (k : E_17_0 → Option R) (p0 p1 p2 : Int) (p3 : ((List Int × List Int × Int × Unit) × List Int × Unit) × (Int × Int × Unit) × Int × Unit) (p4 : Int × Int × List Int × (Int × List (List Int) × List (List Int) × Unit) × Unit) (p5 : Int × Unit) (p6 : List Int × Unit) (p7 : (Int × Int × Unit) × Int × Unit) (p8 p9 : List Int) : Option R :=
 bif decide (p2 < p1) then bif p3.2.2.1 == 0 then gd (p_60 (p3.1.1) (wrap i64 (wrap i64 (p0 * p1) + p2)) (p3.2.1)) (K p0 p1 (wrap i64 (p2 + 1)) (((v_60 (p3.1.1) (wrap i64 (wrap i64 (p0 * p1) + p2)) (p3.2.1)).1, p3.1.2), (v_60 (p3.1.1) (wrap i64 (wrap i64 (p0 * p1) + p2)) (p3.2.1)).2.1, (v_60 (p3.1.1) (wrap i64 (wrap i64 (p0 * p1) + p2)) (p3.2.1)).2.2.1, p3.2.2.2) p4 p5 p6 p7 p8 p9) else k (E_17_0.e0 p0 p3 p4 p5 p6 p7 p8 p9) else k (E_17_0.e0 p0 p3 p4 p5 p6 p7 p8 p9)
noncomputable def Sp.L_17_0 : Nat → Int → Int → Int → (((List Int × List Int × Int × Unit) × List Int × Unit) × (Int × Int × Unit) × Int × Unit) → (Int × Int × List Int × (Int × List (List Int) × List (List Int) × Unit) × Unit) → (Int × Unit) → (List Int × Unit) → ((Int × Int × Unit) × Int × Unit) → List Int → List Int → Option E_17_0
 | 0, _, _, _, _, _, _, _, _, _, _ => none
 | m + 1, p0, p1, p2, p3, p4, p5, p6, p7, p8, p9 => S_17_0 (L_17_0 m) some p0 p1 p2 p3 p4 p5 p6 p7 p8 p9
noncomputable def l_17_0 (m : Nat) (a : T_17_0.E) : Option E_17_0 := L_17_0 m a.1 a.2.1 a.2.2.1 a.2.2.2.1 a.2.2.2.2.1 a.2.2.2.2.2.1 a.2.2.2.2.2.2.1 a.2.2.2.2.2.2.2.1 a.2.2.2.2.2.2.2.2.1 a.2.2.2.2.2.2.2.2.2.1
noncomputable def O_17_0 {R : Type} : Orc R := orL T_17_0 (l_17_0 FU) Y_17_0
theorem OK_17_0 {R : Type} : okF (R := R) sm_17 0 (nf 17 0) O_17_0 := lp0 T_17_0 l_17_0 (fun R K k a => S_17_0 (fun p0 p1 p2 p3 p4 p5 p6 p7 p8 p9 => K (p0, p1, p2, p3, p4, p5, p6, p7, p8, p9, ())) k a.1 a.2.1 a.2.2.1 a.2.2.2.1 a.2.2.2.2.1 a.2.2.2.2.2.1 a.2.2.2.2.2.2.1 a.2.2.2.2.2.2.2.1 a.2.2.2.2.2.2.2.2.1 a.2.2.2.2.2.2.2.2.2.1) Y_17_0 (fun _ _ _ => by kernel_rfl) (fun _ _ _ => by
 unfold S_17_0
 repeat' first | apply gdN | apply condN | rfl) (ok0 _)
noncomputable def T_17_1 : PS := ⟨55, [(2, .kc (.ptr 0 [])), (3, .kc (.ptr 1 [])), (4, .kc (.ptr 2 [])), (5, .hv (.int .i64))], [.mem (.hv Zy17_2), .mem (.hv Zy17_3), .mem (.pr (.pr (.pr (.kc (.whole 3)) (.pr (.kc (.whole 4)) (.hv (.pair (.int .i64) .unit)))) (.hv (.pair (.arr 32 (.int .u8)) .unit))) (.hv Zy17_4)), .vec 37 (.int .u32), .vec 3 (.int .i64)], 0⟩
inductive Sp.E_17_1 where
 | e0 (p0 : Int) (p1 : Zt17_0) (p2 : Zt17_1)
noncomputable def Sp.B_17_1 {R : Type} (r : Option E_17_1) (k0 : Int → Zt17_0 → Zt17_1 → Option R) : Option R := match r with
 | none => none
 | some (.e0 p0 p1 p2) => k0 p0 p1 p2
noncomputable def Y_17_1 {R : Type} (k : Ex → St → Option R) : E_17_1 → Option R
 | .e0 p0 p1 p2 => k Ex.ret (sx 55 [(4, CV.ptr 0 [])] [Blk.mem (CV.pure (Ty.pair (Ty.pair (Ty.pair (Ty.slice (Ty.int u32)) (Ty.pair (Ty.slice (Ty.int i64)) (Ty.pair (Ty.int i64) Ty.unit))) (Ty.pair (Ty.arr 32 (Ty.int u8)) Ty.unit)) (Ty.pair (Ty.pair (Ty.int i64) (Ty.pair (Ty.int u32) Ty.unit)) (Ty.pair (Ty.int i64) Ty.unit))) (((v_61 p1 (wrap i64 ((v_62 (p1.1) p0).1 + 1)) ((v_31 p2 []).1)).1) : ((((List Int) × ((List Int) × (Int × Unit))) × ((List Int) × Unit)) × ((Int × (Int × Unit)) × (Int × Unit)))))])
noncomputable def Sp.S_17_1 {R : Type} (k : E_17_1 → Option R) (p0 : Int) (p1 : ((List Int × List Int × Int × Unit) × List Int × Unit) × (Int × Int × Unit) × Int × Unit) (p2 : Int × Int × List Int × (Int × List (List Int) × List (List Int) × Unit) × Unit) (p3 : Int × Unit) (p4 : List Int × Unit) (p5 : (Int × Int × Unit) × Int × Unit) (p6 p7 : List Int) : Option R :=
 gd (p_62 (p1.1) p0) (gd (p_31 p2 []) (gd (p_61 p1 (wrap i64 ((v_62 (p1.1) p0).1 + 1)) ((v_31 p2 []).1)) (k (E_17_1.e0 p0 p1 p2))))
noncomputable def Sp.J_17_1 (p0 : Int) (p1 : ((List Int × List Int × Int × Unit) × List Int × Unit) × (Int × Int × Unit) × Int × Unit) (p2 : Int × Int × List Int × (Int × List (List Int) × List (List Int) × Unit) × Unit) (p3 : Int × Unit) (p4 : List Int × Unit) (p5 : (Int × Int × Unit) × Int × Unit) (p6 p7 : List Int) : Option E_17_1 := S_17_1 some p0 p1 p2 p3 p4 p5 p6 p7
noncomputable def O_17_1 {R : Type} : Orc R := orL T_17_1 (fun a => J_17_1 a.1 a.2.1 a.2.2.1 a.2.2.2.1 a.2.2.2.2.1 a.2.2.2.2.2.1 a.2.2.2.2.2.2.1 a.2.2.2.2.2.2.2.1) Y_17_1
theorem OK_17_1 {R : Type} : okF (R := R) sm_17 0 (nf 17 1) O_17_1 := jp noO_ok (os := []) trivial T_17_1 (fun R k a => S_17_1 k a.1 a.2.1 a.2.2.1 a.2.2.2.1 a.2.2.2.2.1 a.2.2.2.2.2.1 a.2.2.2.2.2.2.1 a.2.2.2.2.2.2.2.1) Y_17_1 (fun k a => by kernel_rfl) (fun Y a => by
 unfold S_17_1
 repeat' first | apply gdN | apply condN | rfl) (ok0 _)
noncomputable def F_17 (a0 : ((((List Int) × ((List Int) × (Int × Unit))) × ((List Int) × Unit)) × ((Int × (Int × Unit)) × (Int × Unit)))) (a1 : (Int × (Int × ((List Int) × ((Int × ((List (List Int)) × ((List (List Int)) × Unit))) × Unit))))) : Option (((((List Int) × ((List Int) × (Int × Unit))) × ((List Int) × Unit)) × ((Int × (Int × Unit)) × (Int × Unit))) × Unit) :=
 gd (p_18 (a0.1)) (B_17_0 (L_17_0 4611686018427387904 ((v_18 (a0.1)).1) (wrap i64 (Int.tdiv (↑(length (a0.1.1.2.1)) : Int) 2)) 0 a0 a1 (0, PUnit.unit) (replicate 32 (0 :Int), PUnit.unit) ((0, 0, PUnit.unit), 0, PUnit.unit) [] []) fun y11 y12 y13 y14 y15 y16 y17 y18 => B_17_1 (J_17_1 y11 y12 y13 y14 y15 y16 y17 y18) fun y19 y20 y21 => some ((v_61 y20 (wrap i64 ((v_62 (y20.1) y19).1 + 1)) ((v_31 y21 []).1)).1, PUnit.unit))
noncomputable def Sp.p_17 (a0 : ((((List Int) × ((List Int) × (Int × Unit))) × ((List Int) × Unit)) × ((Int × (Int × Unit)) × (Int × Unit)))) (a1 : (Int × (Int × ((List Int) × ((Int × ((List (List Int)) × ((List (List Int)) × Unit))) × Unit))))) : Bool := (F_17 a0 a1).isSome
noncomputable def Sp.v_17 (a0 : ((((List Int) × ((List Int) × (Int × Unit))) × ((List Int) × Unit)) × ((Int × (Int × Unit)) × (Int × Unit)))) (a1 : (Int × (Int × ((List Int) × ((Int × ((List (List Int)) × ((List (List Int)) × Unit))) × Unit))))) : ((((List Int) × ((List Int) × (Int × Unit))) × ((List Int) × Unit)) × ((Int × (Int × Unit)) × (Int × Unit))) × Unit := (F_17 a0 a1).getD (dfH R_17)
noncomputable def s_17 : Summ := shS A_17 R_17 (fun x => p_17 x.1 x.2.1) (fun x => v_17 x.1 x.2.1)
theorem pv_17 (a0 : ((((List Int) × ((List Int) × (Int × Unit))) × ((List Int) × Unit)) × ((Int × (Int × Unit)) × (Int × Unit)))) (a1 : (Int × (Int × ((List Int) × ((Int × ((List (List Int)) × ((List (List Int)) × Unit))) × Unit))))) {y : ((((List Int) × ((List Int) × (Int × Unit))) × ((List Int) × Unit)) × ((Int × (Int × Unit)) × (Int × Unit))) × Unit} (h : F_17 a0 a1 = some y) : p_17 a0 a1 = true ∧ v_17 a0 a1 = y := pvG h
theorem run_17 (x : HDen A_17) (y : HDen R_17) (h : F_17 x.1 x.2.1 = some y) : rnF sm_17 1 17 A_17 R_17 x y := runG noO_ok (os := [O_17_0, O_17_1]) ⟨OK_17_0, OK_17_1, trivial⟩ (Eq.trans (by kernel_rfl) h)
end
noncomputable section
abbrev A_59 : List Ty := [(.pair (.int .i64) (.pair (.int .i64) (.pair (.int .i64) (.pair (.pair (.int .i64) (.pair (.int .i64) (.pair (.arr 32 (.int .u8)) (.pair (.pair (.int .i64) (.pair (.slice (.arr 32 (.int .u8))) (.pair (.slice (.arr 32 (.int .u8))) .unit))) .unit)))) .unit)))), (.pair (.int .i64) (.pair (.int .i64) (.pair (.int .i64) (.pair (.pair (.int .i64) (.pair (.int .i64) (.pair (.arr 32 (.int .u8)) (.pair (.pair (.int .i64) (.pair (.slice (.arr 32 (.int .u8))) (.pair (.slice (.arr 32 (.int .u8))) .unit))) .unit)))) .unit))))]
abbrev R_59 : List Ty := [.bool]
noncomputable def sm_59 : Nat → Option Summ := smL [(80, s_80)]
noncomputable def F_59 (a0 : (Int × (Int × (Int × ((Int × (Int × ((List Int) × ((Int × ((List (List Int)) × ((List (List Int)) × Unit))) × Unit)))) × Unit))))) (a1 : (Int × (Int × (Int × ((Int × (Int × ((List Int) × ((Int × ((List (List Int)) × ((List (List Int)) × Unit))) × Unit)))) × Unit))))) : Option (Bool × Unit) :=
 bif a0.1 == a1.1 then bif a0.2.1 == a1.2.1 then bif a0.2.2.1 == a1.2.2.1 then gd (p_80 (a0.2.2.2.1) (a1.2.2.2.1)) (some ((v_80 (a0.2.2.2.1) (a1.2.2.2.1)).1, PUnit.unit)) else some (false, PUnit.unit) else some (false, PUnit.unit) else some (false, PUnit.unit)
noncomputable def Sp.p_59 (a0 : (Int × (Int × (Int × ((Int × (Int × ((List Int) × ((Int × ((List (List Int)) × ((List (List Int)) × Unit))) × Unit)))) × Unit))))) (a1 : (Int × (Int × (Int × ((Int × (Int × ((List Int) × ((Int × ((List (List Int)) × ((List (List Int)) × Unit))) × Unit)))) × Unit))))) : Bool := (F_59 a0 a1).isSome
noncomputable def Sp.v_59 (a0 : (Int × (Int × (Int × ((Int × (Int × ((List Int) × ((Int × ((List (List Int)) × ((List (List Int)) × Unit))) × Unit)))) × Unit))))) (a1 : (Int × (Int × (Int × ((Int × (Int × ((List Int) × ((Int × ((List (List Int)) × ((List (List Int)) × Unit))) × Unit)))) × Unit))))) : Bool × Unit := (F_59 a0 a1).getD (dfH R_59)
noncomputable def s_59 : Summ := shN A_59 R_59 (fun x => p_59 x.1 x.2.1) (fun x => v_59 x.1 x.2.1)
theorem pv_59 (a0 : (Int × (Int × (Int × ((Int × (Int × ((List Int) × ((Int × ((List (List Int)) × ((List (List Int)) × Unit))) × Unit)))) × Unit))))) (a1 : (Int × (Int × (Int × ((Int × (Int × ((List Int) × ((Int × ((List (List Int)) × ((List (List Int)) × Unit))) × Unit)))) × Unit))))) {y : Bool × Unit} (h : F_59 a0 a1 = some y) : p_59 a0 a1 = true ∧ v_59 a0 a1 = y := pvG h
theorem run_59 (x : HDen A_59) (y : HDen R_59) (h : F_59 x.1 x.2.1 = some y) : rnF sm_59 1 59 A_59 R_59 x y := runG noO_ok (os := []) trivial (Eq.trans (by kernel_rfl) h)
end
noncomputable section
abbrev Zt3_0 : Type := Int × Int × Int × (Int × Int × List Int × (Int × List (List Int) × List (List Int) × Unit) × Unit) × Unit
abbrev Zt3_1 : Type := (List Int × List Int × Int × Unit) × List Int × Unit
abbrev Zy3_2 : Ty := (.pair (.int .i64) (.pair (.int .i64) (.pair (.int .i64) (.pair (.pair (.int .i64) (.pair (.int .i64) (.pair (.arr 32 (.int .u8)) (.pair (.pair (.int .i64) (.pair (.slice (.arr 32 (.int .u8))) (.pair (.slice (.arr 32 (.int .u8))) .unit))) .unit)))) .unit))))
abbrev Zt3_3 : Type := Int × Int × List Int × (Int × List (List Int) × List (List Int) × Unit) × Unit
abbrev Zt3_4 : Type := ((List Int × List Int × Int × Unit) × List Int × Unit) × (Int × Int × Unit) × Int × Unit
abbrev Zy3_5 : Ty := (.pair (.pair (.slice (.int .u32)) (.pair (.slice (.int .i64)) (.pair (.int .i64) .unit))) (.pair (.arr 32 (.int .u8)) .unit))
abbrev Zt3_6 : Type := Int × Int × Unit
abbrev Zy3_7 : Ty := (.pair (.int .i64) (.pair (.int .i64) (.pair (.arr 32 (.int .u8)) (.pair (.pair (.int .i64) (.pair (.slice (.arr 32 (.int .u8))) (.pair (.slice (.arr 32 (.int .u8))) .unit))) .unit))))
abbrev Zy3_8 : Ty := (.pair (.pair (.pair (.slice (.int .u32)) (.pair (.slice (.int .i64)) (.pair (.int .i64) .unit))) (.pair (.arr 32 (.int .u8)) .unit)) (.pair (.pair (.int .i64) (.pair (.int .u32) .unit)) (.pair (.int .i64) .unit)))
abbrev Zy3_9 : Ty := (.pair (.int .i64) (.pair (.int .u32) .unit))
abbrev A_3 : List Ty := [(.pair (.int .i64) (.pair (.int .i64) (.pair (.int .i64) (.pair (.pair (.int .i64) (.pair (.int .i64) (.pair (.arr 32 (.int .u8)) (.pair (.pair (.int .i64) (.pair (.slice (.arr 32 (.int .u8))) (.pair (.slice (.arr 32 (.int .u8))) .unit))) .unit)))) .unit)))), (.pair (.pair (.slice (.int .u32)) (.pair (.slice (.int .i64)) (.pair (.int .i64) .unit))) (.pair (.arr 32 (.int .u8)) .unit)), (.pair (.int .i64) (.pair (.int .i64) (.pair (.arr 32 (.int .u8)) (.pair (.pair (.int .i64) (.pair (.slice (.arr 32 (.int .u8))) (.pair (.slice (.arr 32 (.int .u8))) .unit))) .unit)))), (.pair (.int .i64) (.pair (.int .u32) .unit))]
abbrev R_3 : List Ty := [.bool]
noncomputable def sm_3 : Nat → Option Summ := smL [(7, s_7), (8, s_8), (9, s_9), (10, s_10), (11, s_11), (12, s_12), (13, s_13), (14, s_14), (17, s_17), (18, s_18), (28, s_28), (38, s_38), (59, s_59)]
noncomputable def T_3_15_1_0 : PS := ⟨90, [(3, .hv (.int .i64)), (6, .kc (.ptr 6 [])), (7, .kc (.ptr 7 [])), (8, .kc (.ptr 8 [])), (13, .kc (.ptr 9 [])), (14, .kc (.ptr 10 []))], [.mem (.hv Zy3_5), .mem (.hv Zy3_7), .mem (.hv Zy3_9), .mem (.hv Zy3_2), .mem (.hv Zy3_5), .mem (.hv Zy3_9), .mem (.hv Zy3_2), .mem (.hv Zy3_5), .mem (.hv Zy3_9), .mem (.hv Zy3_8), .mem (.pr (.hv (.int .i64)) (.pr (.hv (.int .i64)) (.pr (.hv (.int .i64)) (.pr (.pr (.hv (.int .i64)) (.pr (.hv (.int .i64)) (.pr (.hv (.arr 32 (.int .u8))) (.pr (.pr (.hv (.int .i64)) (.kc (.pair (.whole 11) (.pair (.whole 12) (.pure .unit PUnit.unit))))) (.kc (.pure .unit PUnit.unit)))))) (.kc (.pure .unit PUnit.unit)))))), .vec 23 (.arr 32 (.int .u8)), .vec 23 (.arr 32 (.int .u8))], 6⟩
inductive Sp.E_3_15_1_0 where
 | e0 (p1 : Zt3_1) (p2 : Zt3_3) (p3 : Zt3_6) (p4 : Zt3_0) (p5 : Zt3_1) (p6 p9 : Zt3_6) (p10 : Zt3_4)
 | e1 (p1 : Zt3_1) (p2 : Zt3_3) (p3 : Zt3_6) (p4 : Zt3_0) (p5 : Zt3_1) (p6 : Zt3_6)
noncomputable def Sp.B_3_15_1_0 {R : Type} (r : Option E_3_15_1_0) (k0 : Zt3_1 → Zt3_3 → Zt3_6 → Zt3_0 → Zt3_1 → Zt3_6 → Zt3_6 → Zt3_4 → Option R) (k1 : Zt3_1 → Zt3_3 → Zt3_6 → Zt3_0 → Zt3_1 → Zt3_6 → Option R) : Option R := match r with
 | none => none
 | some (.e0 p1 p2 p3 p4 p5 p6 p9 p10) => k0 p1 p2 p3 p4 p5 p6 p9 p10
 | some (.e1 p1 p2 p3 p4 p5 p6) => k1 p1 p2 p3 p4 p5 p6
theorem Bn_3_15_1_0 {A R : Type} {r : Option E_3_15_1_0} {f : A → Option R} {k0 : Zt3_1 → Zt3_3 → Zt3_6 → Zt3_0 → Zt3_1 → Zt3_6 → Zt3_6 → Zt3_4 → Option A} {k1 : Zt3_1 → Zt3_3 → Zt3_6 → Zt3_0 → Zt3_1 → Zt3_6 → Option A} {l0 : Zt3_1 → Zt3_3 → Zt3_6 → Zt3_0 → Zt3_1 → Zt3_6 → Zt3_6 → Zt3_4 → Option R} {l1 : Zt3_1 → Zt3_3 → Zt3_6 → Zt3_0 → Zt3_1 → Zt3_6 → Option R} (h0 : ∀ p1 p2 p3 p4 p5 p6 p9 p10, (k0 p1 p2 p3 p4 p5 p6 p9 p10).bind f = l0 p1 p2 p3 p4 p5 p6 p9 p10) (h1 : ∀ p1 p2 p3 p4 p5 p6, (k1 p1 p2 p3 p4 p5 p6).bind f = l1 p1 p2 p3 p4 p5 p6) : (B_3_15_1_0 r k0 k1).bind f = B_3_15_1_0 r l0 l1 := by
 cases r with
 | none => rfl
 | some e => cases e <;> first | apply h0 | apply h1
noncomputable def Y_3_15_1_0 {R : Type} (k : Ex → St → Option R) : E_3_15_1_0 → Option R
 | .e0 p1 p2 p3 p4 p5 p6 p9 p10 => k Ex.ret (sx 90 [(12, CV.bool (Ty.beq (Ty.pair (Ty.int i64) (Ty.pair (Ty.int u32) Ty.unit)) p9 (p10.2.1)))] [Blk.mem (CV.pure (Ty.pair (Ty.pair (Ty.slice (Ty.int u32)) (Ty.pair (Ty.slice (Ty.int i64)) (Ty.pair (Ty.int i64) Ty.unit))) (Ty.pair (Ty.arr 32 (Ty.int u8)) Ty.unit)) p1), Blk.mem (CV.pure (Ty.pair (Ty.int i64) (Ty.pair (Ty.int i64) (Ty.pair (Ty.arr 32 (Ty.int u8)) (Ty.pair (Ty.pair (Ty.int i64) (Ty.pair (Ty.slice (Ty.arr 32 (Ty.int u8))) (Ty.pair (Ty.slice (Ty.arr 32 (Ty.int u8))) Ty.unit))) Ty.unit)))) p2), Blk.mem (CV.pure (Ty.pair (Ty.int i64) (Ty.pair (Ty.int u32) Ty.unit)) p3), Blk.mem (CV.pure (Ty.pair (Ty.int i64) (Ty.pair (Ty.int i64) (Ty.pair (Ty.int i64) (Ty.pair (Ty.pair (Ty.int i64) (Ty.pair (Ty.int i64) (Ty.pair (Ty.arr 32 (Ty.int u8)) (Ty.pair (Ty.pair (Ty.int i64) (Ty.pair (Ty.slice (Ty.arr 32 (Ty.int u8))) (Ty.pair (Ty.slice (Ty.arr 32 (Ty.int u8))) Ty.unit))) Ty.unit)))) Ty.unit)))) p4), Blk.mem (CV.pure (Ty.pair (Ty.pair (Ty.slice (Ty.int u32)) (Ty.pair (Ty.slice (Ty.int i64)) (Ty.pair (Ty.int i64) Ty.unit))) (Ty.pair (Ty.arr 32 (Ty.int u8)) Ty.unit)) p5), Blk.mem (CV.pure (Ty.pair (Ty.int i64) (Ty.pair (Ty.int u32) Ty.unit)) p6)] 6)
 | .e1 p1 p2 p3 p4 p5 p6 => k Ex.ret (sx 90 [(12, CV.bool false)] [Blk.mem (CV.pure (Ty.pair (Ty.pair (Ty.slice (Ty.int u32)) (Ty.pair (Ty.slice (Ty.int i64)) (Ty.pair (Ty.int i64) Ty.unit))) (Ty.pair (Ty.arr 32 (Ty.int u8)) Ty.unit)) p1), Blk.mem (CV.pure (Ty.pair (Ty.int i64) (Ty.pair (Ty.int i64) (Ty.pair (Ty.arr 32 (Ty.int u8)) (Ty.pair (Ty.pair (Ty.int i64) (Ty.pair (Ty.slice (Ty.arr 32 (Ty.int u8))) (Ty.pair (Ty.slice (Ty.arr 32 (Ty.int u8))) Ty.unit))) Ty.unit)))) p2), Blk.mem (CV.pure (Ty.pair (Ty.int i64) (Ty.pair (Ty.int u32) Ty.unit)) p3), Blk.mem (CV.pure (Ty.pair (Ty.int i64) (Ty.pair (Ty.int i64) (Ty.pair (Ty.int i64) (Ty.pair (Ty.pair (Ty.int i64) (Ty.pair (Ty.int i64) (Ty.pair (Ty.arr 32 (Ty.int u8)) (Ty.pair (Ty.pair (Ty.int i64) (Ty.pair (Ty.slice (Ty.arr 32 (Ty.int u8))) (Ty.pair (Ty.slice (Ty.arr 32 (Ty.int u8))) Ty.unit))) Ty.unit)))) Ty.unit)))) p4), Blk.mem (CV.pure (Ty.pair (Ty.pair (Ty.slice (Ty.int u32)) (Ty.pair (Ty.slice (Ty.int i64)) (Ty.pair (Ty.int i64) Ty.unit))) (Ty.pair (Ty.arr 32 (Ty.int u8)) Ty.unit)) p5), Blk.mem (CV.pure (Ty.pair (Ty.int i64) (Ty.pair (Ty.int u32) Ty.unit)) p6)] 6)
noncomputable def Sp.S_3_15_1_0 {R : Type} (k : E_3_15_1_0 → Option R) (p0 : Int) (p1 : (List Int × List Int × Int × Unit) × List Int × Unit) (p2 : Int × Int × List Int × (Int × List (List Int) × List (List Int) × Unit) × Unit) (p3 : Int × Int × Unit) (p4 : Int × Int × Int × (Int × Int × List Int × (Int × List (List Int) × List (List Int) × Unit) × Unit) × Unit) (p5 : (List Int × List Int × Int × Unit) × List Int × Unit) (p6 : Int × Int × Unit) (p7 : Int × Int × Int × (Int × Int × List Int × (Int × List (List Int) × List (List Int) × Unit) × Unit) × Unit) (p8 : (List Int × List Int × Int × Unit) × List Int × Unit) (p9 : Int × Int × Unit) (p10 : ((List Int × List Int × Int × Unit) × List Int × Unit) × (Int × Int × Unit) × Int × Unit) (p11 p12 p13 p14 p15 : Int) (p16 : List Int) (p17 : Int) (p18 p19 : List (List Int)) : Option R :=
 bif p0 == p10.2.2.1 then gd (p_59 p7 (p11, p12, p13, (p14, p15, p16, (p17, p18, p19, PUnit.unit), PUnit.unit), PUnit.unit)) (bif (v_59 p7 (p11, p12, p13, (p14, p15, p16, (p17, p18, p19, PUnit.unit), PUnit.unit), PUnit.unit)).1 then gd (p_28 p8 (p10.1)) (bif (v_28 p8 (p10.1)).1 then k (E_3_15_1_0.e0 p1 p2 p3 p4 p5 p6 p9 p10) else k (E_3_15_1_0.e1 p1 p2 p3 p4 p5 p6)) else k (E_3_15_1_0.e1 p1 p2 p3 p4 p5 p6)) else k (E_3_15_1_0.e1 p1 p2 p3 p4 p5 p6)
noncomputable def Sp.J_3_15_1_0 (p0 : Int) (p1 : (List Int × List Int × Int × Unit) × List Int × Unit) (p2 : Int × Int × List Int × (Int × List (List Int) × List (List Int) × Unit) × Unit) (p3 : Int × Int × Unit) (p4 : Int × Int × Int × (Int × Int × List Int × (Int × List (List Int) × List (List Int) × Unit) × Unit) × Unit) (p5 : (List Int × List Int × Int × Unit) × List Int × Unit) (p6 : Int × Int × Unit) (p7 : Int × Int × Int × (Int × Int × List Int × (Int × List (List Int) × List (List Int) × Unit) × Unit) × Unit) (p8 : (List Int × List Int × Int × Unit) × List Int × Unit) (p9 : Int × Int × Unit) (p10 : ((List Int × List Int × Int × Unit) × List Int × Unit) × (Int × Int × Unit) × Int × Unit) (p11 p12 p13 p14 p15 : Int) (p16 : List Int) (p17 : Int) (p18 p19 : List (List Int)) : Option E_3_15_1_0 := S_3_15_1_0 some p0 p1 p2 p3 p4 p5 p6 p7 p8 p9 p10 p11 p12 p13 p14 p15 p16 p17 p18 p19
noncomputable def O_3_15_1_0 {R : Type} : Orc R := orL T_3_15_1_0 (fun a => J_3_15_1_0 a.1 a.2.1 a.2.2.1 a.2.2.2.1 a.2.2.2.2.1 a.2.2.2.2.2.1 a.2.2.2.2.2.2.1 a.2.2.2.2.2.2.2.1 a.2.2.2.2.2.2.2.2.1 a.2.2.2.2.2.2.2.2.2.1 a.2.2.2.2.2.2.2.2.2.2.1 a.2.2.2.2.2.2.2.2.2.2.2.1 a.2.2.2.2.2.2.2.2.2.2.2.2.1 a.2.2.2.2.2.2.2.2.2.2.2.2.2.1 a.2.2.2.2.2.2.2.2.2.2.2.2.2.2.1 a.2.2.2.2.2.2.2.2.2.2.2.2.2.2.2.1 a.2.2.2.2.2.2.2.2.2.2.2.2.2.2.2.2.1 a.2.2.2.2.2.2.2.2.2.2.2.2.2.2.2.2.2.1 a.2.2.2.2.2.2.2.2.2.2.2.2.2.2.2.2.2.2.1 a.2.2.2.2.2.2.2.2.2.2.2.2.2.2.2.2.2.2.2.1) Y_3_15_1_0
theorem OK_3_15_1_0 {R : Type} : okF (R := R) sm_3 2 (ni (nf 15 0) 0) O_3_15_1_0 := jp noO_ok (os := []) trivial T_3_15_1_0 (fun R k a => S_3_15_1_0 k a.1 a.2.1 a.2.2.1 a.2.2.2.1 a.2.2.2.2.1 a.2.2.2.2.2.1 a.2.2.2.2.2.2.1 a.2.2.2.2.2.2.2.1 a.2.2.2.2.2.2.2.2.1 a.2.2.2.2.2.2.2.2.2.1 a.2.2.2.2.2.2.2.2.2.2.1 a.2.2.2.2.2.2.2.2.2.2.2.1 a.2.2.2.2.2.2.2.2.2.2.2.2.1 a.2.2.2.2.2.2.2.2.2.2.2.2.2.1 a.2.2.2.2.2.2.2.2.2.2.2.2.2.2.1 a.2.2.2.2.2.2.2.2.2.2.2.2.2.2.2.1 a.2.2.2.2.2.2.2.2.2.2.2.2.2.2.2.2.1 a.2.2.2.2.2.2.2.2.2.2.2.2.2.2.2.2.2.1 a.2.2.2.2.2.2.2.2.2.2.2.2.2.2.2.2.2.2.1 a.2.2.2.2.2.2.2.2.2.2.2.2.2.2.2.2.2.2.2.1) Y_3_15_1_0 (fun k a => by kernel_rfl) (fun Y a => by
 unfold S_3_15_1_0
 repeat' first | apply gdN | apply condN | rfl) (ok0 _)
noncomputable def T_3_15_1_1 : PS := ⟨90, [(3, .hv (.int .i64)), (6, .kc (.ptr 6 [])), (7, .kc (.ptr 7 [])), (8, .kc (.ptr 8 [])), (13, .kc (.ptr 9 [])), (14, .kc (.ptr 10 []))], [.mem (.hv Zy3_5), .mem (.hv Zy3_7), .mem (.hv Zy3_9), .mem (.hv Zy3_2), .mem (.hv Zy3_5), .mem (.hv Zy3_9), .mem (.hv Zy3_2), .mem (.hv Zy3_5), .mem (.hv Zy3_9), .mem (.hv Zy3_8), .mem (.hv Zy3_2)], 6⟩
inductive Sp.E_3_15_1_1 where
 | e0 (p1 : Zt3_1) (p2 : Zt3_3) (p3 : Zt3_6) (p4 : Zt3_0) (p5 : Zt3_1) (p6 p9 : Zt3_6) (p10 : Zt3_4)
 | e1 (p1 : Zt3_1) (p2 : Zt3_3) (p3 : Zt3_6) (p4 : Zt3_0) (p5 : Zt3_1) (p6 : Zt3_6)
noncomputable def Sp.B_3_15_1_1 {R : Type} (r : Option E_3_15_1_1) (k0 : Zt3_1 → Zt3_3 → Zt3_6 → Zt3_0 → Zt3_1 → Zt3_6 → Zt3_6 → Zt3_4 → Option R) (k1 : Zt3_1 → Zt3_3 → Zt3_6 → Zt3_0 → Zt3_1 → Zt3_6 → Option R) : Option R := match r with
 | none => none
 | some (.e0 p1 p2 p3 p4 p5 p6 p9 p10) => k0 p1 p2 p3 p4 p5 p6 p9 p10
 | some (.e1 p1 p2 p3 p4 p5 p6) => k1 p1 p2 p3 p4 p5 p6
theorem Bn_3_15_1_1 {A R : Type} {r : Option E_3_15_1_1} {f : A → Option R} {k0 : Zt3_1 → Zt3_3 → Zt3_6 → Zt3_0 → Zt3_1 → Zt3_6 → Zt3_6 → Zt3_4 → Option A} {k1 : Zt3_1 → Zt3_3 → Zt3_6 → Zt3_0 → Zt3_1 → Zt3_6 → Option A} {l0 : Zt3_1 → Zt3_3 → Zt3_6 → Zt3_0 → Zt3_1 → Zt3_6 → Zt3_6 → Zt3_4 → Option R} {l1 : Zt3_1 → Zt3_3 → Zt3_6 → Zt3_0 → Zt3_1 → Zt3_6 → Option R} (h0 : ∀ p1 p2 p3 p4 p5 p6 p9 p10, (k0 p1 p2 p3 p4 p5 p6 p9 p10).bind f = l0 p1 p2 p3 p4 p5 p6 p9 p10) (h1 : ∀ p1 p2 p3 p4 p5 p6, (k1 p1 p2 p3 p4 p5 p6).bind f = l1 p1 p2 p3 p4 p5 p6) : (B_3_15_1_1 r k0 k1).bind f = B_3_15_1_1 r l0 l1 := by
 cases r with
 | none => rfl
 | some e => cases e <;> first | apply h0 | apply h1
noncomputable def Y_3_15_1_1 {R : Type} (k : Ex → St → Option R) : E_3_15_1_1 → Option R
 | .e0 p1 p2 p3 p4 p5 p6 p9 p10 => k Ex.ret (sx 90 [(12, CV.bool (Ty.beq (Ty.pair (Ty.int i64) (Ty.pair (Ty.int u32) Ty.unit)) p9 (p10.2.1)))] [Blk.mem (CV.pure (Ty.pair (Ty.pair (Ty.slice (Ty.int u32)) (Ty.pair (Ty.slice (Ty.int i64)) (Ty.pair (Ty.int i64) Ty.unit))) (Ty.pair (Ty.arr 32 (Ty.int u8)) Ty.unit)) p1), Blk.mem (CV.pure (Ty.pair (Ty.int i64) (Ty.pair (Ty.int i64) (Ty.pair (Ty.arr 32 (Ty.int u8)) (Ty.pair (Ty.pair (Ty.int i64) (Ty.pair (Ty.slice (Ty.arr 32 (Ty.int u8))) (Ty.pair (Ty.slice (Ty.arr 32 (Ty.int u8))) Ty.unit))) Ty.unit)))) p2), Blk.mem (CV.pure (Ty.pair (Ty.int i64) (Ty.pair (Ty.int u32) Ty.unit)) p3), Blk.mem (CV.pure (Ty.pair (Ty.int i64) (Ty.pair (Ty.int i64) (Ty.pair (Ty.int i64) (Ty.pair (Ty.pair (Ty.int i64) (Ty.pair (Ty.int i64) (Ty.pair (Ty.arr 32 (Ty.int u8)) (Ty.pair (Ty.pair (Ty.int i64) (Ty.pair (Ty.slice (Ty.arr 32 (Ty.int u8))) (Ty.pair (Ty.slice (Ty.arr 32 (Ty.int u8))) Ty.unit))) Ty.unit)))) Ty.unit)))) p4), Blk.mem (CV.pure (Ty.pair (Ty.pair (Ty.slice (Ty.int u32)) (Ty.pair (Ty.slice (Ty.int i64)) (Ty.pair (Ty.int i64) Ty.unit))) (Ty.pair (Ty.arr 32 (Ty.int u8)) Ty.unit)) p5), Blk.mem (CV.pure (Ty.pair (Ty.int i64) (Ty.pair (Ty.int u32) Ty.unit)) p6)] 6)
 | .e1 p1 p2 p3 p4 p5 p6 => k Ex.ret (sx 90 [(12, CV.bool false)] [Blk.mem (CV.pure (Ty.pair (Ty.pair (Ty.slice (Ty.int u32)) (Ty.pair (Ty.slice (Ty.int i64)) (Ty.pair (Ty.int i64) Ty.unit))) (Ty.pair (Ty.arr 32 (Ty.int u8)) Ty.unit)) p1), Blk.mem (CV.pure (Ty.pair (Ty.int i64) (Ty.pair (Ty.int i64) (Ty.pair (Ty.arr 32 (Ty.int u8)) (Ty.pair (Ty.pair (Ty.int i64) (Ty.pair (Ty.slice (Ty.arr 32 (Ty.int u8))) (Ty.pair (Ty.slice (Ty.arr 32 (Ty.int u8))) Ty.unit))) Ty.unit)))) p2), Blk.mem (CV.pure (Ty.pair (Ty.int i64) (Ty.pair (Ty.int u32) Ty.unit)) p3), Blk.mem (CV.pure (Ty.pair (Ty.int i64) (Ty.pair (Ty.int i64) (Ty.pair (Ty.int i64) (Ty.pair (Ty.pair (Ty.int i64) (Ty.pair (Ty.int i64) (Ty.pair (Ty.arr 32 (Ty.int u8)) (Ty.pair (Ty.pair (Ty.int i64) (Ty.pair (Ty.slice (Ty.arr 32 (Ty.int u8))) (Ty.pair (Ty.slice (Ty.arr 32 (Ty.int u8))) Ty.unit))) Ty.unit)))) Ty.unit)))) p4), Blk.mem (CV.pure (Ty.pair (Ty.pair (Ty.slice (Ty.int u32)) (Ty.pair (Ty.slice (Ty.int i64)) (Ty.pair (Ty.int i64) Ty.unit))) (Ty.pair (Ty.arr 32 (Ty.int u8)) Ty.unit)) p5), Blk.mem (CV.pure (Ty.pair (Ty.int i64) (Ty.pair (Ty.int u32) Ty.unit)) p6)] 6)
noncomputable def Sp.S_3_15_1_1 {R : Type} (k : E_3_15_1_1 → Option R) (p0 : Int) (p1 : (List Int × List Int × Int × Unit) × List Int × Unit) (p2 : Int × Int × List Int × (Int × List (List Int) × List (List Int) × Unit) × Unit) (p3 : Int × Int × Unit) (p4 : Int × Int × Int × (Int × Int × List Int × (Int × List (List Int) × List (List Int) × Unit) × Unit) × Unit) (p5 : (List Int × List Int × Int × Unit) × List Int × Unit) (p6 : Int × Int × Unit) (p7 : Int × Int × Int × (Int × Int × List Int × (Int × List (List Int) × List (List Int) × Unit) × Unit) × Unit) (p8 : (List Int × List Int × Int × Unit) × List Int × Unit) (p9 : Int × Int × Unit) (p10 : ((List Int × List Int × Int × Unit) × List Int × Unit) × (Int × Int × Unit) × Int × Unit) (p11 : Int × Int × Int × (Int × Int × List Int × (Int × List (List Int) × List (List Int) × Unit) × Unit) × Unit) : Option R :=
 bif p0 == p10.2.2.1 then gd (p_59 p7 p11) (bif (v_59 p7 p11).1 then gd (p_28 p8 (p10.1)) (bif (v_28 p8 (p10.1)).1 then k (E_3_15_1_1.e0 p1 p2 p3 p4 p5 p6 p9 p10) else k (E_3_15_1_1.e1 p1 p2 p3 p4 p5 p6)) else k (E_3_15_1_1.e1 p1 p2 p3 p4 p5 p6)) else k (E_3_15_1_1.e1 p1 p2 p3 p4 p5 p6)
noncomputable def Sp.J_3_15_1_1 (p0 : Int) (p1 : (List Int × List Int × Int × Unit) × List Int × Unit) (p2 : Int × Int × List Int × (Int × List (List Int) × List (List Int) × Unit) × Unit) (p3 : Int × Int × Unit) (p4 : Int × Int × Int × (Int × Int × List Int × (Int × List (List Int) × List (List Int) × Unit) × Unit) × Unit) (p5 : (List Int × List Int × Int × Unit) × List Int × Unit) (p6 : Int × Int × Unit) (p7 : Int × Int × Int × (Int × Int × List Int × (Int × List (List Int) × List (List Int) × Unit) × Unit) × Unit) (p8 : (List Int × List Int × Int × Unit) × List Int × Unit) (p9 : Int × Int × Unit) (p10 : ((List Int × List Int × Int × Unit) × List Int × Unit) × (Int × Int × Unit) × Int × Unit) (p11 : Int × Int × Int × (Int × Int × List Int × (Int × List (List Int) × List (List Int) × Unit) × Unit) × Unit) : Option E_3_15_1_1 := S_3_15_1_1 some p0 p1 p2 p3 p4 p5 p6 p7 p8 p9 p10 p11
noncomputable def O_3_15_1_1 {R : Type} : Orc R := orL T_3_15_1_1 (fun a => J_3_15_1_1 a.1 a.2.1 a.2.2.1 a.2.2.2.1 a.2.2.2.2.1 a.2.2.2.2.2.1 a.2.2.2.2.2.2.1 a.2.2.2.2.2.2.2.1 a.2.2.2.2.2.2.2.2.1 a.2.2.2.2.2.2.2.2.2.1 a.2.2.2.2.2.2.2.2.2.2.1 a.2.2.2.2.2.2.2.2.2.2.2.1) Y_3_15_1_1 O_3_15_1_0
theorem OK_3_15_1_1 {R : Type} : okF (R := R) sm_3 2 (ni (nf 15 0) 0) O_3_15_1_1 := jp noO_ok (os := []) trivial T_3_15_1_1 (fun R k a => S_3_15_1_1 k a.1 a.2.1 a.2.2.1 a.2.2.2.1 a.2.2.2.2.1 a.2.2.2.2.2.1 a.2.2.2.2.2.2.1 a.2.2.2.2.2.2.2.1 a.2.2.2.2.2.2.2.2.1 a.2.2.2.2.2.2.2.2.2.1 a.2.2.2.2.2.2.2.2.2.2.1 a.2.2.2.2.2.2.2.2.2.2.2.1) Y_3_15_1_1 (fun k a => by kernel_rfl) (fun Y a => by
 unfold S_3_15_1_1
 repeat' first | apply gdN | apply condN | rfl) OK_3_15_1_0
noncomputable def T_3_15_0_0 : PS := ⟨90, [(3, .hv (.int .i64)), (6, .kc (.ptr 6 [])), (7, .kc (.ptr 7 [])), (8, .kc (.ptr 8 [])), (13, .kc (.ptr 9 [])), (14, .kc (.ptr 10 []))], [.mem (.hv Zy3_5), .mem (.hv Zy3_7), .mem (.hv Zy3_9), .mem (.hv Zy3_2), .mem (.hv Zy3_5), .mem (.hv Zy3_9), .mem (.hv Zy3_2), .mem (.hv Zy3_5), .mem (.hv Zy3_9), .mem (.hv Zy3_8), .mem (.hv Zy3_2)], 6⟩
inductive Sp.E_3_15_0_0 where
 | e0 (y28 : Zt3_1) (y29 : Zt3_3) (y30 : Zt3_6) (y31 : Zt3_0) (y32 : Zt3_1) (y33 y34 : Zt3_6) (y35 : Zt3_4)
 | e1 (y36 : Zt3_1) (y37 : Zt3_3) (y38 : Zt3_6) (y39 : Zt3_0) (y40 : Zt3_1) (y41 : Zt3_6)
noncomputable def Sp.B_3_15_0_0 {R : Type} (r : Option E_3_15_0_0) (k0 : Zt3_1 → Zt3_3 → Zt3_6 → Zt3_0 → Zt3_1 → Zt3_6 → Zt3_6 → Zt3_4 → Option R) (k1 : Zt3_1 → Zt3_3 → Zt3_6 → Zt3_0 → Zt3_1 → Zt3_6 → Option R) : Option R := match r with
 | none => none
 | some (.e0 y28 y29 y30 y31 y32 y33 y34 y35) => k0 y28 y29 y30 y31 y32 y33 y34 y35
 | some (.e1 y36 y37 y38 y39 y40 y41) => k1 y36 y37 y38 y39 y40 y41
theorem Bn_3_15_0_0 {A R : Type} {r : Option E_3_15_0_0} {f : A → Option R} {k0 : Zt3_1 → Zt3_3 → Zt3_6 → Zt3_0 → Zt3_1 → Zt3_6 → Zt3_6 → Zt3_4 → Option A} {k1 : Zt3_1 → Zt3_3 → Zt3_6 → Zt3_0 → Zt3_1 → Zt3_6 → Option A} {l0 : Zt3_1 → Zt3_3 → Zt3_6 → Zt3_0 → Zt3_1 → Zt3_6 → Zt3_6 → Zt3_4 → Option R} {l1 : Zt3_1 → Zt3_3 → Zt3_6 → Zt3_0 → Zt3_1 → Zt3_6 → Option R} (h0 : ∀ y28 y29 y30 y31 y32 y33 y34 y35, (k0 y28 y29 y30 y31 y32 y33 y34 y35).bind f = l0 y28 y29 y30 y31 y32 y33 y34 y35) (h1 : ∀ y36 y37 y38 y39 y40 y41, (k1 y36 y37 y38 y39 y40 y41).bind f = l1 y36 y37 y38 y39 y40 y41) : (B_3_15_0_0 r k0 k1).bind f = B_3_15_0_0 r l0 l1 := by
 cases r with
 | none => rfl
 | some e => cases e <;> first | apply h0 | apply h1
noncomputable def Y_3_15_0_0 {R : Type} (k : Ex → St → Option R) : E_3_15_0_0 → Option R
 | .e0 y28 y29 y30 y31 y32 y33 y34 y35 => k Ex.ret (sx 90 [(12, CV.bool (Ty.beq (Ty.pair (Ty.int i64) (Ty.pair (Ty.int u32) Ty.unit)) y34 (y35.2.1)))] [Blk.mem (CV.pure (Ty.pair (Ty.pair (Ty.slice (Ty.int u32)) (Ty.pair (Ty.slice (Ty.int i64)) (Ty.pair (Ty.int i64) Ty.unit))) (Ty.pair (Ty.arr 32 (Ty.int u8)) Ty.unit)) y28), Blk.mem (CV.pure (Ty.pair (Ty.int i64) (Ty.pair (Ty.int i64) (Ty.pair (Ty.arr 32 (Ty.int u8)) (Ty.pair (Ty.pair (Ty.int i64) (Ty.pair (Ty.slice (Ty.arr 32 (Ty.int u8))) (Ty.pair (Ty.slice (Ty.arr 32 (Ty.int u8))) Ty.unit))) Ty.unit)))) y29), Blk.mem (CV.pure (Ty.pair (Ty.int i64) (Ty.pair (Ty.int u32) Ty.unit)) y30), Blk.mem (CV.pure (Ty.pair (Ty.int i64) (Ty.pair (Ty.int i64) (Ty.pair (Ty.int i64) (Ty.pair (Ty.pair (Ty.int i64) (Ty.pair (Ty.int i64) (Ty.pair (Ty.arr 32 (Ty.int u8)) (Ty.pair (Ty.pair (Ty.int i64) (Ty.pair (Ty.slice (Ty.arr 32 (Ty.int u8))) (Ty.pair (Ty.slice (Ty.arr 32 (Ty.int u8))) Ty.unit))) Ty.unit)))) Ty.unit)))) y31), Blk.mem (CV.pure (Ty.pair (Ty.pair (Ty.slice (Ty.int u32)) (Ty.pair (Ty.slice (Ty.int i64)) (Ty.pair (Ty.int i64) Ty.unit))) (Ty.pair (Ty.arr 32 (Ty.int u8)) Ty.unit)) y32), Blk.mem (CV.pure (Ty.pair (Ty.int i64) (Ty.pair (Ty.int u32) Ty.unit)) y33)] 6)
 | .e1 y36 y37 y38 y39 y40 y41 => k Ex.ret (sx 90 [(12, CV.bool false)] [Blk.mem (CV.pure (Ty.pair (Ty.pair (Ty.slice (Ty.int u32)) (Ty.pair (Ty.slice (Ty.int i64)) (Ty.pair (Ty.int i64) Ty.unit))) (Ty.pair (Ty.arr 32 (Ty.int u8)) Ty.unit)) y36), Blk.mem (CV.pure (Ty.pair (Ty.int i64) (Ty.pair (Ty.int i64) (Ty.pair (Ty.arr 32 (Ty.int u8)) (Ty.pair (Ty.pair (Ty.int i64) (Ty.pair (Ty.slice (Ty.arr 32 (Ty.int u8))) (Ty.pair (Ty.slice (Ty.arr 32 (Ty.int u8))) Ty.unit))) Ty.unit)))) y37), Blk.mem (CV.pure (Ty.pair (Ty.int i64) (Ty.pair (Ty.int u32) Ty.unit)) y38), Blk.mem (CV.pure (Ty.pair (Ty.int i64) (Ty.pair (Ty.int i64) (Ty.pair (Ty.int i64) (Ty.pair (Ty.pair (Ty.int i64) (Ty.pair (Ty.int i64) (Ty.pair (Ty.arr 32 (Ty.int u8)) (Ty.pair (Ty.pair (Ty.int i64) (Ty.pair (Ty.slice (Ty.arr 32 (Ty.int u8))) (Ty.pair (Ty.slice (Ty.arr 32 (Ty.int u8))) Ty.unit))) Ty.unit)))) Ty.unit)))) y39), Blk.mem (CV.pure (Ty.pair (Ty.pair (Ty.slice (Ty.int u32)) (Ty.pair (Ty.slice (Ty.int i64)) (Ty.pair (Ty.int i64) Ty.unit))) (Ty.pair (Ty.arr 32 (Ty.int u8)) Ty.unit)) y40), Blk.mem (CV.pure (Ty.pair (Ty.int i64) (Ty.pair (Ty.int u32) Ty.unit)) y41)] 6)
noncomputable def Sp.S_3_15_0_0 {R : Type} (k : E_3_15_0_0 → Option R) (p0 : Int) (p1 : (List Int × List Int × Int × Unit) × List Int × Unit) (p2 : Int × Int × List Int × (Int × List (List Int) × List (List Int) × Unit) × Unit) (p3 : Int × Int × Unit) (p4 : Int × Int × Int × (Int × Int × List Int × (Int × List (List Int) × List (List Int) × Unit) × Unit) × Unit) (p5 : (List Int × List Int × Int × Unit) × List Int × Unit) (p6 : Int × Int × Unit) (p7 : Int × Int × Int × (Int × Int × List Int × (Int × List (List Int) × List (List Int) × Unit) × Unit) × Unit) (p8 : (List Int × List Int × Int × Unit) × List Int × Unit) (p9 : Int × Int × Unit) (p10 : ((List Int × List Int × Int × Unit) × List Int × Unit) × (Int × Int × Unit) × Int × Unit) (p11 : Int × Int × Int × (Int × Int × List Int × (Int × List (List Int) × List (List Int) × Unit) × Unit) × Unit) : Option R :=
 bif p10.2.2.1 != 0 then B_3_15_1_0 (J_3_15_1_0 p0 p1 p2 p3 p4 p5 p6 p7 p8 p9 p10 0 0 0 0 0 (replicate 32 (0 :Int)) 0 [] []) (fun y28 y29 y30 y31 y32 y33 y34 y35 => k (E_3_15_0_0.e0 y28 y29 y30 y31 y32 y33 y34 y35)) fun y36 y37 y38 y39 y40 y41 => k (E_3_15_0_0.e1 y36 y37 y38 y39 y40 y41) else B_3_15_1_1 (J_3_15_1_1 p0 p1 p2 p3 p4 p5 p6 p7 p8 p9 p10 p11) (fun y42 y43 y44 y45 y46 y47 y48 y49 => k (E_3_15_0_0.e0 y42 y43 y44 y45 y46 y47 y48 y49)) fun y50 y51 y52 y53 y54 y55 => k (E_3_15_0_0.e1 y50 y51 y52 y53 y54 y55)
noncomputable def Sp.J_3_15_0_0 (p0 : Int) (p1 : (List Int × List Int × Int × Unit) × List Int × Unit) (p2 : Int × Int × List Int × (Int × List (List Int) × List (List Int) × Unit) × Unit) (p3 : Int × Int × Unit) (p4 : Int × Int × Int × (Int × Int × List Int × (Int × List (List Int) × List (List Int) × Unit) × Unit) × Unit) (p5 : (List Int × List Int × Int × Unit) × List Int × Unit) (p6 : Int × Int × Unit) (p7 : Int × Int × Int × (Int × Int × List Int × (Int × List (List Int) × List (List Int) × Unit) × Unit) × Unit) (p8 : (List Int × List Int × Int × Unit) × List Int × Unit) (p9 : Int × Int × Unit) (p10 : ((List Int × List Int × Int × Unit) × List Int × Unit) × (Int × Int × Unit) × Int × Unit) (p11 : Int × Int × Int × (Int × Int × List Int × (Int × List (List Int) × List (List Int) × Unit) × Unit) × Unit) : Option E_3_15_0_0 := S_3_15_0_0 some p0 p1 p2 p3 p4 p5 p6 p7 p8 p9 p10 p11
noncomputable def O_3_15_0_0 {R : Type} : Orc R := orL T_3_15_0_0 (fun a => J_3_15_0_0 a.1 a.2.1 a.2.2.1 a.2.2.2.1 a.2.2.2.2.1 a.2.2.2.2.2.1 a.2.2.2.2.2.2.1 a.2.2.2.2.2.2.2.1 a.2.2.2.2.2.2.2.2.1 a.2.2.2.2.2.2.2.2.2.1 a.2.2.2.2.2.2.2.2.2.2.1 a.2.2.2.2.2.2.2.2.2.2.2.1) Y_3_15_0_0
theorem OK_3_15_0_0 {R : Type} : okF (R := R) sm_3 2 (nf 15 0) O_3_15_0_0 := jp noO_ok (os := [O_3_15_1_1]) ⟨OK_3_15_1_1, trivial⟩ T_3_15_0_0 (fun R k a => S_3_15_0_0 k a.1 a.2.1 a.2.2.1 a.2.2.2.1 a.2.2.2.2.1 a.2.2.2.2.2.1 a.2.2.2.2.2.2.1 a.2.2.2.2.2.2.2.1 a.2.2.2.2.2.2.2.2.1 a.2.2.2.2.2.2.2.2.2.1 a.2.2.2.2.2.2.2.2.2.2.1 a.2.2.2.2.2.2.2.2.2.2.2.1) Y_3_15_0_0 (fun k a => by kernel_rfl) (fun Y a => by
 unfold S_3_15_0_0
 repeat' first | apply gdN | apply condN | (apply Bn_3_15_1_0 <;> intros) | (apply Bn_3_15_1_1 <;> intros) | rfl) (ok0 _)
noncomputable def g_3_15 {R : Type} : List CV → List Blk → (CV → List Blk → Option R) → Option R := evFnL sm_3 FU (ovr noO (evFn sm_3 fns FU 2)) (mkT (fB fns 15) [O_3_15_0_0]) (fO fns 15)
theorem g_3_15_ok {R : Type} (args : List CV) (hp : List Blk) (k : CV → List Blk → Option R) (r : R) (h : g_3_15 args hp k = some r) : evFn sm_3 fns FU 3 15 args hp k = some r := runG noO_ok (os := [O_3_15_0_0]) ⟨OK_3_15_0_0, trivial⟩ h
noncomputable def ov_3_3 {R : Type} : Nat → Option (List CV → List Blk → (CV → List Blk → Option R) → Option R) := fun f' => bif Nat.beq f' 15 then some g_3_15 else none
theorem ov_3_3_ok {R : Type} : OvrOK (R := R) ov_3_3 (evFn sm_3 fns FU 3) := by
 intro f' g h args hp k r hg
 dsimp only [ov_3_3] at h
 by_cases h15 : f' = 15
 · subst h15
   injection h with h
   subst h
   exact evFn_le 0 (g_3_15_ok _ _ _ _ hg)
 rw [nbeq_ne h15, cond_false] at h
 cases h
noncomputable def T_3_0 : PS := ⟨58, [(5, .kc (.ptr 0 [])), (6, .kc (.ptr 1 [])), (7, .kc (.ptr 2 [])), (9, .kc (.ptr 3 [])), (10, .kc (.ptr 4 [])), (11, .kc (.ptr 5 [])), (12, .hv (.int .i64)), (13, .hv (.int .i64))], [.mem (.hv Zy3_5), .mem (.hv Zy3_7), .mem (.hv Zy3_9), .mem (.hv Zy3_2), .mem (.hv Zy3_5), .mem (.hv Zy3_9)], 0⟩
inductive Sp.E_3_0 where
 | e0 (p7 : Int × Int × Unit)
 | e1
 | e2 (y34 : Zt3_6) (y35 : Zt3_4)
noncomputable def Sp.B_3_0 {R : Type} (r : Option E_3_0) (k0 : Zt3_6 → Option R) (k1 : Option R) (k2 : Zt3_6 → Zt3_4 → Option R) : Option R := match r with
 | none => none
 | some (.e0 p7) => k0 p7
 | some (.e1) => k1
 | some (.e2 y34 y35) => k2 y34 y35
noncomputable def Y_3_0 {R : Type} (k : Ex → St → Option R) : E_3_0 → Option R
 | .e0 p7 => k Ex.ret (sx 58 [(8, CV.bool (Ty.beq (Ty.pair (Ty.int i64) (Ty.pair (Ty.int u32) Ty.unit)) p7 (0, 0, PUnit.unit)))] [])
 | .e1 => k Ex.ret (sx 58 [(8, CV.bool false)] [])
 | .e2 y34 y35 => k Ex.ret (sx 58 [(8, CV.bool (Ty.beq (Ty.pair (Ty.int i64) (Ty.pair (Ty.int u32) Ty.unit)) y34 (y35.2.1)))] [])
noncomputable def Sp.S_3_0 {R : Type} (k : E_3_0 → Option R) (p0 p1 : Int) (p2 : (List Int × List Int × Int × Unit) × List Int × Unit) (p3 : Int × Int × List Int × (Int × List (List Int) × List (List Int) × Unit) × Unit) (p4 : Int × Int × Unit) (p5 : Int × Int × Int × (Int × Int × List Int × (Int × List (List Int) × List (List Int) × Unit) × Unit) × Unit) (p6 : (List Int × List Int × Int × Unit) × List Int × Unit) (p7 : Int × Int × Unit) : Option R :=
 bif p1 != 0 then bif p0 == p1 then gd (p_38 p5) (bif (v_38 p5).1 then gd (p_28 p6 (([], [], 0, PUnit.unit), replicate 32 (0 :Int), PUnit.unit)) (bif (v_28 p6 (([], [], 0, PUnit.unit), replicate 32 (0 :Int), PUnit.unit)).1 then k (E_3_0.e0 p7) else k (E_3_0.e1)) else k (E_3_0.e1)) else k (E_3_0.e1) else gd (p_17 (p2, p4, 0, PUnit.unit) p3) (gd (p_18 p2) (bif (v_17 (p2, p4, 0, PUnit.unit) p3).1.2.2.1 != 0 then bif (v_17 (p2, p4, 0, PUnit.unit) p3).1.2.2.1 != 18 then bif p0 == (v_17 (p2, p4, 0, PUnit.unit) p3).1.2.2.1 then gd (p_38 p5) (bif (v_38 p5).1 then gd (p_28 p6 (([], [], 0, PUnit.unit), replicate 32 (0 :Int), PUnit.unit)) (bif (v_28 p6 (([], [], 0, PUnit.unit), replicate 32 (0 :Int), PUnit.unit)).1 then k (E_3_0.e0 p7) else k (E_3_0.e1)) else k (E_3_0.e1)) else k (E_3_0.e1) else B_3_15_0_0 (J_3_15_0_0 p0 p2 p3 p4 p5 p6 p7 p5 p6 p7 ((v_17 (p2, p4, 0, PUnit.unit) p3).1) (1, (v_18 p2).1, 0, p3, PUnit.unit)) (fun y28 y29 y30 y31 y32 y33 y34 y35 => k (E_3_0.e2 y34 y35)) fun y36 y37 y38 y39 y40 y41 => k (E_3_0.e1) else B_3_15_0_0 (J_3_15_0_0 p0 p2 p3 p4 p5 p6 p7 p5 p6 p7 ((v_17 (p2, p4, 0, PUnit.unit) p3).1) (1, (v_18 p2).1, 0, p3, PUnit.unit)) (fun y42 y43 y44 y45 y46 y47 y48 y49 => k (E_3_0.e2 y48 y49)) fun y50 y51 y52 y53 y54 y55 => k (E_3_0.e1)))
noncomputable def Sp.J_3_0 (p0 p1 : Int) (p2 : (List Int × List Int × Int × Unit) × List Int × Unit) (p3 : Int × Int × List Int × (Int × List (List Int) × List (List Int) × Unit) × Unit) (p4 : Int × Int × Unit) (p5 : Int × Int × Int × (Int × Int × List Int × (Int × List (List Int) × List (List Int) × Unit) × Unit) × Unit) (p6 : (List Int × List Int × Int × Unit) × List Int × Unit) (p7 : Int × Int × Unit) : Option E_3_0 := S_3_0 some p0 p1 p2 p3 p4 p5 p6 p7
noncomputable def O_3_0 {R : Type} : Orc R := orL T_3_0 (fun a => J_3_0 a.1 a.2.1 a.2.2.1 a.2.2.2.1 a.2.2.2.2.1 a.2.2.2.2.2.1 a.2.2.2.2.2.2.1 a.2.2.2.2.2.2.2.1) Y_3_0
theorem OK_3_0 {R : Type} : okF (R := R) sm_3 3 (nf 3 0) O_3_0 := jp ov_3_3_ok (os := []) trivial T_3_0 (fun R k a => S_3_0 k a.1 a.2.1 a.2.2.1 a.2.2.2.1 a.2.2.2.2.1 a.2.2.2.2.2.1 a.2.2.2.2.2.2.1 a.2.2.2.2.2.2.2.1) Y_3_0 (fun k a => by kernel_rfl) (fun Y a => by
 unfold S_3_0
 repeat' first | apply gdN | apply condN | (apply Bn_3_15_0_0 <;> intros) | rfl) (ok0 _)
noncomputable def F_3 (a0 : (Int × (Int × (Int × ((Int × (Int × ((List Int) × ((Int × ((List (List Int)) × ((List (List Int)) × Unit))) × Unit)))) × Unit))))) (a1 : (((List Int) × ((List Int) × (Int × Unit))) × ((List Int) × Unit))) (a2 : (Int × (Int × ((List Int) × ((Int × ((List (List Int)) × ((List (List Int)) × Unit))) × Unit))))) (a3 : (Int × (Int × Unit))) : Option (Bool) :=
 gd p_7 (bif !v_7.1 then some false else gd (p_8 a1) (bif (v_8 a1).1 then some true else gd (p_9 a2) (bif (v_9 a2).1 then some true else gd (p_9 (a0.2.2.2.1)) (bif (v_9 (a0.2.2.2.1)).1 then some true else gd (p_10 a0 a1 a2 a3) (gd (p_11 a0) (bif (v_11 a0).1 then gd (p_12 a1) (bif (v_12 a1).1 then gd (p_13 a3) (bif (v_13 a3).1 then gd (p_14 a0 a1 a2) (B_3_0 (J_3_0 ((v_10 a0 a1 a2 a3).2.2.2.1) ((v_14 a0 a1 a2).1) a1 a2 a3 ((v_10 a0 a1 a2 a3).1) ((v_10 a0 a1 a2 a3).2.1) ((v_10 a0 a1 a2 a3).2.2.1)) (fun y12 => some (Ty.beq (Ty.pair (Ty.int i64) (Ty.pair (Ty.int u32) Ty.unit)) y12 (0, 0, PUnit.unit))) (some false) fun y13 y14 => some (Ty.beq (Ty.pair (Ty.int i64) (Ty.pair (Ty.int u32) Ty.unit)) y13 (y14.2.1))) else B_3_0 (J_3_0 ((v_10 a0 a1 a2 a3).2.2.2.1) 1 a1 a2 a3 ((v_10 a0 a1 a2 a3).1) ((v_10 a0 a1 a2 a3).2.1) ((v_10 a0 a1 a2 a3).2.2.1)) (fun y15 => some (Ty.beq (Ty.pair (Ty.int i64) (Ty.pair (Ty.int u32) Ty.unit)) y15 (0, 0, PUnit.unit))) (some false) fun y16 y17 => some (Ty.beq (Ty.pair (Ty.int i64) (Ty.pair (Ty.int u32) Ty.unit)) y16 (y17.2.1))) else B_3_0 (J_3_0 ((v_10 a0 a1 a2 a3).2.2.2.1) 1 a1 a2 a3 ((v_10 a0 a1 a2 a3).1) ((v_10 a0 a1 a2 a3).2.1) ((v_10 a0 a1 a2 a3).2.2.1)) (fun y18 => some (Ty.beq (Ty.pair (Ty.int i64) (Ty.pair (Ty.int u32) Ty.unit)) y18 (0, 0, PUnit.unit))) (some false) fun y19 y20 => some (Ty.beq (Ty.pair (Ty.int i64) (Ty.pair (Ty.int u32) Ty.unit)) y19 (y20.2.1))) else B_3_0 (J_3_0 ((v_10 a0 a1 a2 a3).2.2.2.1) 1 a1 a2 a3 ((v_10 a0 a1 a2 a3).1) ((v_10 a0 a1 a2 a3).2.1) ((v_10 a0 a1 a2 a3).2.2.1)) (fun y21 => some (Ty.beq (Ty.pair (Ty.int i64) (Ty.pair (Ty.int u32) Ty.unit)) y21 (0, 0, PUnit.unit))) (some false) fun y22 y23 => some (Ty.beq (Ty.pair (Ty.int i64) (Ty.pair (Ty.int u32) Ty.unit)) y22 (y23.2.1))))))))
theorem run_3 (a0 : (Int × (Int × (Int × ((Int × (Int × ((List Int) × ((Int × ((List (List Int)) × ((List (List Int)) × Unit))) × Unit)))) × Unit))))) (a1 : (((List Int) × ((List Int) × (Int × Unit))) × ((List Int) × Unit))) (a2 : (Int × (Int × ((List Int) × ((Int × ((List (List Int)) × ((List (List Int)) × Unit))) × Unit))))) (a3 : (Int × (Int × Unit))) {b : Bool} (h : F_3 a0 a1 a2 a3 = some b) : evFn sm_3 fns FU 4 3 (ofH A_3 (a0, a1, a2, a3, ())) [] bk = some b := runG ov_3_3_ok (os := [O_3_0]) ⟨OK_3_0, trivial⟩ (Eq.trans (by kernel_rfl) h)
end
end Go.Ev
namespace Go.Proofs
open Go.Shelf
noncomputable def Tryz.clone90_ren : Go.Shelf.Ren := ⟨fun | 41 => 90 | n => n, fun | 22 => 31 | 23 => 37 | 4 => 4 | n => n, fun | n => n⟩
theorem Tryz.clone90 : Go.Proofs.SlLaysE0.n41 Tryz.prog Tryz.clone90_ren := {
 mixed := by kernel_rfl
 f41 := ⟨Tryz.f90.name, by decide, Tryz.func90.trans (congrArg some (by kernel_rfl))⟩
 t4 := Tryz.underlying4
 a4 := Tryz.isAgg4
 z4 := Tryz.sizeOf4
 v4 := Tryz.zeroValue4
 t22 := Tryz.underlying31
 a22 := Tryz.isAgg31
 z22 := Tryz.sizeOf31
 v22 := Tryz.zeroValue31 }
noncomputable def Tryz.clone91_ren : Go.Shelf.Ren := ⟨fun | 41 => 91 | n => n, fun | 22 => 32 | 23 => 3 | 4 => 4 | n => n, fun | n => n⟩
theorem Tryz.clone91 : Go.Proofs.SlLaysE0.n41 Tryz.prog Tryz.clone91_ren := {
 mixed := by kernel_rfl
 f41 := ⟨Tryz.f91.name, by decide, Tryz.func91.trans (congrArg some (by kernel_rfl))⟩
 t4 := Tryz.underlying4
 a4 := Tryz.isAgg4
 z4 := Tryz.sizeOf4
 v4 := Tryz.zeroValue4
 t22 := Tryz.underlying32
 a22 := Tryz.isAgg32
 z22 := Tryz.sizeOf32
 v22 := Tryz.zeroValue32 }
end Go.Proofs
namespace Go.Ev
open Go Go.Proofs Go.RowKit
set_option maxRecDepth 100000
set_option maxHeartbeats 4000000
theorem info90 : ∃ i, Tryz.prog.info? 37 = some i ∧ i.zero = some (.int .u32 0) ∧ i.size = 1 ∧ i.bytes = 4 := ⟨_, rfl, by kernel_rfl, by kernel_rfl, by kernel_rfl⟩
theorem sok_90 : SummOK Tryz.prog 90 (vecS (.int .u32) 37 4) := by
 obtain ⟨i, hi, h0, h1, h2⟩ := info90
 exact clone_vec (by kernel_rfl) (by decide)
   (fun b off n c news w hl hn hb hc h3 => AnyE.slices_Clone Tryz.clone90 i _ 1 4 hi h0 h1 h2 (by kernel_rfl) (by decide) Tryz.sizeOf37 b off n c news w hl hn hb hc h3)
   (fun n c w => AnyE.slices_Clone_nil Tryz.clone90 n c w)
   (fun a c w => clone_zero Tryz.clone90 i _ 1 4 hi h0 h1 h2 (by kernel_rfl) (by decide) Tryz.sizeOf37 a c w)
theorem info91 : ∃ i, Tryz.prog.info? 3 = some i ∧ i.zero = some (.int .i64 0) ∧ i.size = 1 ∧ i.bytes = 8 := ⟨_, rfl, by kernel_rfl, by kernel_rfl, by kernel_rfl⟩
theorem sok_91 : SummOK Tryz.prog 91 (vecS (.int .i64) 3 8) := by
 obtain ⟨i, hi, h0, h1, h2⟩ := info91
 exact clone_vec (by kernel_rfl) (by decide)
   (fun b off n c news w hl hn hb hc h3 => AnyE.slices_Clone Tryz.clone91 i _ 1 8 hi h0 h1 h2 (by kernel_rfl) (by decide) Tryz.sizeOf3 b off n c news w hl hn hb hc h3)
   (fun n c w => AnyE.slices_Clone_nil Tryz.clone91 n c w)
   (fun a c w => clone_zero Tryz.clone91 i _ 1 8 hi h0 h1 h2 (by kernel_rfl) (by decide) Tryz.sizeOf3 a c w)
noncomputable def grow147_ren : Go.Shelf.Ren := ⟨fun | 4 => 147 | n => n, fun | 25 => 37 | 22 => 31 | 20 => 20 | n => n, fun | n => n⟩
theorem grow147_lay : Go.Proofs.Lays8.n4 Tryz.prog grow147_ren := {
 mixed := by kernel_rfl
 f4 := ⟨Tryz.f147.name, by decide, Tryz.func147.trans (congrArg some (by kernel_rfl))⟩
 t0 := Tryz.underlying0
 a0 := Tryz.isAgg0
 z0 := Tryz.sizeOf0
 v0 := Tryz.zeroValue0
 t3 := Tryz.underlying3
 a3 := Tryz.isAgg3
 z3 := Tryz.sizeOf3
 v3 := Tryz.zeroValue3
 t4 := Tryz.underlying4
 a4 := Tryz.isAgg4
 z4 := Tryz.sizeOf4
 v4 := Tryz.zeroValue4
 t9 := Tryz.underlying9
 a9 := Tryz.isAgg9
 z9 := Tryz.sizeOf9
 v9 := Tryz.zeroValue9
 t20 := Tryz.underlying20
 a20 := Tryz.isAgg20
 z20 := Tryz.sizeOf20
 v20 := Tryz.zeroValue20
 t22 := Tryz.underlying31
 a22 := Tryz.isAgg31
 z22 := Tryz.sizeOf31
 v22 := Tryz.zeroValue31 }
theorem growinfo147 : ∃ i, Tryz.prog.info? 37 = some i ∧ i.zero = some (.int .u32 0) ∧ i.size = 1 ∧ i.bytes = 4 := ⟨_, rfl, by kernel_rfl, by kernel_rfl, by kernel_rfl⟩
theorem sok_147 : SummOK Tryz.prog 147 (growS (.int .u32) 37 4) := by
 obtain ⟨i, hi, h0, h1, h2⟩ := growinfo147
 exact grow_vec (by kernel_rfl) (by decide) (fun n w hn hb => grow_calls grow147_lay i _ 1 4 hi h0 h1 h2 (by decide) (by decide) (by rfl) n w hn hb)
theorem sok_74 : SummOK Tryz.prog 74 s_74 := sokN hm0 run_74 trivial
theorem sok_75 : SummOK Tryz.prog 75 s_75 := sokN hm0 run_75 trivial
theorem sok_29 : SummOK Tryz.prog 29 s_29 := sokN hm0 run_29 ⟨sok_74, sok_75, trivial⟩
theorem sok_83 : SummOK Tryz.prog 83 s_83 := sokN hm0 run_83 trivial
theorem sok_119 : SummOK Tryz.prog 119 s_119 := sokN hm0 run_119 trivial
theorem sok_81 : SummOK Tryz.prog 81 s_81 := sokS hm0 run_81 ⟨sok_83, sok_119, trivial⟩
theorem sok_40 : SummOK Tryz.prog 40 s_40 := sokN hm0 run_40 ⟨sok_81, trivial⟩
theorem sok_43 : SummOK Tryz.prog 43 s_43 := sokN hm0 run_43 trivial
theorem sok_37 : SummOK Tryz.prog 37 s_37 := sokN hm0 run_37 ⟨sok_40, sok_43, trivial⟩
theorem sok_39 : SummOK Tryz.prog 39 s_39 := sokN hm0 run_39 trivial
theorem sok_41 : SummOK Tryz.prog 41 s_41 := sokN hm0 run_41 trivial
theorem sok_42 : SummOK Tryz.prog 42 s_42 := sokS hm0 run_42 trivial
theorem sok_109 : SummOK Tryz.prog 109 s_109 := sokS hm0 run_109 trivial
theorem sok_120 : SummOK Tryz.prog 120 s_120 := sokN hm0 run_120 trivial
theorem sok_135 : SummOK Tryz.prog 135 s_135 := sokS hm0 run_135 trivial
theorem sok_136 : SummOK Tryz.prog 136 s_136 := sokS hm0 run_136 trivial
theorem sok_121 : SummOK Tryz.prog 121 s_121 := sokS hm0 run_121 ⟨sok_135, sok_136, sok_145, trivial⟩
theorem sok_82 : SummOK Tryz.prog 82 s_82 := sokS hm0 run_82 ⟨sok_29, sok_109, sok_120, sok_121, trivial⟩
theorem sok_106 : SummOK Tryz.prog 106 s_106 := sokN hm0 run_106 ⟨sok_109, trivial⟩
theorem sok_84 : SummOK Tryz.prog 84 s_84 := sokS hm0 run_84 trivial
theorem sok_137 : SummOK Tryz.prog 137 s_137 := sokN hm0 run_137 trivial
theorem sok_148 : SummOK Tryz.prog 148 s_148 := sokN hm0 run_148 trivial
theorem sok_146 : SummOK Tryz.prog 146 s_146 := sokN hm0 run_146 ⟨sok_148, trivial⟩
theorem sok_122 : SummOK Tryz.prog 122 s_122 := sokN hm0 run_122 ⟨sok_119, sok_137, sok_146, trivial⟩
theorem sok_85 : SummOK Tryz.prog 85 s_85 := sokN hm0 run_85 ⟨sok_122, trivial⟩
theorem sok_86 : SummOK Tryz.prog 86 s_86 := sokN hm0 run_86 ⟨sok_122, trivial⟩
theorem sok_87 : SummOK Tryz.prog 87 s_87 := sokN hm0 run_87 ⟨sok_122, trivial⟩
theorem sok_45 : SummOK Tryz.prog 45 s_45 := sokN hm0 run_45 ⟨sok_83, sok_84, sok_85, sok_86, sok_87, trivial⟩
theorem sok_140 : SummOK Tryz.prog 140 s_140 := sokS hm0 run_140 ⟨sok_147, trivial⟩
theorem sok_123 : SummOK Tryz.prog 123 s_123 := sokN hm0 run_123 ⟨sok_45, sok_82, sok_109, sok_122, sok_135, sok_140, trivial⟩
theorem sok_88 : SummOK Tryz.prog 88 s_88 := sokN hm0 run_88 ⟨sok_29, sok_82, sok_106, sok_123, trivial⟩
theorem sok_46 : SummOK Tryz.prog 46 s_46 := sokN hm0 run_46 ⟨sok_88, trivial⟩
theorem sok_44 : SummOK Tryz.prog 44 s_44 := sokN hm0 run_44 ⟨sok_46, sok_82, trivial⟩
theorem sok_89 : SummOK Tryz.prog 89 s_89 := sokN hm0 run_89 trivial
theorem sok_47 : SummOK Tryz.prog 47 s_47 := sokN hm0 run_47 ⟨sok_89, trivial⟩
theorem sok_51 : SummOK Tryz.prog 51 s_51 := sokS hm0 run_51 ⟨sok_81, trivial⟩
theorem sok_124 : SummOK Tryz.prog 124 s_124 := sokN hm0 run_124 ⟨sok_74, trivial⟩
theorem sok_92 : SummOK Tryz.prog 92 s_92 := sokS hm0 run_92 ⟨sok_90, sok_91, sok_124, trivial⟩
theorem sok_93 : SummOK Tryz.prog 93 s_93 := sokS hm0 run_93 ⟨sok_90, sok_91, sok_124, trivial⟩
theorem sok_10 : SummOK Tryz.prog 10 s_10 := sokS hm0 run_10 ⟨sok_29, sok_37, sok_39, sok_40, sok_41, sok_42, sok_43, sok_44, sok_45, sok_46, sok_47, sok_51, sok_90, sok_91, sok_92, sok_93, trivial⟩
theorem sok_73 : SummOK Tryz.prog 73 s_73 := sokN hm0 run_73 trivial
theorem sok_28 : SummOK Tryz.prog 28 s_28 := sokN hm0 run_28 ⟨sok_73, trivial⟩
theorem sok_143 : SummOK Tryz.prog 143 s_143 := sokN hm0 run_143 trivial
theorem sok_144 : SummOK Tryz.prog 144 s_144 := sokN hm0 run_144 trivial
theorem sok_133 : SummOK Tryz.prog 133 s_133 := sokN hm0 run_133 ⟨sok_143, sok_144, trivial⟩
theorem sok_117 : SummOK Tryz.prog 117 s_117 := sokS hm0 run_117 ⟨sok_133, trivial⟩
theorem sok_79 : SummOK Tryz.prog 79 s_79 := sokS hm0 run_79 ⟨sok_117, trivial⟩
theorem sok_34 : SummOK Tryz.prog 34 s_34 := sokS hm0 run_34 ⟨sok_75, sok_79, trivial⟩
theorem sok_35 : SummOK Tryz.prog 35 s_35 := sokS hm0 run_35 trivial
theorem sok_36 : SummOK Tryz.prog 36 s_36 := sokN hm0 run_36 trivial
theorem sok_118 : SummOK Tryz.prog 118 s_118 := sokN hm0 run_118 trivial
theorem sok_80 : SummOK Tryz.prog 80 s_80 := sokN hm0 run_80 ⟨sok_118, trivial⟩
theorem sok_38 : SummOK Tryz.prog 38 s_38 := sokN hm0 run_38 ⟨sok_80, trivial⟩
theorem sok_7 : SummOK Tryz.prog 7 s_7 := sokN hm0 run_7 ⟨sok_10, sok_28, sok_34, sok_35, sok_36, sok_37, sok_38, trivial⟩
theorem sok_8 : SummOK Tryz.prog 8 s_8 := sokN hm0 run_8 trivial
theorem sok_9 : SummOK Tryz.prog 9 s_9 := sokN hm0 run_9 trivial
theorem sok_95 : SummOK Tryz.prog 95 s_95 := sokN hm0 run_95 trivial
theorem sok_53 : SummOK Tryz.prog 53 s_53 := sokN hm0 run_53 ⟨sok_95, trivial⟩
theorem sok_11 : SummOK Tryz.prog 11 s_11 := sokN hm0 run_11 ⟨sok_38, sok_53, trivial⟩
theorem sok_96 : SummOK Tryz.prog 96 s_96 := sokN hm0 run_96 trivial
theorem sok_54 : SummOK Tryz.prog 54 s_54 := sokN hm0 run_54 ⟨sok_96, trivial⟩
theorem sok_55 : SummOK Tryz.prog 55 s_55 := sokN hm0 run_55 trivial
theorem sok_12 : SummOK Tryz.prog 12 s_12 := sokN hm0 run_12 ⟨sok_54, sok_55, trivial⟩
theorem sok_13 : SummOK Tryz.prog 13 s_13 := sokN hm0 run_13 trivial
theorem sok_30 : SummOK Tryz.prog 30 s_30 := sokS hm0 run_30 trivial
theorem sok_97 : SummOK Tryz.prog 97 s_97 := sokS hm0 run_97 trivial
theorem sok_131 : SummOK Tryz.prog 131 s_131 := sokS hm0 run_131 trivial
theorem sok_141 : SummOK Tryz.prog 141 s_141 := sokN hm0 run_141 trivial
theorem sok_142 : SummOK Tryz.prog 142 s_142 := sokN hm0 run_142 trivial
theorem sok_132 : SummOK Tryz.prog 132 s_132 := sokN hm0 run_132 ⟨sok_141, sok_142, trivial⟩
theorem sok_116 : SummOK Tryz.prog 116 s_116 := sokN hm0 run_116 ⟨sok_131, sok_132, trivial⟩
theorem sok_98 : SummOK Tryz.prog 98 s_98 := sokN hm0 run_98 ⟨sok_116, trivial⟩
theorem sok_99 : SummOK Tryz.prog 99 s_99 := sokN hm0 run_99 ⟨sok_116, trivial⟩
theorem sok_100 : SummOK Tryz.prog 100 s_100 := sokN hm0 run_100 ⟨sok_116, trivial⟩
theorem sok_57 : SummOK Tryz.prog 57 s_57 := sokN hm0 run_57 ⟨sok_95, sok_97, sok_98, sok_99, sok_100, trivial⟩
theorem sok_107 : SummOK Tryz.prog 107 s_107 := sokN hm0 run_107 trivial
theorem sok_113 : SummOK Tryz.prog 113 s_113 := sokN hm0 run_113 trivial
theorem sok_114 : SummOK Tryz.prog 114 s_114 := sokS hm0 run_114 trivial
theorem sok_77 : SummOK Tryz.prog 77 s_77 := sokS hm0 run_77 ⟨sok_12, sok_30, sok_107, sok_113, sok_114, trivial⟩
theorem sok_78 : SummOK Tryz.prog 78 s_78 := sokN hm0 run_78 ⟨sok_116, trivial⟩
theorem sok_32 : SummOK Tryz.prog 32 s_32 := sokN hm0 run_32 ⟨sok_30, sok_57, sok_77, sok_78, trivial⟩
theorem sok_104 : SummOK Tryz.prog 104 s_104 := sokN hm0 run_104 ⟨sok_30, sok_32, trivial⟩
theorem sok_63 : SummOK Tryz.prog 63 s_63 := sokN hm0 run_63 ⟨sok_12, sok_30, sok_104, trivial⟩
theorem sok_18 : SummOK Tryz.prog 18 s_18 := sokN hm0 run_18 ⟨sok_63, trivial⟩
theorem sok_24 : SummOK Tryz.prog 24 s_24 := sokN hm0 run_24 ⟨sok_53, trivial⟩
theorem sok_56 : SummOK Tryz.prog 56 s_56 := sokN hm0 run_56 ⟨sok_30, sok_63, trivial⟩
theorem sok_58 : SummOK Tryz.prog 58 s_58 := sokN hm0 run_58 trivial
theorem sok_14 : SummOK Tryz.prog 14 s_14 := sokN hm0 run_14 ⟨sok_18, sok_24, sok_56, sok_57, sok_58, trivial⟩
theorem sok_112 : SummOK Tryz.prog 112 s_112 := sokS hm0 run_112 trivial
theorem sok_76 : SummOK Tryz.prog 76 s_76 := sokS hm0 run_76 ⟨sok_112, trivial⟩
theorem sok_31 : SummOK Tryz.prog 31 s_31 := sokS hm0 run_31 ⟨sok_76, trivial⟩
theorem sok_101 : SummOK Tryz.prog 101 s_101 := sokN hm0 run_101 trivial
theorem sok_60 : SummOK Tryz.prog 60 s_60 := sokS hm0 run_60 ⟨sok_13, sok_54, sok_101, trivial⟩
theorem sok_103 : SummOK Tryz.prog 103 s_103 := sokS hm0 run_103 ⟨sok_13, sok_54, sok_101, trivial⟩
theorem sok_61 : SummOK Tryz.prog 61 s_61 := sokS hm0 run_61 ⟨sok_103, trivial⟩
theorem sok_62 : SummOK Tryz.prog 62 s_62 := sokN hm0 run_62 trivial
theorem sok_17 : SummOK Tryz.prog 17 s_17 := sokS hm0 run_17 ⟨sok_18, sok_31, sok_60, sok_61, sok_62, trivial⟩
theorem sok_59 : SummOK Tryz.prog 59 s_59 := sokN hm0 run_59 ⟨sok_80, trivial⟩
theorem call_3 {R : Type} (n base : Nat) : CallOK Tryz.prog base (rokOf Tryz.prog smB fns) (evFn (R := R) sm_3 fns FU n) := callG hm0 (l := [(7, s_7), (8, s_8), (9, s_9), (10, s_10), (11, s_11), (12, s_12), (13, s_13), (14, s_14), (17, s_17), (18, s_18), (28, s_28), (38, s_38), (59, s_59)]) ⟨sok_7, sok_8, sok_9, sok_10, sok_11, sok_12, sok_13, sok_14, sok_17, sok_18, sok_28, sok_38, sok_59, trivial⟩ n base
end Go.Ev
